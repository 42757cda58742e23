/- The engine, part one: what a call owns, as a list of assertions on blocks that do not meet; frames as lists of slots. No program is named. The engine, part two: operations that give a value and leave the world alone. No program is named. The engine, part three: effects, and how operations and code are strung together. No program is named. The engine, part four: what a law's arguments hold, read off their types once and for all. The engine, part five: slices of slices, a cut between a piece of code and what follows it, sizes that are known of arguments. No program is named. The engine, part six: slices held against nil; what a call gave that owns several things; elements of own rows. No program is named. -/
import Derived.Test.YtndcjmopebcdgaaGreatDoorBase
import Derived.Deep.RegionHeld3
import Derived.Laws.StructEq
import Derived.DeepKeys
import Derived.ChangeKeysEq
import Derived.OpenShut
import Derived.SizedLaws
set_option linter.unusedSimpArgs false
set_option linter.unusedVariables false
namespace Go.Proofs.YtndcjmopebcdgaaGreatDoor
section
open Go.RowKit
structure Asn where
 holds:World→(Nat→Prop)→Prop
 loc:∀w w' F,holds w F→(∀k,F k→w'.heap[k]?=w.heap[k]?)→holds w' F
structure Chg(F:Nat→Prop)(w w':World):Prop where
 os:w'.os=w.os
 tape:w'.tape=w.tape
 output:w'.output=w.output
 size:w.heap.size≤w'.heap.size
 block:∀k,k<w.heap.size→¬F k→w'.heap[k]?=w.heap[k]?
abbrev NoB:Nat→Prop:=fun _=>False
section
variable {F:Nat→Prop} {w w' w'':World}
theorem Chg.refl(F:Nat→Prop)(w:World):Chg F w w:=⟨rfl,rfl,rfl,Nat.le_refl _,fun _ _ _=>rfl⟩
theorem Chg.trans(h:Chg F w w')(k:Chg F w' w''):Chg F w w'':=
 ⟨k.os.trans h.os,k.tape.trans h.tape,k.output.trans h.output,Nat.le_trans h.size k.size,fun i hi hF=>(k.block i (Nat.lt_of_lt_of_le hi h.size) hF).trans (h.block i hi hF)⟩
theorem Chg.of_below(h:Below w.heap.size w w'):Chg F w w':=⟨h.os,h.tape,h.output,h.size,fun k hk _=>h.block k hk⟩
theorem Chg.below(h:Chg NoB w w'):Below w.heap.size w w':=⟨h.os,h.tape,h.output,h.size,fun k hk=>h.block k hk id⟩
theorem Chg.mono{G:Nat→Prop}(h:Chg F w w')(hFG:∀k,k<w.heap.size→F k→G k):Chg G w w':=⟨h.os,h.tape,h.output,h.size,fun k hk hG=>h.block k hk fun hF=>hG (hFG k hk hF)⟩
theorem Chg.of_only{b:Nat}(h:Only b w w'):Chg (· =b) w w':=⟨h.os,h.tape,h.output,Nat.le_of_eq h.size.symm,fun k _ hk=>h.block k hk⟩
end
def Own(w:World):(Nat→Prop)→List Asn→Prop
 |_,[]=>True
 |G,A::r=>∃F,A.holds w F∧(∀k,F k→¬G k∧k<w.heap.size)∧Own w (fun k=>G k∨F k) r
theorem Own.mono{w w':World}(hs:w.heap.size≤w'.heap.size):∀(es:List Asn) (G G':Nat→Prop),(∀k,k<w.heap.size→¬G k→¬G' k∧w'.heap[k]?=w.heap[k]?)→Own w G es→Own w' G' es
 |[],_,_,_,_=>trivial
 |A::r,G,G',h,⟨F,hA,hF,hr⟩=>
  ⟨F,A.loc _ _ F hA fun k hk=>(h k (hF k hk).2 (hF k hk).1).2,fun k hk=>⟨(h k (hF k hk).2 (hF k hk).1).1,by have:=(hF k hk).2;omega⟩,
   Own.mono hs r _ _ (fun k hk hn=>⟨fun hor=>hor.elim (h k hk fun hg=>hn (.inl hg)).1 fun hf=>hn (.inr hf),(h k hk fun hg=>hn (.inl hg)).2⟩) hr⟩
theorem Own.get{w:World}:∀(es:List Asn) (G:Nat→Prop) (i:Nat) (A:Asn),Own w G es→es[i]?=some A→∃F,A.holds w F∧∀k,F k→¬G k∧k<w.heap.size
 |[],_,i,_,_,h=>by simp at h
 |B::r,G,0,A,⟨F,hA,hF,_⟩,h=>by
  obtain rfl:B=A:=by simpa using h
  exact⟨F,hA,hF⟩
 |B::r,G,i+1,A,⟨F,_,_,hr⟩,h=>by
  obtain⟨F',hA',hF'⟩:=Own.get r _ i A hr (by simpa using h)
  exact⟨F',hA',fun k hk=>⟨fun hg=>(hF' k hk).1 (.inl hg),(hF' k hk).2⟩⟩
theorem Own.upd{w w':World}(hs:w.heap.size≤w'.heap.size):∀(es:List Asn) (G G':Nat→Prop) (i:Nat) (A A':Asn),Own w G es→es[i]?=some A→
  (∀F,A.holds w F→(∀k,F k→¬G k)→(∀k,k<w.heap.size→¬F k→w'.heap[k]?=w.heap[k]?)∧(∀k,k<w.heap.size→F k→¬G' k)∧∃F',A'.holds w' F'∧(∀k,F' k→¬G' k∧k<w'.heap.size∧(F k∨w.heap.size≤k)))→
  (∀k,k<w.heap.size→¬G k→¬G' k)→Own w' G' (es.set i A')
 |[],_,_,_,_,_,_,h,_,_=>by simp at h
 |B::r,G,G',0,A,A',⟨F,hB,hF,hr⟩,h,hu,hG=>by
  obtain rfl:B=A:=by simpa using h
  obtain⟨h1,_,F',hA',hF'⟩:=hu F hB fun k hk=>(hF k hk).1
  refine⟨F',hA',fun k hk=>⟨(hF' k hk).1,(hF' k hk).2.1⟩,Own.mono hs r _ _ (fun k hk hn=>⟨fun hor=>hor.elim (hG k hk fun hg=>hn (.inl hg)) fun hf=>?_,h1 k hk fun hf=>hn (.inr hf)⟩) hr⟩
  rcases(hF' k hf).2.2 with h2|h2
  ·exact hn (.inr h2)
  ·omega
 |B::r,G,G',i+1,A,A',⟨F,hB,hF,hr⟩,h,hu,hG=>by
  obtain⟨FA,hAg,hFA⟩:=Own.get r _ i A hr (by simpa using h)
  have hd:∀k,F k→¬FA k:=fun k hk hfa=>(hFA k hfa).1 (.inr hk)
  obtain⟨h1,h2,_⟩:=hu FA hAg fun k hk hg=>(hFA k hk).1 (.inl hg)
  refine⟨F,B.loc _ _ F hB fun k hk=>h1 k (hF k hk).2 (hd k hk),fun k hk=>⟨hG k (hF k hk).2 (hF k hk).1,by have:=(hF k hk).2;omega⟩,?_⟩
  refine Own.upd hs r _ _ i A A' hr (by simpa using h) (fun F2 hA2 hF2=>?_) (fun k hk hn hor=>hor.elim (hG k hk fun hg=>hn (.inl hg)) fun hf=>hn (.inr hf))
  obtain⟨k1,k2,F',k3,k4⟩:=hu F2 hA2 fun k hk hg=>hF2 k hk (.inl hg)
  refine⟨k1,fun k hk hf hor=>hor.elim (k2 k hk hf) fun hF'=>hF2 k hf (.inr hF'),F',k3,fun k hk=>⟨fun hor=>hor.elim (k4 k hk).1 fun hFk=>?_,(k4 k hk).2⟩⟩
  rcases(k4 k hk).2.2 with h5|h5
  ·exact hF2 k h5 (.inr hFk)
  ·have:=(hF k hFk).2
   omega
theorem Own.del{w:World}:∀(es:List Asn) (G:Nat→Prop) (i:Nat),Own w G es→Own w G (es.eraseIdx i)
 |[],_,_,_=>trivial
 |B::r,G,0,⟨F,_,_,hr⟩=>Own.mono (Nat.le_refl _) r _ _ (fun k _ hn=>⟨fun hg=>hn (.inl hg),rfl⟩) hr
 |B::r,G,i+1,⟨F,hB,hF,hr⟩=>⟨F,hB,hF,Own.del r _ i hr⟩
theorem Own.front{w:World}:∀(es:List Asn) (G:Nat→Prop) (i:Nat) (A:Asn),Own w G es→es[i]?=some A→Own w G (A::es.eraseIdx i)
 |[],_,_,_,_,h=>by simp at h
 |B::r,G,0,A,h,hi=>by
  obtain rfl:B=A:=by simpa using hi
  exact h
 |B::r,G,i+1,A,⟨F,hB,hF,hr⟩,hi=>by
  obtain⟨FA,hA,hFA,hrest⟩:=Own.front r _ i A hr (by simpa using hi)
  refine⟨FA,hA,fun k hk=>⟨fun hg=>(hFA k hk).1 (.inl hg),(hFA k hk).2⟩,F,hB,fun k hk=>⟨fun hor=>hor.elim (hF k hk).1 fun hfa=>(hFA k hfa).1 (.inr hk),(hF k hk).2⟩,?_⟩
  exact Own.mono (Nat.le_refl _) _ _ _ (fun k _ hn=>⟨fun hor=>hn (by rcases hor with(h|h)|h<;>simp[h]),rfl⟩) hrest
structure Wd(w0:World)(X:Nat→Prop)(es:List Asn)(w:World):Prop where
 chg:Chg X w0 w
 own:Own w (fun k=>k<w0.heap.size∧¬X k) es
section
variable {w0 w w':World} {X:Nat→Prop} {es:List Asn}
theorem Wd.start(w0:World)(X:Nat→Prop):Wd w0 X [] w0:=⟨Chg.refl _ _,trivial⟩
theorem Wd.size(h:Wd w0 X es w):w0.heap.size≤w.heap.size:=h.chg.size
theorem Wd.below(h:Wd w0 NoB es w):Below w0.heap.size w0 w:=h.chg.below
theorem Wd.kept(h:Wd w0 X es w)(hb:Below w.heap.size w w'):Wd w0 X es w':=
 ⟨h.chg.trans (Chg.of_below hb),Own.mono hb.size es _ _ (fun k hk hn=>⟨hn,hb.block k hk⟩) h.own⟩
theorem Wd.drewN(h:Wd w0 X es w)(n:Nat):Wd w0 X es (w.drewN n):=h.kept (below_drewN (Below.refl _ _) n)
theorem Wd.drawn(h:Wd w0 X es w):Wd w0 X es {w with drawn:=w.drawn+1}:=h.drewN 1
theorem Wd.del(h:Wd w0 X es w)(i:Nat){es':List Asn}(he:es.eraseIdx i=es'):Wd w0 X es' w:=he▸⟨h.chg,h.own.del _ _ i⟩
theorem Wd.front(h:Wd w0 X es w)(i:Nat){A:Asn}{r:List Asn}(hi:es[i]?=some A)(hr:es.eraseIdx i=r):Wd w0 X (A::r) w:=hr▸⟨h.chg,h.own.front _ _ i A hi⟩
theorem Wd.none_(h:Wd w0 X es w):Wd w0 X [] w:=⟨h.chg,trivial⟩
theorem Wd.add(h:Wd w0 X es w)(hb:Below w.heap.size w w'){A:Asn}{F:Nat→Prop}(hA:A.holds w' F)(hF:∀k,F k→w.heap.size≤k∧k<w'.heap.size):Wd w0 X (A::es) w':=by
 have hz:=h.size
 refine⟨h.chg.trans (Chg.of_below hb),F,hA,fun k hk=>⟨fun hg=>?_,(hF k hk).2⟩,Own.mono hb.size es _ _ (fun k hk hn=>⟨fun hor=>hor.elim hn fun hf=>?_,hb.block k hk⟩) h.own⟩
 ·have:=(hF k hk).1;omega
 ·have:=(hF k hf).1;omega
theorem Wd.upd(h:Wd w0 X es w)(i:Nat){A A':Asn}(hi:es[i]?=some A)
  (hu:∀F,A.holds w F→Chg F w w'∧∃F',A'.holds w' F'∧∀k,F' k→k<w'.heap.size∧(F k∨w.heap.size≤k)):Wd w0 X (es.set i A') w':=by
 obtain⟨F,hA,hF⟩:=Own.get es _ i A h.own hi
 have hz:=h.size
 obtain⟨hc,_⟩:=hu F hA
 have hcX:Chg X w0 w':=by
  refine⟨hc.os.trans h.chg.os,hc.tape.trans h.chg.tape,hc.output.trans h.chg.output,Nat.le_trans hz hc.size,fun k hk hX=>?_⟩
  exact(hc.block k Om fun hf=>(hF k hf).1 ⟨hk,hX⟩).trans (h.chg.block k hk hX)
 refine⟨hcX,Own.upd hc.size es _ _ i A A' h.own hi (fun F2 hA2 hF2=>?_) (fun k _ hn=>hn)⟩
 obtain⟨hc2,F',h3,h4⟩:=hu F2 hA2
 refine⟨hc2.block,fun k _ hf=>hF2 k hf,F',h3,fun k hk=>⟨?_,h4 k hk⟩⟩
 rcases(h4 k hk).2 with h5|h5
 ·exact hF2 k h5
 ·rintro⟨h6,_⟩;omega
end
def Asn.blk(b:Nat)(T:TypeId)(l:List Value):Asn where
 holds w F:=F b∧(∀k,F k→k=b)∧Blk w b T l
 loc:=fun _ _ _ h hk=>⟨h.1,h.2.1,(hk _ h.1).trans h.2.2⟩
def Asn.res(R:World→Prop):Asn where
 holds w F:=∀w',(∀k,F k→w'.heap[k]?=w.heap[k]?)→R w'
 loc:=fun _ _ _ h hk w'' hk'=>h w'' fun k hF=>(hk' k hF).trans (hk k hF)
def Asn.row(T:TypeId)(size:Nat)(v:Value)(n:Nat)(cs:List Value):Asn where
 holds w F:=w.ownsRow 0 T size v n cs∧∀k,v.ownBlock=some k→F k
 loc:=fun w w' F h hk=>by
  refine⟨⟨h.1.1,?_⟩,h.2⟩
  rcases h.1.2 with h2|⟨g,cap,cur,hv,hg,hh,r⟩
  ·exact .inl h2
  ·exact .inr ⟨g,cap,cur,hv,hg,(hk g (h.2 g (by rw[hv];rfl))).trans hh,r⟩
section
variable {w0 w w':World} {X:Nat→Prop} {es:List Asn}
theorem Wd.blk(h:Wd w0 X es w)(i:Nat){b:Nat}{T:TypeId}{l:List Value}(hi:es[i]?=some (.blk b T l)):Blk w b T l:=by
 obtain⟨F,hA,_⟩:=Own.get es _ i _ h.own hi
 exact hA.2.2
theorem Wd.res(h:Wd w0 X es w)(i:Nat){R:World→Prop}(hi:es[i]?=some (.res R)):R w:=by
 obtain⟨F,hA,_⟩:=Own.get es _ i _ h.own hi
 exact hA w fun _ _=>rfl
theorem Wd.row(h:Wd w0 X es w)(i:Nat){T:TypeId}{size n:Nat}{v:Value}{cs:List Value}(hi:es[i]?=some (.row T size v n cs)):w.ownsRow 0 T size v n cs:=by
 obtain⟨F,hA,_⟩:=Own.get es _ i _ h.own hi
 exact hA.1
theorem Wd.blk_ge(h:Wd w0 X es w)(i:Nat){b:Nat}{T:TypeId}{l:List Value}(hi:es[i]?=some (.blk b T l)):¬(b<w0.heap.size∧¬X b)∧b<w.heap.size:=by
 obtain⟨F,hA,hF⟩:=Own.get es _ i _ h.own hi
 exact hF b hA.1
theorem Wd.new(h:Wd w0 X es w)(cs:Array Value)(T:TypeId):Wd w0 X (.blk w.heap.size T cs.toList::es) (w.alloc (.cells cs T)):=
 h.add (F:=fun k=>k=w.heap.size) ((Below.refl _ _).alloc1 _) ⟨rfl,fun _ h=>h,Blk.new w cs T⟩ fun k hk=>by rw[hk,World.size_alloc];omega
theorem Wd.newL(h:Wd w0 X es w)(cs:Array Value)(T:TypeId){l:List Value}(hl:cs.toList=l):Wd w0 X (.blk w.heap.size T l::es) (w.alloc (.cells cs T)):=hl▸h.new cs T
theorem Wd.only(h:Wd w0 X es w)(i:Nat){b:Nat}{T T':TypeId}{l l':List Value}(hi:es[i]?=some (.blk b T l))(ho:Only b w w')(hB:Blk w' b T' l'):Wd w0 X (es.set i (.blk b T' l')) w':=
 h.upd i hi fun F hF=>⟨(Chg.of_only ho).mono fun k _ hk=>hk▸hF.1,(· =b),⟨rfl,fun _ h=>h,hB⟩,fun k hk=>⟨by subst hk;exact hB.lt,.inl (hk▸hF.1)⟩⟩
theorem Wd.set(h:Wd w0 X es w)(i:Nat){b o:Nat}{T:TypeId}{l:List Value}(hi:es[i]?=some (.blk b T l))(v:Value):Wd w0 X (es.set i (.blk b T (l.set o v))) (w.setCell ⟨b,o,none⟩ v):=
 h.only i hi (Only.set w b o v) ((h.blk i hi).set o v)
theorem Wd.got(h:Wd w0 X es w)(hb:Below w.heap.size w w'){R:World→Prop}(hR:∀w'',(∀k,w.heap.size≤k→k<w'.heap.size→w''.heap[k]?=w'.heap[k]?)→R w''):Wd w0 X (.res R::es) w':=
 h.add (F:=fun k=>w.heap.size≤k∧k<w'.heap.size) hb (fun w'' hk=>hR w'' fun k h1 h2=>hk k ⟨h1,h2⟩) fun _ hk=>hk
theorem Wd.got_row(h:Wd w0 X es w)(hb:Below w.heap.size w w'){T:TypeId}{size n:Nat}{v:Value}{cs:List Value}(hR:w'.ownsRow w.heap.size T size v n cs):Wd w0 X (.row T size v n cs::es) w':=
 h.add (F:=fun k=>w.heap.size≤k∧k<w'.heap.size) hb ⟨ownsRow_less hR (Nat.zero_le _),fun k hk=>by
  have:=hR.lt k hk
  exact this⟩ fun _ hk=>hk
theorem Wd.nil_row(h:Wd w0 X es w)(T:TypeId)(size:Nat):Wd w0 X (.row T size (.slice none 0 0) 0 []::es) w:=
 h.add (F:=fun _=>False) (Below.refl _ _) ⟨World.ownsRow_nil _ _ _ _,fun k hk=>by simp[Value.ownBlock] at hk⟩ fun _ hk=>hk.elim
theorem Wd.grown(h:Wd w0 X es w)(i:Nat){T:TypeId}{size n n':Nat}{v v':Value}{cs cs':List Value}(hi:es[i]?=some (.row T size v n cs))
  (hown:w'.ownsRow 0 T size v' n' cs') (hg:w.grownBy w' v.ownBlock) (hat:v'.ownBlock=v.ownBlock∨v'.ownBlock=some w.heap.size):Wd w0 X (es.set i (.row T size v' n' cs')) w':=
 h.upd i hi fun F hF=>by
  refine⟨⟨hg.os,hg.tape,hg.output,hg.size,fun k hk hn=>hg.block k hk fun e=>hn (hF.2 k e.symm)⟩,fun k=>v'.ownBlock=some k,⟨hown,fun _ h=>h⟩,fun k hk=>⟨(hown.lt k hk).2,?_⟩⟩
  rcases hat with e|e
  ·exact .inl (hF.2 k (e▸hk))
  ·rw[e] at hk
   simp only[Option.some.injEq] at hk
   exact .inr Om
end
structure Fr(ds:List Deferred)(N:Nat)(env:List (Nat×Value))(a:Act):Prop where
 size:a.tmps.size=N
 defers:a.defers=ds
 env:∀t v,(t,v)∈env→a.tmps[t]?=some v
def evT:List (Nat×Value)→Nat→Option Value
 |[],_=>none
 |(t,v)::r,k=>bif Nat.beq t k then some v else evT r k
def fresh:List (Nat×Value)→Nat→Bool
 |[],_=>true
 |(t,_)::r,k=>bif Nat.beq t k then false else fresh r k
def ev(env:List (Nat×Value)):Operand→Option Value
 | .tmp t=>evT env t
 | .const v=>some v
 | .global g=>some (.pointer (some ⟨g,0,none⟩))
 | .func f=>some (.func (.func f) #[] #[])
def evs(env:List (Nat×Value)):List Operand→Option (List Value)
 |[]=>some []
 |x::r=>match ev env x,evs env r with
  |some v,some vs=>some (v::vs)
  |_,_=>none
theorem mem_evT:∀(env:List (Nat×Value)) (t:Nat) (v:Value),evT env t=some v→(t,v)∈env
 |[],_,_,h=>by simp[evT] at h
 |(t',v')::r,t,v,h=>by
  unfold evT at h
  cases hb:Nat.beq t' t with
  |true=>
   rw[hb] at h
   simp only[cond_true,Option.some.injEq] at h
   rw[Nat.eq_of_beq_eq_true hb,h]
   exact List.mem_cons_self
  |false=>
   rw[hb] at h
   exact List.mem_cons_of_mem _ (mem_evT r t v h)
section
variable {ds:List Deferred} {N:Nat} {env:List (Nat×Value)} {a:Act}
theorem Fr.slot(h:Fr ds N env a){t:Nat}{v:Value}(ht:evT env t=some v):a.tmps[t]?=some v:=h.env t v (mem_evT env t v ht)
theorem Fr.ev(h:Fr ds N env a):∀{x:Operand} {v:Value},ev env x=some v→a.eval x=v
 | .tmp t,v,ht=>by
  show a.tmps.getD t undef=v
  rw[Array.getD_eq_getD_getElem?,h.slot ht]
  rfl
 | .const _,_,ht=>Option.some.inj ht
 | .global _,_,ht=>Option.some.inj ht
 | .func _,_,ht=>Option.some.inj ht
theorem Fr.evs(h:Fr ds N env a):∀(l:List Operand) (vs:List Value),evs env l=some vs→l.map a.eval=vs
 |[],vs,e=>by simpa[Proofs.YtndcjmopebcdgaaGreatDoor.evs] using e
 |x::r,vs,e=>by
  unfold Proofs.YtndcjmopebcdgaaGreatDoor.evs at e
  cases h1:Proofs.YtndcjmopebcdgaaGreatDoor.ev env x with
  |none=>simp[h1] at e
  |some v=>
   cases h2:Proofs.YtndcjmopebcdgaaGreatDoor.evs env r with
   |none=>simp[h1,h2] at e
   |some ws=>
    simp only[h1,h2,Option.some.injEq] at e
    rw[←e,List.map_cons,h.ev h1,h.evs r ws h2]
theorem Fr.cons(h:Fr ds N env a){t:Nat}{v v':Value}{env':List (Nat×Value)}(ht:evT env t=some v)(hv:v=v')(h':Fr ds N env' a):Fr ds N ((t,v')::env') a:=
 ⟨h.size,h.defers,fun s u hs=>by
  rcases List.mem_cons.1 hs with e|hs
  ·obtain⟨rfl,rfl⟩:=Prod.mk.inj e
   exact hv▸h.slot ht
  ·exact h'.env s u hs⟩
theorem Fr.k(h:Fr ds N env a)(t:Nat){v:Value}(ht:evT env t=some v){env':List (Nat×Value)}(h':Fr ds N env' a):Fr ds N ((t,v)::env') a:=h.cons ht rfl h'
def selT(env:List (Nat×Value)):List Nat→Option (List (Nat×Value))
 |[]=>some []
 |t::r=>match evT env t with
  |none=>none
  |some v=>match selT env r with
   |none=>none
   |some l=>some ((t,v)::l)
theorem mem_selT(env:List (Nat×Value)):∀(ks:List Nat) (l:List (Nat×Value)),selT env ks=some l→∀t v,(t,v)∈l→evT env t=some v
 |[],_,h,_,_,hm=>by
  cases h
  cases hm
 |k::r,l,h,t,v,hm=>by
  unfold selT at h
  cases he:evT env k with
  |none=>rw[he] at h;cases h
  |some u=>
   rw[he] at h
   cases hr:selT env r with
   |none=>rw[hr] at h;cases h
   |some l'=>
    rw[hr] at h
    cases h
    rcases List.mem_cons.1 hm with e|hm
    ·cases e;exact he
    ·exact mem_selT env r l' hr t v hm
theorem Fr.ks(h:Fr ds N env a)(ks:List Nat){env':List (Nat×Value)}(he:selT env ks=some env'):Fr ds N env' a:=⟨h.size,h.defers,fun t v hm=>h.slot (mem_selT env ks env' he t v hm)⟩
theorem Fr.tt{d:Nat}{b:Bool}(h:Fr ds N ((d,.bool b)::env) a)(hb:b=true:=by first|decide|(simp;done)|rfl):Fr ds N ((d,.bool true)::env) a:=hb▸h
theorem Fr.ff{d:Nat}{b:Bool}(h:Fr ds N ((d,.bool b)::env) a)(hb:b=false:=by first|decide|(simp;done)|rfl):Fr ds N ((d,.bool false)::env) a:=hb▸h
theorem Fr.nil(h:Fr ds N env a):Fr ds N [] a:=⟨h.size,h.defers,fun _ _ h=>by cases h⟩
theorem fresh_ne:∀(env:List (Nat×Value)) (d t:Nat) (v:Value),fresh env d=true→(t,v)∈env→d≠t
 |[],_,_,_,_,h=>by cases h
 |(t',v')::r,d,t,v,hf,h=>by
  unfold fresh at hf
  cases hb:Nat.beq t' d with
  |true=>rw[hb] at hf;cases hf
  |false=>
   rw[hb] at hf
   rcases List.mem_cons.1 h with e|h
   ·obtain⟨rfl,rfl⟩:=Prod.mk.inj e
    rintro rfl
    have:Nat.beq d d=true:=Nat.beq_refl d
    rw[this] at hb
    cases hb
   ·exact fresh_ne r d t v hf h
theorem Fr.put(h:Fr ds N env a){d:Nat}(v:Value)(hd:Nat.blt d N=true)(hf:fresh env d=true):Fr ds N ((d,v)::env) (a.put (some d) v):=by
 have hlt:d<N:=by simpa using hd
 refine⟨?_,h.defers,fun s u hs=>?_⟩
 ·show(a.tmps.setIfInBounds d v).size=N
  rw[Array.size_setIfInBounds,h.size]
 ·show(a.tmps.setIfInBounds d v)[s]?=some u
  rcases List.mem_cons.1 hs with e|hs
  ·obtain⟨rfl,rfl⟩:=Prod.mk.inj e
   rw[Array.getElem?_setIfInBounds_self_of_lt (by rw[h.size];exact hlt)]
  ·rw[Array.getElem?_setIfInBounds_ne (fresh_ne env d s u hf hs)]
   exact h.env s u hs
theorem Fr.bool{d:Nat}{b t:Bool}(hb:b=t)(h:Fr ds N ((d,.bool b)::env) a):Fr ds N ((d,.bool t)::env) a:=hb▸h
theorem Fr.cast{d:Nat}{v v':Value}(hv:v=v')(h:Fr ds N ((d,v)::env) a):Fr ds N ((d,v')::env) a:=hv▸h
theorem Fr.yielded(h:Fr ds N env a){ops:Array Oper}{j t:Nat}{b:Bool}(hj:(ops[j]?).bind (·.dst)=some t)(ht:evT env t=some (.bool b)):yielded ops a.tmps j=some b:=by
 unfold Go.yielded
 rw[hj]
 simp only[Option.bind_some]
 rw[h.slot ht]
end
def dropT:List (Nat×Value)→Nat→List (Nat×Value)
 |[],_=>[]
 |(t,v)::r,k=>bif Nat.beq t k then dropT r k else(t,v)::dropT r k
theorem mem_dropT:∀(env:List (Nat×Value)) (k t:Nat) (v:Value),(t,v)∈dropT env k→(t,v)∈env
 |[],_,_,_,h=>h
 |(t',v')::r,k,t,v,h=>by
  unfold dropT at h
  cases hb:Nat.beq t' k with
  |true=>
   rw[hb] at h
   exact List.mem_cons_of_mem _ (mem_dropT r k t v h)
  |false=>
   rw[hb] at h
   rcases List.mem_cons.1 h with e|h
   ·rw[e];exact List.mem_cons_self
   ·exact List.mem_cons_of_mem _ (mem_dropT r k t v h)
section
variable {ds:List Deferred} {N:Nat} {env:List (Nat×Value)} {a:Act}
theorem Fr.drop(h:Fr ds N env a)(k:Nat):Fr ds N (dropT env k) a:=⟨h.size,h.defers,fun t v ht=>h.env t v (mem_dropT env k t v ht)⟩
theorem Fr.app{env':List (Nat×Value)}(h:Fr ds N env a)(h':Fr ds N env' a):Fr ds N (env++env') a:=
 ⟨h.size,h.defers,fun t v ht=>(List.mem_append.1 ht).elim (h.env t v) (h'.env t v)⟩
theorem Fr.splitB{d:Nat}{b:Bool}{G:Prop}(h:Fr ds N ((d,.bool b)::env) a)(kt:b=true→Fr ds N ((d,.bool true)::env) a→G)(kf:b=false→Fr ds N ((d,.bool false)::env) a→G):G:=by
 cases b
 ·exact kf rfl h
 ·exact kt rfl h
theorem Fr.splitD{d:Nat}{p:Prop} [Decidable p]{G:Prop}(h:Fr ds N ((d,.bool (decide p))::env) a)(kt:p→Fr ds N ((d,.bool true)::env) a→G)(kf:¬p→Fr ds N ((d,.bool false)::env) a→G):G:=by
 by_cases hp:p
 ·exact kt hp (Fr.bool (by simpa using hp) h)
 ·exact kf hp (Fr.bool (by simpa using hp) h)
end
def frame0(k:Nat):List Value→List (Nat×Value)
 |[]=>[]
 |v::r=>(k,v)::frame0 (k+1) r
theorem mem_frame0:∀(l:List Value) (k t:Nat) (v:Value),(t,v)∈frame0 k l→k≤t∧l[t - k]?=some v
 |[],_,_,_,h=>by cases h
 |x::r,k,t,v,h=>by
  rcases List.mem_cons.1 h with e|h
  ·obtain⟨rfl,rfl⟩:=Prod.mk.inj e
   simp
  ·have:=mem_frame0 r (k+1) t v h
   refine⟨by omega,?_⟩
   rw[show t - k=(t - (k+1))+1 by omega]
   simpa using this.2
theorem enter{P:Program}{f:FuncId}{fn:Func}{c:Code}{args:List Value}{w:World}{R:Ending→World→Prop}{N:Nat}
  (hf:P.funcs[f]?=some fn) (hb:fn.body=some c) (hN:fn.ntmps=N) (hl:Nat.ble args.length N=true)
  (k:∀a,Fr [] N (frame0 0 args) a→c.wp P (bodyPost P fn R) a w):Calls P f args.toArray w R:=by
 refine calls_of_wp hf hb (k _ ⟨?_,rfl,fun t v h=>?_⟩)
 ·have:args.length≤N:=by simpa using hl
  simp[hN]
  omega
 ·have:=(mem_frame0 args 0 t v h).2
  simp only[Nat.sub_zero] at this
  rw[Array.getElem?_append_left (by have:=(List.getElem?_eq_some_iff.1 this).1;simpa using this)]
  simpa using this
end
section
open Go.RowKit
def Yv(P:Program)(w0:World)(X:Nat→Prop)(es:List Asn)(a:Act)(o:Oper)(v:Value):Prop:=
 ∀w,Wd w0 X es w→(execOp a.eval o).run P w=.ok (.value v) w
def adr(A:Option Addr):Addr:=A.getD ⟨0,0,none⟩
def RF(w:World)(A:Option Addr)(n size:Nat)(f:Nat→List Value):Prop:=
 0<n→A=some (adr A)∧∀i,i<n→∀o v,(f i)[o]?=some v→w.cell? ((adr A).add (i*size+o))=some v
theorem add_own(b o n:Nat):(⟨b,o,none⟩:Addr).add n=⟨b,o+n,none⟩:=by
 unfold Addr.add
 split
 ·rename_i h;rw[h];rfl
 ·rfl
section
variable {w w':World} {A:Option Addr} {n size:Nat} {f:Nat→List Value}
theorem RF.zero:RF w A 0 size f:=fun h=>absurd h Om
theorem RF.keep(h:RF w A n size f)(hk:∀(p:Addr) u,w.cell? p=some u→w'.cell? p=some u):RF w' A n size f:=fun hn=>⟨(h hn).1,fun i hi o v hv=>hk _ _ ((h hn).2 i hi o v hv)⟩
theorem RF.below(h:RF w A n size f)(hb:Below w.heap.size w w'):RF w' A n size f:=h.keep fun _ _ hc=>cell_below hb hc
theorem RF.wd{w0:World}{es:List Asn}(h:RF w0 A n size f)(hW:Wd w0 NoB es w'):RF w' A n size f:=h.below hW.below
theorem RF.of_ints{v:Value}{l:List Int}(h:Ints w v l):∃A c,v=.slice A l.length c∧l.length≤c∧c≤maxLen∧RF w A l.length 1 (fun i=>[.int .i64 (l.getD i 0)]):=by
 obtain⟨A,c,rfl,h1,h2,h3⟩:=h
 refine⟨A,c,rfl,h1,h2,fun hn=>?_⟩
 obtain⟨ad,rfl,hc⟩:=h3.2 hn
 refine⟨rfl,fun i hi o v hv=>?_⟩
 obtain rfl:o=0:=by
  have:=(List.getElem?_eq_some_iff.1 hv).1
  simp at this
  omega
 simp only[List.getElem?_cons_zero,Option.some.injEq] at hv
 refine hc _ v ?_
 rw[←hv]
 simp[List.getD,List.getElem?_eq_getElem hi]
end
section
variable {P:Program} {w0:World} {X:Nat→Prop} {es:List Asn} {a:Act} {ds:List Deferred} {N:Nat} {env:List (Nat×Value)} {dst:Option Tmp} {ty:TypeId} {ps:String} {af:Array Edge} {gd:Option (Nat×Bool)}
theorem y_move(hF:Fr ds N env a){x:Operand}{v:Value}(hx:ev env x=some v):Yv P w0 X es a ⟨dst,.move x,ty,ps,af,gd⟩ v:=fun w _=>by
 simp[execOp,hF.ev hx]
theorem y_assign(hF:Fr ds N env a){x:Operand}{v:Value}(hx:ev env x=some v):Yv P w0 X es a ⟨dst,.assign x,ty,ps,af,gd⟩ v:=fun w _=>by
 simp[execOp,hF.ev hx]
theorem y_pick(hF:Fr ds N env a){c x y:Operand}{b:Bool}{v:Value}(hc:ev env c=some (.bool b))(hv:ev env (bif b then x else y)=some v):Yv P w0 X es a ⟨dst,.pick c x y,ty,ps,af,gd⟩ v:=fun w _=>by
 have hv':=hF.ev hv
 cases b
 ·simp only[cond_false] at hv'
  simp[execOp,hF.ev hc,asBool,hv']
 ·simp only[cond_true] at hv'
  simp[execOp,hF.ev hc,asBool,hv']
theorem y_extract(hF:Fr ds N env a){x:Operand}{i:Nat}{vs:Array Value}{v:Value}(hx:ev env x=some (.tuple vs))(hv:vs[i]?=some v):Yv P w0 X es a ⟨dst,.extract x i,ty,ps,af,gd⟩ v:=fun w _=>by
 simp[execOp,hF.ev hx,Instr.extract,hv]
theorem y_nilCheck(hF:Fr ds N env a){x:Operand}{p:Addr}(hx:ev env x=some (.pointer (some p))):Yv P w0 X es a ⟨dst,.nilCheck x,ty,ps,af,gd⟩ (.pointer (some p)):=fun w _=>by
 simp[execOp,hF.ev hx]
theorem y_not(hF:Fr ds N env a){t:TypeId}{x:Operand}{b:Bool}(hx:ev env x=some (.bool b)):Yv P w0 X es a ⟨dst,.unOp .not t x,ty,ps,af,gd⟩ (.bool !b):=fun w _=>by
 simp[execOp,hF.ev hx,Op.unary]
theorem y_neg(hF:Fr ds N env a){t:TypeId}{x:Operand}{k:IntKind}{n s:Int}(hx:ev env x=some (.int k n))(hs:k.wrap (0 - n)=s):Yv P w0 X es a ⟨dst,.unOp .neg t x,ty,ps,af,gd⟩ (.int k s):=fun w _=>by
 simp[execOp,hF.ev hx,Op.unary,Op.intArith,←hs]
theorem y_makeFunc(hF:Fr ds N env a){fn:Fn}{cs:List Operand}{vs:List Value}(hc:evs env cs=some vs):Yv P w0 X es a ⟨dst,.makeFunc fn #[] cs.toArray,ty,ps,af,gd⟩ (.func fn #[] vs.toArray):=fun w _=>by
 have:=hF.evs cs vs hc
 simp[execOp,Instr.makeFunc,this]
theorem y_len(hF:Fr ds N env a){x:Operand}{t e:TypeId}{A:Option Addr}{n c:Nat}(hx:ev env x=some (.slice A n c))(hu:P.underlying t=some (.slice e)):Yv P w0 X es a ⟨dst,.call ⟨.builtin .len,#[x],#[t]⟩,ty,ps,af,gd⟩ (.int .i64 n):=fun w _=>by
 simp[execOp,resolve,invoke,builtin,Builtin.len_,run_underlying hu,hF.ev hx,goInt]
theorem y_lenS(hF:Fr ds N env a){x:Operand}{t:TypeId}{s:ByteArray}(hx:ev env x=some (.string s))(hu:P.underlying t=some .string):Yv P w0 X es a ⟨dst,.call ⟨.builtin .len,#[x],#[t]⟩,ty,ps,af,gd⟩ (.int .i64 s.size):=fun w _=>by
 simp[execOp,resolve,invoke,builtin,Builtin.len_,run_underlying hu,hF.ev hx,goInt]
theorem y_bin(hF:Fr ds N env a){op:BinOp}{t t':TypeId}{x y:Operand}{vx vy v:Value}(hx:ev env x=some vx)(hy:ev env y=some vy)
  (hr:∀w:World,(do eqGuard op t x y vx vy;binOp op t vx vy:Sem Value).run P w=.ok v w):Yv P w0 X es a ⟨dst,.binOp op t x y t',ty,ps,af,gd⟩ v:=fun w _=>by
 have:=hr w
 simp only[execOp,hF.ev hx,hF.ev hy] at*
 simp only[Sem.run_bind] at this⊢
 cases hg:(eqGuard op t x y vx vy).run P w with
 |halt h w'=>rw[hg] at this;simp[Result.andThen] at this
 |ok u w'=>
  rw[hg] at this
  simp only[Result.andThen] at this⊢
  rw[this]
  simp
variable {t t':TypeId} {x y:Operand} {k:IntKind} {m n s:Int}
theorem y_add(hF:Fr ds N env a)(hx:ev env x=some (.int k m))(hy:ev env y=some (.int k n))(hs:k.wrap (m+n)=s):Yv P w0 X es a ⟨dst,.binOp .add t x y t',ty,ps,af,gd⟩ (.int k s):=
 y_bin hF hx hy fun w=>by simp[eqGuard,binOp,Op.intArith,←hs]
theorem y_sub(hF:Fr ds N env a)(hx:ev env x=some (.int k m))(hy:ev env y=some (.int k n))(hs:k.wrap (m - n)=s):Yv P w0 X es a ⟨dst,.binOp .sub t x y t',ty,ps,af,gd⟩ (.int k s):=
 y_bin hF hx hy fun w=>by simp[eqGuard,binOp,Op.intArith,←hs]
theorem y_rem(hF:Fr ds N env a)(hx:ev env x=some (.int k m))(hy:ev env y=some (.int k n))(hn:n≠0)(hs:m.tmod n=s):Yv P w0 X es a ⟨dst,.binOp .rem t x y t',ty,ps,af,gd⟩ (.int k s):=
 y_bin hF hx hy fun w=>by simp[eqGuard,binOp,Op.intDiv,hn,←hs]
theorem y_lss(hF:Fr ds N env a)(hx:ev env x=some (.int k m))(hy:ev env y=some (.int k n)):Yv P w0 X es a ⟨dst,.binOp .lss t x y t',ty,ps,af,gd⟩ (.bool (decide (m<n))):=
 y_bin hF hx hy fun w=>by simp[eqGuard,binOp,Op.intCmp]
theorem y_leq(hF:Fr ds N env a)(hx:ev env x=some (.int k m))(hy:ev env y=some (.int k n)):Yv P w0 X es a ⟨dst,.binOp .leq t x y t',ty,ps,af,gd⟩ (.bool (decide (m≤n))):=
 y_bin hF hx hy fun w=>by simp[eqGuard,binOp,Op.intCmp]
theorem y_gtr(hF:Fr ds N env a)(hx:ev env x=some (.int k m))(hy:ev env y=some (.int k n)):Yv P w0 X es a ⟨dst,.binOp .gtr t x y t',ty,ps,af,gd⟩ (.bool (decide (n<m))):=
 y_bin hF hx hy fun w=>by simp[eqGuard,binOp,Op.intCmp]
theorem y_geq(hF:Fr ds N env a)(hx:ev env x=some (.int k m))(hy:ev env y=some (.int k n)):Yv P w0 X es a ⟨dst,.binOp .geq t x y t',ty,ps,af,gd⟩ (.bool (decide (n≤m))):=
 y_bin hF hx hy fun w=>by simp[eqGuard,binOp,Op.intCmp]
theorem y_eql(hF:Fr ds N env a)(hx:ev env x=some (.int k m))(hy:ev env y=some (.int k n)):Yv P w0 X es a ⟨dst,.binOp .eql t x y t',ty,ps,af,gd⟩ (.bool (decide (m=n))):=
 y_bin hF hx hy fun w=>by
  have:(m==n)=decide (m=n):=rfl
  simp[eqGuard,binOp,Op.intCmp,this]
theorem y_neq(hF:Fr ds N env a)(hx:ev env x=some (.int k m))(hy:ev env y=some (.int k n)):Yv P w0 X es a ⟨dst,.binOp .neq t x y t',ty,ps,af,gd⟩ (.bool (decide (m≠n))):=
 y_bin hF hx hy fun w=>by
  have:(m != n)=decide (m≠n):=by simp[bne,decide_not];rfl
  simp[eqGuard,binOp,Op.intCmp,this]
theorem y_eqs(hF:Fr ds N env a){b c:ByteArray}(hx:ev env x=some (.string b))(hy:ev env y=some (.string c)):Yv P w0 X es a ⟨dst,.binOp .eql t x y t',ty,ps,af,gd⟩ (.bool (b.toList==c.toList)):=
 y_bin hF hx hy fun w=>by simp[eqGuard,binOp,Op.stringOp]
theorem y_nes(hF:Fr ds N env a){b c:ByteArray}(hx:ev env x=some (.string b))(hy:ev env y=some (.string c)):Yv P w0 X es a ⟨dst,.binOp .neq t x y t',ty,ps,af,gd⟩ (.bool !(b.toList==c.toList)):=
 y_bin hF hx hy fun w=>by simp[eqGuard,binOp,Op.stringOp]
def flatInts(P:Program):Nat→List Field→Bool
 |_,[]=>true
 |k,f::r=>f.name != "_" &&((match P.underlying f.type with|some (.int .i64)=>true|_=>false)&&(Nat.beq f.offset k&&flatInts P (k+1) r))
theorem run_part_int{e:TypeId}(he:(match P.underlying e with|some (.int .i64)=>true|_=>false)=true){xs:Array Value}{o:Nat}{m:Int}(hx:xs[o]?=some (.int .i64 m))(w:World):(part e xs o).run P w=.ok (.int .i64 m) w:=by
 split at he
 ·rename_i hu
  simp[part,isAgg,run_underlying hu,hx]
 ·cases he
theorem run_eqInt{e:TypeId}(he:(match P.underlying e with|some (.int .i64)=>true|_=>false)=true)(d:Nat)(m n:Int)(w:World):(Op.equalIn (d+1) e (.int .i64 m) (.int .i64 n)).run P w=.ok (decide (m=n)) w:=by
 split at he
 ·rename_i hu
  rw[run_equalIn_int w d e .i64 .i64 m n hu]
  rfl
 ·cases he
theorem run_eqFields_ints(d:Nat)(xs ys:Array Value)(w:World):∀(fs:List Field) (k:Nat) (al bs:List Int),flatInts P k fs=true→al.length=fs.length→bs.length=fs.length→(∀i m,al[i]?=some m→xs[k+i]?=some (.int .i64 m))→(∀i m,bs[i]?=some m→ys[k+i]?=some (.int .i64 m))→
  (Op.eqFields (d+1) xs ys fs).run P w=.ok (decide (al=bs)) w
 |[],_,al,bs,_,ha,hb,_,_=>by
  rw[List.eq_nil_of_length_eq_zero ha,List.eq_nil_of_length_eq_zero hb]
  simp[Op.eqFields]
 |f::fs,k,[],_,_,ha,_,_,_=>by simp at ha
 |f::fs,k,_::_,[],_,_,hb,_,_=>by simp at hb
 |f::fs,k,a::al,b::bs,hf,ha,hb,hx,hy=>by
  simp only[flatInts,Bool.and_eq_true] at hf
  obtain⟨h1,h2,h3,h4⟩:=hf
  have ho:f.offset=k:=Nat.eq_of_beq_eq_true h3
  have hn:f.name≠ "_" :=by simpa using h1
  have p1:=run_part_int (P:=P) h2 (xs:=xs) (o:=f.offset) (m:=a) (by rw[ho];exact hx 0 a rfl) w
  have p2:=run_part_int (P:=P) h2 (xs:=ys) (o:=f.offset) (m:=b) (by rw[ho];exact hy 0 b rfl) w
  have p3:=run_eqInt (P:=P) h2 d a b w
  have ih:=run_eqFields_ints d xs ys w fs (k+1) al bs h4 (by simpa using ha) (by simpa using hb) (fun i m hi=>by have:=hx (i+1) m (by simpa using hi);rwa [show k+1+i=k+(i+1) by omega]) (fun i m hi=>by have:=hy (i+1) m (by simpa using hi);rwa [show k+1+i=k+(i+1) by omega])
  simp only[Op.eqFields,hn,ne_eq,not_false_eq_true,if_true,Sem.run_bind,p1,p2,p3,Result.andThen_ok]
  by_cases hab:a=b
  ·simp[hab,ih]
  ·simp[hab]
theorem run_eqlne{T:TypeId}{xs ys:Array Value}(hg:P.eqGuardType P.depth T=false){r:Bool}(w:World)(hr:(Op.equalIn 10000 T (.agg xs) (.agg ys)).run P w=.ok r w)(x y:Operand):
  (do eqGuard .eql T x y (.agg xs) (.agg ys);binOp .eql T (.agg xs) (.agg ys):Sem Value).run P w=.ok (.bool r) w∧(do eqGuard .neq T x y (.agg xs) (.agg ys);binOp .neq T (.agg xs) (.agg ys):Sem Value).run P w=.ok (.bool !r) w:=by
 constructor
 ·rw[Sem.run_bind,run_eqGuard_agg w .eql T x y xs ys hg]
  simp only[Result.andThen_ok]
  rw[run_eql_struct,hr]
  rfl
 ·rw[Sem.run_bind,run_eqGuard_agg w .neq T x y xs ys hg]
  simp only[Result.andThen_ok]
  rw[run_neq_struct,hr]
  rfl
theorem ints_cells(al:List Int):∀i m,al[i]?=some m→((al.map (Value.int .i64)).toArray)[0+i]?=some (.int .i64 m):=fun i m h=>by simp[h]
theorem eqS{T:TypeId}(hS:P.underlying T=some (.struct (P.fieldsOf T)))(hp:P.stoodInHeld T=false)(hg:P.eqGuardType P.depth T=false)(hf:flatInts P 0 (P.fieldsOf T).toList=true)(al bs:List Int)(ha:al.length=(P.fieldsOf T).toList.length)(hb:bs.length=(P.fieldsOf T).toList.length)(x y:Operand)(w:World):
  (do eqGuard .eql T x y (.agg (al.map (.int .i64)).toArray) (.agg (bs.map (.int .i64)).toArray);binOp .eql T (.agg (al.map (.int .i64)).toArray) (.agg (bs.map (.int .i64)).toArray):Sem Value).run P w=.ok (.bool (decide (al=bs))) w∧
  (do eqGuard .neq T x y (.agg (al.map (.int .i64)).toArray) (.agg (bs.map (.int .i64)).toArray);binOp .neq T (.agg (al.map (.int .i64)).toArray) (.agg (bs.map (.int .i64)).toArray):Sem Value).run P w=.ok (.bool !(decide (al=bs))) w:=by
 refine run_eqlne hg w ?_ x y
 rw[show(10000:Nat)=9999+1 from rfl,run_equalIn_agg w 9999 T _ _ hS hp]
 exact run_eqFields_ints 9998 _ _ w _ 0 al bs hf ha hb (ints_cells al) (ints_cells bs)
theorem y_fieldAddr(hF:Fr ds N env a){fld:Nat}{p q:Addr}(hx:ev env x=some (.pointer (some p)))(hf:∀w,(Instr.fieldAt t (.pointer (some p)) fld).run P w=.ok (.pointer (some q)) w):
  Yv P w0 X es a ⟨dst,.fieldAddr t x fld,ty,ps,af,gd⟩ (.pointer (some q)):=fun w _=>by
 simp[execOp,hF.ev hx,hf]
def FieldAt(P:Program)(t fld off:Nat):Prop:=∀(p:Addr) (w:World),(Instr.fieldAt t (.pointer (some p)) fld).run P w=.ok (.pointer (some (p.add off))) w
theorem fieldAt_of{fs:Array Field}{fd:Field}{fld off z:Nat}(hu:P.underlying t=some (.struct fs))(hf:fs[fld]?=some fd)(ho:fd.offset=off)(hz:(P.info? fd.type).map (·.size)=some z)(h0:z≠0):FieldAt P t fld off:=fun p w=>by
 subst ho
 cases hi:P.info? fd.type with
 |none=>rw[hi] at hz;cases hz
 |some i=>
  rw[hi] at hz
  have hz':i.size=z:=by simpa using hz
  simp[Instr.fieldAt,run_underlying hu,hf,Instr.sureAddr,fieldPlace,sizeOf,typeInfo,hi,hz',h0]
theorem y_fieldOwn(hF:Fr ds N env a){fld off b o:Nat}(hx:ev env x=some (.pointer (some ⟨b,o,none⟩)))(hf:FieldAt P t fld off):
  Yv P w0 X es a ⟨dst,.fieldAddr t x fld,ty,ps,af,gd⟩ (.pointer (some ⟨b,o+off,none⟩)):=y_fieldAddr hF hx fun w=>by rw[hf,add_own]
theorem y_fieldRow(hF:Fr ds N env a){fld off i o sz:Nat}{A:Option Addr}(hx:ev env x=some (.pointer (some ((adr A).add (i*sz+o)))))(hf:FieldAt P t fld off):
  Yv P w0 X es a ⟨dst,.fieldAddr t x fld,ty,ps,af,gd⟩ (.pointer (some ((adr A).add (i*sz+(o+off))))):=y_fieldAddr hF hx fun w=>by rw[hf,add_of_add,Nat.add_assoc]
theorem run_load1{d:TypeDesc}(hu:P.underlying t=some d)(hd:d.isRow=false){w:World}{p:Addr}{v:Value}(hc:w.cell? p=some v):(loadVar t p).run P w=.ok v w:=by
 cases d<;>first|(simp[TypeDesc.isRow] at hd;done)|(simp[loadVar,isAgg,run_underlying hu,load,Sem.run,hc])
theorem y_load(hF:Fr ds N env a){p:Addr}{v:Value}{d:TypeDesc}(hx:ev env x=some (.pointer (some p)))(hu:P.underlying t=some d)(hd:d.isRow=false)(hc:∀w,Wd w0 X es w→w.cell? p=some v):
  Yv P w0 X es a ⟨dst,.load t x,ty,ps,af,gd⟩ v:=fun w hw=>by
 simp[execOp,hF.ev hx,Instr.loadAt,Instr.sureAddr,run_load1 hu hd (hc w hw)]
theorem y_loadOwn(hF:Fr ds N env a){b o:Nat}{T:TypeId}{l:List Value}{v:Value}{d:TypeDesc}(hx:ev env x=some (.pointer (some ⟨b,o,none⟩)))(i:Nat)(hi:es[i]?=some (.blk b T l))(hv:l[o]?=some v)
  (hu:P.underlying t=some d) (hd:d.isRow=false):Yv P w0 X es a ⟨dst,.load t x,ty,ps,af,gd⟩ v:=
 y_load hF hx hu hd fun w hw=>((hw.blk i hi).cell o).trans hv
theorem y_loadRow(hF:Fr ds N env a){A:Option Addr}{i sz o n:Nat}{f:Nat→List Value}{v:Value}{d:TypeDesc}(hx:ev env x=some (.pointer (some ((adr A).add (i*sz+o)))))(hR:∀w,Wd w0 X es w→RF w A n sz f)(hi:i<n)(hv:(f i)[o]?=some v)
  (hu:P.underlying t=some d) (hd:d.isRow=false):Yv P w0 X es a ⟨dst,.load t x,ty,ps,af,gd⟩ v:=
 y_load hF hx hu hd fun w hw=>(hR w hw Om).2 i hi o v hv
theorem y_loadCells(hF:Fr ds N env a){p:Addr}{cs:List Value}{d:TypeDesc}(hx:ev env x=some (.pointer (some p)))(hu:P.underlying t=some d)(hd:d.isRow=true)(hz:(P.info? t).map (·.size)=some cs.length)
  (hc:∀w,Wd w0 X es w→∀o v,cs[o]?=some v→w.cell? (p.add o)=some v):Yv P w0 X es a ⟨dst,.load t x,ty,ps,af,gd⟩ (.agg cs.toArray):=fun w hw=>by
 have key:∀(r:List Value) (o:Nat) (acc:Array Value),(∀j v,r[j]?=some v→w.cell? (p.add (o+j))=some v)→(loadCellsFrom p o r.length acc).run P w=.ok (acc++r.toArray) w:=by
  intro r
  induction r with
  |nil=>intro o acc _;simp[loadCellsFrom]
  |cons v r ih=>
   intro o acc h
   have h0:=h 0 v rfl
   simp only[Nat.add_zero] at h0
   have:=ih (o+1) (acc.push v) (fun j u hj=>by have:=h (j+1) u (by simpa using hj);rwa [show o+1+j=o+(j+1) by omega])
   simp only[List.length_cons,loadCellsFrom,Sem.run_bind,load,Sem.run,h0,Result.andThen]
   rw[this]
   simp
 have h1:=key cs 0 #[] (fun j v hj=>by rw[Nat.zero_add];exact hc w hw j v hj)
 cases hi:P.info? t with
 |none=>rw[hi] at hz;cases hz
 |some i=>
  rw[hi] at hz
  have hz':i.size=cs.length:=by simpa using hz
  have hagg:(isAgg t).run P w=.ok true w:=by cases d<;>first|(simp[TypeDesc.isRow] at hd;done)|simp[isAgg,run_underlying hu]
  simp[execOp,hF.ev hx,Instr.loadAt,Instr.sureAddr,loadVar,hagg,loadCells,sizeOf,typeInfo,hi,hz',h1]
theorem y_loadOwnW(hF:Fr ds N env a){b o:Nat}{T:TypeId}{l cs:List Value}{d:TypeDesc}(hx:ev env x=some (.pointer (some ⟨b,o,none⟩)))(i:Nat)(hi:es[i]?=some (.blk b T l))(hcs:∀j v,cs[j]?=some v→l[o+j]?=some v)
  (hu:P.underlying t=some d) (hd:d.isRow=true) (hz:(P.info? t).map (·.size)=some cs.length):Yv P w0 X es a ⟨dst,.load t x,ty,ps,af,gd⟩ (.agg cs.toArray):=
 y_loadCells hF hx hu hd hz fun w hw j v hj=>by rw[add_own];exact((hw.blk i hi).cell _).trans (hcs j v hj)
theorem y_loadAll(hF:Fr ds N env a){b:Nat}{T:TypeId}{l:List Value}{d:TypeDesc}(hx:ev env x=some (.pointer (some ⟨b,0,none⟩)))(i:Nat)(hi:es[i]?=some (.blk b T l))
  (hu:P.underlying t=some d) (hd:d.isRow=true) (hz:(P.info? t).map (·.size)=some l.length):Yv P w0 X es a ⟨dst,.load t x,ty,ps,af,gd⟩ (.agg l.toArray):=
 y_loadOwnW hF hx i hi (fun j v hj=>by rw[Nat.zero_add];exact hj) hu hd hz
theorem y_loadN(hF:Fr ds N env a){b o z:Nat}{T:TypeId}{l:List Value}{d:TypeDesc}(hx:ev env x=some (.pointer (some ⟨b,o,none⟩)))(i:Nat)(hi:es[i]?=some (.blk b T l))
  (hu:P.underlying t=some d) (hd:d.isRow=true) (hz:(P.info? t).map (·.size)=some z) (hl:Nat.ble (o+z) l.length=true):Yv P w0 X es a ⟨dst,.load t x,ty,ps,af,gd⟩ (.agg ((l.drop o).take z).toArray):=
 y_loadOwnW hF hx i hi (fun j v hj=>by
  have h1:=List.getElem?_take (l:=l.drop o) (i:=z) (j:=j)
  rw[h1] at hj
  split at hj
  ·rwa [List.getElem?_drop] at hj
  ·cases hj) hu hd (by
  have:o+z≤l.length:=by simpa using hl
  rw[hz,List.length_take,List.length_drop,Nat.min_eq_left Om])
theorem y_loadRowW(hF:Fr ds N env a){A:Option Addr}{i sz n:Nat}{f:Nat→List Value}{d:TypeDesc}(hx:ev env x=some (.pointer (some ((adr A).add (i*sz+0)))))(hR:∀w,Wd w0 X es w→RF w A n sz f)(hi:i<n)
  (hu:P.underlying t=some d) (hd:d.isRow=true) (hz:(P.info? t).map (·.size)=some (f i).length):Yv P w0 X es a ⟨dst,.load t x,ty,ps,af,gd⟩ (.agg (f i).toArray):=
 y_loadCells hF hx hu hd hz fun w hw o v hv=>by
  rw[add_of_add]
  exact(hR w hw Om).2 i hi o v hv
theorem y_indexS(hF:Fr ds N env a){e z:TypeId}{A:Option Addr}{i n c:Nat}{kk:IntKind}{f:Nat→List Value}(hx:ev env x=some (.slice A n c))(hy:ev env y=some (.int kk (i:Int)))(hi:i<n)(hu:P.underlying t=some (.slice e))(hz:(P.info? e).map (·.size)=some z)
  (hR:∀w,Wd w0 X es w→RF w A n z f):Yv P w0 X es a ⟨dst,.indexAddr t x y,ty,ps,af,gd⟩ (.pointer (some ((adr A).add (i*z+0)))):=fun w hw=>by
 have hA:=(hR w hw Om).1
 cases hie:P.info? e with
 |none=>rw[hie] at hz;cases hz
 |some j=>
  rw[hie] at hz
  have hz':j.size=z:=by simpa using hz
  have hx':=hF.ev hx
  rw[hA] at hx'
  have h1:(0:Int)≤(i:Int)∧(i:Int)<(n:Int):=by omega
  simp[execOp,hx',hF.ev hy,Instr.indexAt,asIntOf,run_underlying hu,sizeOf,typeInfo,hie,hz',hi]
theorem y_indexOwnS(hF:Fr ds N env a){e z:TypeId}{b i n c:Nat}{kk:IntKind}(hx:ev env x=some (.slice (some ⟨b,0,none⟩) n c))(hy:ev env y=some (.int kk (i:Int)))(hi:i<n)(hu:P.underlying t=some (.slice e))(hz:(P.info? e).map (·.size)=some z):
  Yv P w0 X es a ⟨dst,.indexAddr t x y,ty,ps,af,gd⟩ (.pointer (some ⟨b,i*z,none⟩)):=fun w hw=>by
 cases hie:P.info? e with
 |none=>rw[hie] at hz;cases hz
 |some j=>
  rw[hie] at hz
  have hz':j.size=z:=by simpa using hz
  have ha:=add_own b 0 (i*z)
  rw[Nat.zero_add] at ha
  simp[execOp,hF.ev hx,hF.ev hy,Instr.indexAt,asIntOf,run_underlying hu,sizeOf,typeInfo,hie,hz',hi,ha]
def evp(env:List (Nat×Value)):List (Nat×Operand)→Option (List (Nat×Value))
 |[]=>some []
 |(i,x)::r=>match ev env x,evp env r with
  |some v,some vs=>some ((i,v)::vs)
  |_,_=>none
theorem Fr.evp(h:Fr ds N env a):∀(l:List (Nat×Operand)) (vs:List (Nat×Value)),Proofs.YtndcjmopebcdgaaGreatDoor.evp env l=some vs→l.map (fun x=>(x.1,a.eval x.2))=vs
 |[],vs,e=>by simpa[Proofs.YtndcjmopebcdgaaGreatDoor.evp] using e
 |(i,x)::r,vs,e=>by
  unfold Proofs.YtndcjmopebcdgaaGreatDoor.evp at e
  cases h1:Proofs.YtndcjmopebcdgaaGreatDoor.ev env x with
  |none=>simp[h1] at e
  |some v=>
   cases h2:Proofs.YtndcjmopebcdgaaGreatDoor.evp env r with
   |none=>simp[h1,h2] at e
   |some ws=>
    simp only[h1,h2,Option.some.injEq] at e
    rw[←e,List.map_cons,h.evp r ws h2,h.ev h1]
theorem y_build(hF:Fr ds N env a){parts:List (Nat×Operand)}{vs:List (Nat×Value)}{v:Value}(hp:evp env parts=some vs)(hb:∀w:World,(Instr.build t vs.toArray).run P w=.ok v w):
  Yv P w0 X es a ⟨dst,.build t parts.toArray,ty,ps,af,gd⟩ v:=fun w _=>by
 have:=hF.evp parts vs hp
 simp only[execOp,List.map_toArray,this]
 simp[hb]
theorem y_convert(hF:Fr ds N env a){src d:TypeId}{v v':Value}(hx:ev env x=some v)(hc:∀w:World,(convert src d v).run P w=.ok v' w):Yv P w0 X es a ⟨dst,.convert src d x,ty,ps,af,gd⟩ v':=fun w _=>by
 simp[execOp,hF.ev hx,hc]
theorem y_index(hF:Fr ds N env a){v u v':Value}(hx:ev env x=some v)(hy:ev env y=some u)(hc:∀w:World,(Instr.index t v u).run P w=.ok v' w):Yv P w0 X es a ⟨dst,.index t x y,ty,ps,af,gd⟩ v':=fun w _=>by
 simp[execOp,hF.ev hx,hF.ev hy,hc]
end
end
section
open Go.RowKit
section
variable {P:Program} {w0 w:World} {X:Nat→Prop} {es:List Asn} {a:Act} {ds:List Deferred} {N:Nat} {env:List (Nat×Value)} {ty:TypeId} {ps:String} {af:Array Edge} {gd:Option (Nat×Bool)}
variable {K:Act→World→Prop} {Q:Exit→Act→World→Prop} {d:Tmp} {t:TypeId} {x y:Operand}
theorem e_of_new{o:Oper}(hod:o.dst=some d)(hF:Fr ds N env a)(hW:Wd w0 X es w){cs:Array Value}{T:TypeId}{l:List Value}(hl:cs.toList=l)(g:Addr→Value)
  (hr:(execOp a.eval o).run P w=.ok (.value (g ⟨w.heap.size,0,none⟩)) (w.alloc (.cells cs T))) (hd:Nat.blt d N=true) (hf:fresh env d=true)
  (k:∀b a w,Fr ds N ((d,g ⟨b,0,none⟩)::env) a→Wd w0 X (.blk b T l::es) w→K a w):o.wp P a w K Q:=by
 unfold Oper.wp
 rw[hr]
 show K (a.put o.dst _) _
 rw[hod]
 exact k _ _ _ (hF.put _ hd hf) (hW.newL cs T hl)
theorem e_alloc(hF:Fr ds N env a)(hW:Wd w0 X es w){z:Value}{l:List Value}(hz:(P.info? t).map (·.zero)=some (some z))(hl:z.cells.toList=l)(hd:Nat.blt d N=true)(hf:fresh env d=true)
  (k:∀b a w,Fr ds N ((d,.pointer (some ⟨b,0,none⟩))::env) a→Wd w0 X (.blk b t l::es) w→K a w):(⟨some d,.alloc t,ty,ps,af,gd⟩:Oper).wp P a w K Q:=
 e_of_new rfl hF hW hl (fun p=>.pointer (some p)) (by
  cases hi:P.info? t with
  |none=>rw[hi] at hz;cases hz
  |some i=>
   rw[hi] at hz
   have hz':i.zero=some z:=by simpa using hz
   simp[execOp,Instr.alloc,zeroValue,typeInfo,hi,hz',newVar,newRow]) hd hf k
theorem e_box(hF:Fr ds N env a)(hW:Wd w0 X es w){v:Value}{l:List Value}(hx:ev env x=some v)(hl:v.cells.toList=l)(hd:Nat.blt d N=true)(hf:fresh env d=true)
  (k:∀b a w,Fr ds N ((d,.pointer (some ⟨b,0,none⟩))::env) a→Wd w0 X (.blk b t l::es) w→K a w):(⟨some d,.box t x,ty,ps,af,gd⟩:Oper).wp P a w K Q:=
 e_of_new rfl hF hW hl (fun p=>.pointer (some p)) (by simp[execOp,Instr.box,hF.ev hx,newVar,newRow]) hd hf k
theorem e_buildSlice(hF:Fr ds N env a)(hW:Wd w0 X es w){n:Nat}{E:TypeId}{parts:List (Nat×Operand)}{vs:List (Nat×Value)}{cs:Array Value}{l:List Value}(hp:evp env parts=some vs)
  (hb:∀w:World,(Instr.buildSlice t n vs.toArray).run P w=.ok (.slice (some ⟨w.heap.size,0,none⟩) n n) (w.alloc (.cells cs E))) (hl:cs.toList=l) (hd:Nat.blt d N=true) (hf:fresh env d=true)
  (k:∀b a w,Fr ds N ((d,.slice (some ⟨b,0,none⟩) n n)::env) a→Wd w0 X (.blk b E l::es) w→K a w):(⟨some d,.buildSlice t n parts.toArray,ty,ps,af,gd⟩:Oper).wp P a w K Q:=
 e_of_new rfl hF hW hl (fun p=>.slice (some p) n n) (by
  have:=hF.evp parts vs hp
  simp only[execOp,List.map_toArray,this]
  simp[hb]) hd hf k
theorem e_store{dst:Option Tmp}(hdst:dst=none)(hF:Fr ds N env a)(hW:Wd w0 X es w){b o:Nat}{T:TypeId}{l:List Value}{v:Value}(hx:ev env x=some (.pointer (some ⟨b,o,none⟩)))(hy:ev env y=some v)(i:Nat)(hi:es[i]?=some (.blk b T l))
  (ho:(l[o]?).isSome=true) (h1:v.oneCell'=true) (hz:(P.info? t).map (·.size)=some 1)
  (k:∀w,Wd w0 X (es.set i (.blk b T (l.set o v))) w→K a w):(⟨dst,.store t x y,ty,ps,af,gd⟩:Oper).wp P a w K Q:=by
 subst hdst
 have hB:=hW.blk i hi
 have hc:v.cells=#[v]:=by cases v<;>first|rfl|(simp[Value.oneCell'] at h1)
 cases hie:P.info? t with
 |none=>rw[hie] at hz;cases hz
 |some j=>
  rw[hie] at hz
  have hz':j.size=1:=by simpa using hz
  obtain⟨u,hu⟩:=Option.isSome_iff_exists.1 ho
  have hcell:w.cell? ⟨b,o,none⟩=some u:=(hB.cell o).trans hu
  have hfz:=hB.frozen o
  have hst:(store ⟨b,o,none⟩ v).run P w=.ok () (w.setCell ⟨b,o,none⟩ v):=by
   cases v<;>first|(simp[Value.oneCell'] at h1;done)|(simp[store,Sem.run,hcell,hfz])
  have hadd:(⟨b,o,none⟩:Addr).add 0=⟨b,o,none⟩:=rfl
  have hrun:(execOp a.eval ⟨none,.store t x y,ty,ps,af,gd⟩).run P w=.ok .skip (w.setCell ⟨b,o,none⟩ v):=by
   simp[execOp,hF.ev hx,hF.ev hy,Instr.storeAt,Instr.sureAddr,storeVar,hc,sizeOf,typeInfo,hie,hz',storeCells,hadd,hst]
  unfold Oper.wp
  rw[hrun]
  exact k _ (hW.set i hi v)
theorem e_storeMid{dst:Option Tmp}(hdst:dst=none)(hF:Fr ds N env a)(hW:Wd w0 X es w){b o:Nat}{T:TypeId}{l:List Value}{cs:Array Value}(hx:ev env x=some (.pointer (some ⟨b,o,none⟩)))(hy:ev env y=some (.agg cs))(i:Nat)(hi:es[i]?=some (.blk b T l))
  (ho:o+cs.size≤l.length) (h1:cs.all (·.oneCell')=true) (hz:(P.info? t).map (·.size)=some cs.size)
  (k:∀w,Wd w0 X (es.set i (.blk b T (splice l o cs.toList))) w→K a w):(⟨dst,.store t x y,ty,ps,af,gd⟩:Oper).wp P a w K Q:=by
 subst hdst
 have hB:=hW.blk i hi
 have hst:=setCells_blk cs.toList w l o hB
 exact wp_store_mid t x y rfl b o cs (hF.ev hx) (hF.ev hy) (hB.there ho) hz h1 (k _ (hW.only i hi hst.2 hst.1))
theorem e_storeAll{dst:Option Tmp}(hdst:dst=none)(hF:Fr ds N env a)(hW:Wd w0 X es w){b:Nat}{T:TypeId}{l l':List Value}{cs:Array Value}(hx:ev env x=some (.pointer (some ⟨b,0,none⟩)))(hy:ev env y=some (.agg cs))(i:Nat)(hi:es[i]?=some (.blk b T l))
  (hl:cs.toList=l') (hn:l.length=l'.length) (h1:cs.all (·.oneCell')=true) (hz:(P.info? t).map (·.size)=some l'.length)
  (k:∀w,Wd w0 X (es.set i (.blk b T l')) w→K a w):(⟨dst,.store t x y,ty,ps,af,gd⟩:Oper).wp P a w K Q:=by
 have hs:cs.size=l'.length:=by rw[←hl,Array.length_toList]
 refine e_storeMid hdst hF hW hx hy i hi Om h1 (by rw[hz,hs]) fun w' hW'=>k w' ?_
 have:=splice_all cs.toList [] l (by rw[hl];exact hn)
 simp only[List.nil_append,List.length_nil] at this
 rw[this,hl] at hW'
 exact hW'
def Enters(P:Program)(f:FuncId):Prop:=∀(args:Array Value) (w:World),(callFunc f args).run P w=.ok (.enter f args) w
theorem enters_of{f:FuncId}{fn:Func}(hf:P.funcs[f]?=some fn)(hn:(fn.name== "runtime.NumGoroutine")=false)(hb:fn.body.isNone=false):Enters P f:=fun args w=>by
 have hn':¬fn.name= "runtime.NumGoroutine" :=by simpa using hn
 cases hbb:fn.body with
 |none=>rw[hbb] at hb;cases hb
 |some c=>simp[callFunc,program,Sem.run,hf,hn',hbb]
theorem e_call{f:FuncId}{cap:Array Value}{vs:List Value}{args:List Operand}{at_:Array TypeId}{R:Ending→World→Prop}(hF:Fr ds N env a)(hx:ev env x=some (.func (.func f) #[] cap))(ha:evs env args=some vs)(hen:Enters P f)
  {vv:Array Value} (hvv:vs.toArray++cap=vv) (hd:Nat.blt d N=true) (hf:fresh env d=true)
  (hc:Calls P f vv w R) (k:∀e w',R e w'→∃v,e=.returned v∧∀a,Fr ds N ((d,v)::env) a→K a w'):(⟨some d,.call ⟨.value x,args.toArray,at_⟩,ty,ps,af,gd⟩:Oper).wp P a w K Q:=by
 subst hvv
 have h1:=hF.evs args vs ha
 have hrun:(execOp a.eval ⟨some d,.call ⟨.value x,args.toArray,at_⟩,ty,ps,af,gd⟩).run P w=.ok (.enter f (vs.toArray++cap)) w:=by
  have h2:=hen (vs.toArray++cap) w
  simp[execOp,resolve,Deferred.ofValue,hF.ev hx,h1,invoke,h2]
 unfold Oper.wp
 rw[hrun,Oper.upon_enter]
 refine hc.mono fun e w' hR=>?_
 obtain⟨v,rfl,hk⟩:=k e w' hR
 exact hk _ (hF.put v hd hf)
theorem e_append{T:TypeId}{size bytes:Nat}{z:Value}{n m c n':Nat}{A:Option Addr}{v:Value}{cs news cs':List Value}(hF:Fr ds N env a)(hW:Wd w0 X es w)(i:Nat)(hi:es[i]?=some (.row T size v n cs))
  (hx:ev env x=some v) (hy:ev env y=some (.slice A m c)) (ht:P.underlying t=some (.slice T)) (hinf:(P.info? T).map (fun i=>(i.zero,i.size,i.bytes))=some (some z,size,bytes)) (hzs:z.cells.size=size) (hsz:0<size)
  (hr:RowAt w size A m news) (h1:∀u∈news,u.oneCell'=true) (hN:n+m=n') (hcs:cs++news=cs') (hb:n'*bytes≤140737488355328) (h63:n'≤maxLen) (hd:Nat.blt d N=true) (hf:fresh env d=true)
  (k:∀A' c' a w,Fr ds N ((d,.slice A' n' c')::env) a→Wd w0 X (es.set i (.row T size (.slice A' n' c') n' cs')) w→K a w):(⟨some d,.call ⟨.builtin .append,#[x,y],#[t,t]⟩,ty,ps,af,gd⟩:Oper).wp P a w K Q:=by
 obtain⟨i0,hi0,hz0,hz1,hz2⟩:=info_parts hinf
 exact wp_append_row w x y t rfl 0 T i0 z size bytes ht hi0 hz0 hz1 hz2 hzs hsz v n cs (hF.ev hx) (hW.row i hi) A m c news (hF.ev hy) hr h1 n' cs' hN hcs h63 hb (Nat.zero_le _)
  fun A' c' w' hown hg hat=>k A' c' _ w' (hF.put _ hd hf) (hW.grown i hi hown hg hat)
theorem Wd.row_own(h:Wd w0 NoB es w)(i:Nat){T:TypeId}{size n:Nat}{v:Value}{cs:List Value}(hi:es[i]?=some (.row T size v n cs)):w.ownsRow w0.heap.size T size v n cs:=by
 obtain⟨F,hA,hF⟩:=Own.get es _ i _ h.own hi
 refine⟨hA.1.1,?_⟩
 rcases hA.1.2 with h2|⟨g,cap,cur,hv,_,r⟩
 ·exact .inl h2
 ·refine .inr ⟨g,cap,cur,hv,?_,r⟩
  have:=(hF g (hA.2 g (by rw[hv];rfl))).1
  exact Nat.le_of_not_lt fun hlt=>this ⟨hlt,id⟩
theorem Wd.blk_row(h:Wd w0 X es w)(i:Nat){b:Nat}{T:TypeId}{l:List Value}(hi:es[i]?=some (.blk b T l))(size n:Nat)(hl:l.length=n*size)(hn:n≤maxLen):Wd w0 X (es.set i (.row T size (.slice (some ⟨b,0,none⟩) n n) n l)) w:=
 h.upd i hi fun F hF=>⟨Chg.refl _ _,(· =b),⟨⟨by simpa using hl,.inr ⟨b,n,l.toArray,rfl,Nat.zero_le _,hF.2.2,Nat.le_refl _,hn,by simpa using hl,by rw[List.take_of_length_le (by simp[hl])]⟩⟩,fun k hk=>by simp[Value.ownBlock] at hk;exact hk.symm⟩,
  fun k hk=>⟨by subst hk;exact hF.2.2.lt,.inl (hk▸hF.1)⟩⟩
theorem rowAt_blk{b:Nat}{T:TypeId}{l:List Value}(h:Blk w b T l)(size n:Nat)(hl:l.length=n*size):RowAt w size (some ⟨b,0,none⟩) n l:=
 ⟨hl,fun _=>⟨_,rfl,fun j u hu=>by rw[add_own,Nat.zero_add];exact(h.cell j).trans hu⟩⟩
theorem RF.of_row{size n:Nat}{A:Option Addr}{xs:List Value}{f:Nat→List Value}(h:RowAt w size A n xs)(hf:∀i,i<n→∀o v,(f i)[o]?=some v→xs[i*size+o]?=some v):RF w A n size f:=fun hn=>by
 obtain⟨ad,rfl,hc⟩:=h.2 hn
 exact⟨rfl,fun i hi o v hv=>hc _ v (hf i hi o v hv)⟩
theorem RF.of_flat{α:Type}{enc:α→List Value}{size:Nat}(hs:∀a,(enc a).length=size)(d:α){v:Value}{l:List α}(h:Flat enc size w v l):∃A c,v=.slice A l.length c∧l.length≤c∧c≤maxLen∧RF w A l.length size (fun k=>enc (l.getD k d)):=by
 obtain⟨A,c,rfl,h1,h2,h3⟩:=h
 refine⟨A,c,rfl,h1,h2,RF.of_row h3 fun i hi o v hv=>?_⟩
 have hv':(enc l[i])[o]?=some v:=by simpa[List.getD,List.getElem?_eq_getElem hi] using hv
 have ho:o<size:=by have:=(List.getElem?_eq_some_iff.1 hv').1;rwa [hs] at this
 rw[flat_get hs i o hi ho]
 exact hv'
def OwnRes(w w':World)(R:World→Prop):Prop:=∀w'',(∀k,w.heap.size≤k→k<w'.heap.size→w''.heap[k]?=w'.heap[k]?)→R w''
theorem OwnRes.mono{w w':World}{R R':World→Prop}(h:OwnRes w w' R)(hR:∀w,R w→R' w):OwnRes w w' R':=fun w'' hk=>hR _ (h w'' hk)
theorem OwnRes.now{w w':World}{R:World→Prop}(h:OwnRes w w' R):R w':=h w' fun _ _ _=>rfl
theorem Wd.res_blk(h:Wd w0 NoB es w)(i:Nat){b:Nat}{T:TypeId}{l:List Value}(hi:es[i]?=some (.blk b T l)):OwnRes w0 w (fun w=>Blk w b T l):=fun w'' hk=>by
 have h1:=h.blk_ge i hi
 exact(hk b (Nat.le_of_not_lt fun hlt=>h1.1 ⟨hlt,id⟩) h1.2).trans (h.blk i hi)
theorem OwnRes.of_own{w w':World}{T:TypeId}{size n:Nat}{v:Value}{cs:List Value}(h:w'.ownsRow w.heap.size T size v n cs):OwnRes w w' (fun u=>u.ownsRow w.heap.size T size v n cs):=fun w'' hk=>by
 refine⟨h.1,?_⟩
 rcases h.2 with h2|⟨g,cap,cur,hv,hg,hh,r⟩
 ·exact .inl h2
 ·exact .inr ⟨g,cap,cur,hv,hg,(hk g hg (Array.getElem?_eq_some_iff.1 hh).1).trans hh,r⟩
theorem OwnRes.ownB{w w':World}{v:Value}{l:List Int}(h:OwnInts w' w.heap.size v l):OwnRes w w' (fun u=>OwnInts u 0 v l):=by
 obtain⟨e,h⟩:=h
 exact(OwnRes.of_own h).mono fun _ h=>⟨e,ownsRow_less h (Nat.zero_le _)⟩
theorem Wd.gotR(h:Wd w0 X es w){w':World}(hb:Below w.heap.size w w'){R:World→Prop}(hR:OwnRes w w' R):Wd w0 X (.res R::es) w':=h.got hb hR
theorem Wd.res_res(h:Wd w0 NoB es w)(i:Nat){R:World→Prop}(hi:es[i]?=some (.res R)):OwnRes w0 w R:=fun w'' hk=>by
 obtain⟨F,hA,hF⟩:=Own.get es _ i _ h.own hi
 exact hA w'' fun k hF'=>hk k (Nat.le_of_not_lt fun hlt=>(hF k hF').1 ⟨hlt,id⟩) (hF k hF').2
theorem flat_blk{α:Type}{enc:α→List Value}{size b n:Nat}{T:TypeId}{l:List Value}{xs:List α}{w:World}(h:Blk w b T l)(hn:n=xs.length)(hl:l=xs.flatMap enc)(hs:l.length=n*size)(hm:n≤maxLen):Flat enc size w (.slice (some ⟨b,0,none⟩) n n) xs:=by
 subst hn
 exact⟨some ⟨b,0,none⟩,xs.length,rfl,Nat.le_refl _,hm,by rw[←hl];exact rowAt_blk h size xs.length hs⟩
theorem ints_blk{b n:Nat}{T:TypeId}{l:List Value}{xs:List Int}{w:World}(h:Blk w b T l)(hn:n=xs.length)(hl:l=xs.map (.int .i64))(hm:n≤maxLen):Ints w (.slice (some ⟨b,0,none⟩) n n) xs:=by
 subst hn
 exact⟨some ⟨b,0,none⟩,xs.length,rfl,Nat.le_refl _,hm,by rw[←hl];exact rowAt_blk h 1 xs.length (by rw[hl];simp)⟩
theorem Wd.cast(h:Wd w0 X es w)(i:Nat){b:Nat}{T:TypeId}{l:List Value}(l':List Value)(hi:es[i]?=some (.blk b T l))(hl:l=l'):Wd w0 X (es.set i (.blk b T l')) w:=
 h.only i hi (Only.refl b w) (hl▸h.blk i hi)
variable {ops:Array Oper} {rest:List Oper} {op:Op} {v:Value}
theorem ws{dst:Option Tmp}{j t:Nat}{b:Bool}(hF:Fr ds N env a)(hj:(ops[j]?).bind (·.dst)=some t)(ht:evT env t=some (.bool b)):Region.wanted ⟨dst,op,ty,ps,af,some (j,b)⟩ (yielded ops a.tmps)=true:=by
 have:=hF.yielded hj ht
 simp[Region.wanted,this]
theorem wn{dst:Option Tmp}{j t:Nat}{b c:Bool}(hF:Fr ds N env a)(hj:(ops[j]?).bind (·.dst)=some t)(ht:evT env t=some (.bool c))(hbc:(c==b)=false):Region.wanted ⟨dst,op,ty,ps,af,some (j,b)⟩ (yielded ops a.tmps)=false:=by
 have:=hF.yielded hj ht
 simp only[Region.wanted,this]
 cases c<;>cases b<;>first|rfl|cases hbc
theorem pv(hF:Fr ds N env a)(hW:Wd w0 X es w)(hy:Yv P w0 X es a ⟨some d,op,ty,ps,af,gd⟩ v)
  (k:∀a,Fr ds N ((d,v)::env) a→wpList P ops Q rest a w) (hg:Region.wanted ⟨some d,op,ty,ps,af,gd⟩ (yielded ops a.tmps)=true:=by rfl) (hd:Nat.blt d N=true:=by rfl) (hf:fresh env d=true:=by rfl):wpList P ops Q (⟨some d,op,ty,ps,af,gd⟩::rest) a w:=by
 unfold wpList
 rw[if_pos hg]
 refine .inl ?_
 unfold Oper.wp
 rw[hy w hW]
 exact k _ (hF.put v hd hf)
theorem p_skip(hF:Fr ds N env a)(hg:Region.wanted ⟨some d,op,ty,ps,af,gd⟩ (yielded ops a.tmps)=false)(hd:Nat.blt d N=true)(hf:fresh env d=true)
  (k:∀a,Fr ds N ((d,undef)::env) a→wpList P ops Q rest a w):wpList P ops Q (⟨some d,op,ty,ps,af,gd⟩::rest) a w:=by
 unfold wpList
 rw[hg]
 exact k _ (hF.put undef hd hf)
theorem p_skip0(hg:Region.wanted ⟨none,op,ty,ps,af,gd⟩ (yielded ops a.tmps)=false)(k:wpList P ops Q rest a w):wpList P ops Q (⟨none,op,ty,ps,af,gd⟩::rest) a w:=by
 unfold wpList
 rw[hg]
 exact k
theorem pvg(hF:Fr ds N env a)(hW:Wd w0 X es w)(hy:Yv P w0 X es a ⟨some d,op,ty,ps,af,gd⟩ v)(hg:Region.wanted ⟨some d,op,ty,ps,af,gd⟩ (yielded ops a.tmps)=true)
  (k:∀a,Fr ds N ((d,v)::env) a→wpList P ops Q rest a w) (hd:Nat.blt d N=true:=by rfl) (hf:fresh env d=true:=by rfl):wpList P ops Q (⟨some d,op,ty,ps,af,gd⟩::rest) a w:=pv hF hW hy k hg hd hf
theorem pe{o:Oper}(h:o.wp P a w (wpList P ops Q rest) Q)(hg:Region.wanted o (yielded ops a.tmps)=true:=by rfl):wpList P ops Q (o::rest) a w:=by
 unfold wpList
 rw[if_pos hg]
 exact .inl h
variable {S:World→Prop} {fuel:Nat} {listed:Array Bool} {esS:List Asn}
theorem dv(i:Nat)(hi:ops[i]?=some ⟨some d,op,ty,ps,af,gd⟩)
  (hF:Fr ds N env a) (hS:Wd w0 X esS w) (hy:Yv P w0 X esS a ⟨some d,op,ty,ps,af,gd⟩ v)
  (k:∀a,Fr ds N ((d,v)::env) a→wpAnyH P .any ops Q (Wd w0 X esS) fuel (listed.setIfInBounds i true) a w)
  (hg:Region.wanted ⟨some d,op,ty,ps,af,gd⟩ (yielded ops a.tmps)=true:=by rfl) (hs:Region.noSelect ops=true:=by kernel_rfl) (hfr:Region.free .any ops listed i=true:=by kernel_rfl) (hrd:(Region.ready .any ops listed).contains i=true:=by kernel_rfl)
  (hQ:∀c a w,Q (.panic c) (a.put (some d) v) w→Q (.panic c) a w:=by exact fun _ _ _ h=>h) (hd:Nat.blt d N=true:=by rfl) (hf:fresh env d=true:=by rfl):wpAnyH P .any ops Q (Wd w0 X esS) (fuel+1) listed a w:=
 wpAnyH_take hi hs hfr hrd hQ (.inl ⟨hg,fun w hw=>hy w hw⟩) hS (k _ (hF.put v hd hf))
theorem d_skip(i:Nat)(hi:ops[i]?=some ⟨some d,op,ty,ps,af,gd⟩)(hs:Region.noSelect ops=true)(hfr:Region.free .any ops listed i=true)(hrd:(Region.ready .any ops listed).contains i=true)(hQ:∀c a w,Q (.panic c) (a.put (some d) undef) w→Q (.panic c) a w)
  (hF:Fr ds N env a) (hg:Region.wanted ⟨some d,op,ty,ps,af,gd⟩ (yielded ops a.tmps)=false) (hS:S w) (hd:Nat.blt d N=true) (hf:fresh env d=true)
  (k:∀a,Fr ds N ((d,undef)::env) a→wpAnyH P .any ops Q S fuel (listed.setIfInBounds i true) a w):wpAnyH P .any ops Q S (fuel+1) listed a w:=
 wpAnyH_take hi hs hfr hrd hQ (.inr ⟨hg,rfl⟩) hS (k _ (hF.put undef hd hf))
theorem dvg(i:Nat)(hi:ops[i]?=some ⟨some d,op,ty,ps,af,gd⟩)
  (hF:Fr ds N env a) (hS:Wd w0 X esS w) (hy:Yv P w0 X esS a ⟨some d,op,ty,ps,af,gd⟩ v) (hg:Region.wanted ⟨some d,op,ty,ps,af,gd⟩ (yielded ops a.tmps)=true)
  (k:∀a,Fr ds N ((d,v)::env) a→wpAnyH P .any ops Q (Wd w0 X esS) fuel (listed.setIfInBounds i true) a w)
  (hs:Region.noSelect ops=true:=by kernel_rfl) (hfr:Region.free .any ops listed i=true:=by kernel_rfl) (hrd:(Region.ready .any ops listed).contains i=true:=by kernel_rfl)
  (hQ:∀c a w,Q (.panic c) (a.put (some d) v) w→Q (.panic c) a w:=by exact fun _ _ _ h=>h) (hd:Nat.blt d N=true:=by rfl) (hf:fresh env d=true:=by rfl):wpAnyH P .any ops Q (Wd w0 X esS) (fuel+1) listed a w:=dv i hi hF hS hy k hg hs hfr hrd hQ hd hf
theorem d_op{o:Oper}{i:Nat}{K':Act→World→Prop}(hi:ops[i]?=some o)(hg:Region.wanted o (yielded ops a.tmps)=true)(h:o.wp P a w K' Q):wpOp P ops Q i K' a w:=
 wpOp_step hi fun K'' hK=>by
  rw[if_pos hg]
  exact Oper.wp_mono hK h
theorem d_opval{i:Nat}{K':Act→World→Prop}(hi:ops[i]?=some ⟨some d,op,ty,ps,af,gd⟩)(hF:Fr ds N env a)(hg:Region.wanted ⟨some d,op,ty,ps,af,gd⟩ (yielded ops a.tmps)=true)(hW:Wd w0 X es w)(hy:Yv P w0 X es a ⟨some d,op,ty,ps,af,gd⟩ v)(hd:Nat.blt d N=true)(hf:fresh env d=true)
  (k:∀a,Fr ds N ((d,v)::env) a→K' a w):wpOp P ops Q i K' a w:=
 d_op hi hg (by
  unfold Oper.wp
  rw[hy w hW]
  exact k _ (hF.put v hd hf))
theorem d_1(i:Nat)(hr:Region.ready .any ops listed=[i])(h:wpOp P ops Q i (fun a' w'=>S w'∧wpAnyH P .any ops Q S fuel (listed.setIfInBounds i true) a' w') a w):wpAnyH P .any ops Q S (fuel+1) listed a w:=
 wpAnyH_all hr Si fun j hj=>by
  obtain rfl:j=i:=by simpa using hj
  exact h
theorem d_2(i j:Nat)(hr:Region.ready .any ops listed=[i,j])(h:wpOp P ops Q i (fun a' w'=>S w'∧wpAnyH P .any ops Q S fuel (listed.setIfInBounds i true) a' w') a w)
  (h2:wpOp P ops Q j (fun a' w'=>S w'∧wpAnyH P .any ops Q S fuel (listed.setIfInBounds j true) a' w') a w):wpAnyH P .any ops Q S (fuel+1) listed a w:=
 wpAnyH_all hr Si fun j' hj=>by
  rcases List.mem_cons.1 hj with rfl|hj
  ·exact h
  ·obtain rfl:j'=j:=by simpa using hj
   exact h2
theorem d_3(i j l:Nat)(hr:Region.ready .any ops listed=[i,j,l])(h:wpOp P ops Q i (fun a' w'=>S w'∧wpAnyH P .any ops Q S fuel (listed.setIfInBounds i true) a' w') a w)
  (h2:wpOp P ops Q j (fun a' w'=>S w'∧wpAnyH P .any ops Q S fuel (listed.setIfInBounds j true) a' w') a w)
  (h3:wpOp P ops Q l (fun a' w'=>S w'∧wpAnyH P .any ops Q S fuel (listed.setIfInBounds l true) a' w') a w):wpAnyH P .any ops Q S (fuel+1) listed a w:=
 wpAnyH_all hr Si fun j' hj=>by
  rcases List.mem_cons.1 hj with rfl|hj
  ·exact h
  ·rcases List.mem_cons.1 hj with rfl|hj
   ·exact h2
   ·obtain rfl:j'=l:=by simpa using hj
    exact h3
variable {c c1 c2:Code} {id id':Nat} {l:List Oper} {nx:Act→World→Prop} {e:Exit}
theorem c_sr(h:wpList P l.toArray (Exit.then (c.wp P Q) Q) l a w):(Code.seq (Code.region id l.toArray false) c).wp P Q a w:=wp_seq (wp_region_lit h)
theorem c_r(h:wpList P l.toArray Q l a w):(Code.region id l.toArray false).wp P Q a w:=wp_region_lit h
theorem c_d{ops:Array Oper}(hm:P.follows .mixedOrders=true)(hW:Wd w0 X es w)(hS:Wd w0 X esS w)(h:∀w,Wd w0 X es w→Wd w0 X esS w→wpAnyH P .any ops Q (Wd w0 X esS) ops.size (Array.replicate ops.size false) a w):(Code.region id ops true).wp P Q a w:=wp_region_held hm (h _ hW.drawn hS.drawn)
theorem c_sd{ops:Array Oper}(hm:P.follows .mixedOrders=true)(hW:Wd w0 X es w)(hS:Wd w0 X esS w)(h:∀w,Wd w0 X es w→Wd w0 X esS w→wpAnyH P .any ops (Exit.then (c.wp P Q) Q) (Wd w0 X esS) ops.size (Array.replicate ops.size false) a w):(Code.seq (Code.region id ops true) c).wp P Q a w:=wp_seq (wp_region_held hm (h _ hW.drawn hS.drawn))
theorem c_s(h:c1.wp P (Exit.then (c2.wp P Q) Q) a w):(Code.seq c1 c2).wp P Q a w:=wp_seq h
theorem c_t(hF:Fr ds N env a)(hx:ev env x=some (.bool true))(h:c1.wp P Q a w):(Code.cond x c1 c2).wp P Q a w:=wp_cond_true (hF.ev hx) h
theorem c_f(hF:Fr ds N env a)(hx:ev env x=some (.bool false))(h:c2.wp P Q a w):(Code.cond x c1 c2).wp P Q a w:=wp_cond_false (hF.ev hx) h
theorem l_nil(h:Q .normal a w):wpList P ops Q [] a w:=h
theorem d_nil(hr:Region.ready .any ops listed=[])(h:Q .normal a w):wpAnyH P .any ops Q S fuel listed a w:=wpAnyH_done hr h fuel
theorem t_n(h:nx a w):Exit.then nx Q .normal a w:=h
theorem t_r(h:Q .ret a w):Exit.then nx Q .ret a w:=h
theorem t_x(h:Q (.exit id) a w):Exit.then nx Q (.exit id) a w:=h
theorem b_n(h:Q .normal a w):Exit.inBlock id Q .normal a w:=h
theorem b_r(h:Q .ret a w):Exit.inBlock id Q .ret a w:=h
theorem b_h(h:Q .normal a w):Exit.inBlock id Q (.exit id) a w:=by simpa[Exit.inBlock] using h
theorem c_loop{G:Type}(I:G→List (Nat×Value))(E:G→List Asn)(C:G→Prop)(μ:G→Nat)(g0:G){base:List (Nat×Value)}{ebase:List Asn}(hB:Fr ds N base a)(hF:Fr ds N (I g0) a)(hW:Wd w0 X (E g0++ebase) w)(hC:C g0)
  (hr:∀g a w,C g→Fr ds N (I g++base) a→Wd w0 X (E g++ebase) w→c.wp P (Exit.then (fun a' w'=>∃g',C g'∧μ g'<μ g∧Fr ds N (I g'++base) a'∧Wd w0 X (E g'++ebase) w') Q) a w):(Code.loop c).wp P Q a w:=by
 refine wp_loop_ghost (fun n a w=>∃g,μ g=n∧C g∧Fr ds N (I g++base) a∧Wd w0 X (E g++ebase) w) (μ g0) ⟨g0,rfl,hC,hF.app hB,hW⟩ ?_
 rintro n a w ⟨g,rfl,hC,hF,hW⟩
 refine wp_mono (hr g a w hC hF hW) fun e a' w' hq=>?_
 cases e with
 |normal=>
  obtain⟨g',hC',hlt,hF',hW'⟩:=hq
  exact⟨μ g',hlt,g',rfl,hC',hF',hW'⟩
 |exit id=>exact hq
 |goto l=>exact hq
 |ret=>exact hq
 |panic ch=>exact hq
 |outgrown=>exact hq
def resOf(a:Act):ResultVar→Sem Value
 | .tmp t=>pure (a.tmps.getD t undef)
 | .cell x t=>do loadVar t (←asAddr (a.tmps.getD x undef))
def RVal(P:Program)(w:World)(a:Act)(r:ResultVar)(v:Value):Prop:=(resOf a r).run P w=.ok v w
theorem rv_t{t:Nat}(hF:Fr ds N env a)(ht:evT env t=some v):RVal P w a (.tmp t) v:=by
 have:a.tmps.getD t undef=v:=by rw[Array.getD_eq_getD_getElem?,hF.slot ht];rfl
 simp only[RVal,resOf,this,Sem.run_pure]
theorem rv_c{t:Nat}{b:Nat}{T:TypeId}{l:List Value}{dd:TypeDesc}(hF:Fr ds N env a)(ht:evT env t=some (.pointer (some ⟨b,0,none⟩)))(hW:Wd w0 X es w)(i:Nat)(hi:es[i]?=some (.blk b T l)){rt:TypeId}
  (hu:P.underlying rt=some dd) (hd:dd.isRow=true) (hz:(P.info? rt).map (·.size)=some l.length):RVal P w a (.cell t rt) (.agg l.toArray):=by
 have h1:a.tmps.getD t undef=.pointer (some ⟨b,0,none⟩):=by rw[Array.getD_eq_getD_getElem?,hF.slot ht];rfl
 have:=run_load_blk (P:=P) (hW.blk i hi) hu hd hz
 simp only[RVal,resOf,h1,asAddr,Sem.run_bind,Sem.run_pure,Result.andThen_ok]
 exact this
theorem rv_c1{t:Nat}{b:Nat}{T:TypeId}{l:List Value}{dd:TypeDesc}(hF:Fr ds N env a)(ht:evT env t=some (.pointer (some ⟨b,0,none⟩)))(hW:Wd w0 X es w)(i:Nat)(hi:es[i]?=some (.blk b T l))(hv:l[0]?=some v){rt:TypeId}
  (hu:P.underlying rt=some dd) (hd:dd.isRow=false):RVal P w a (.cell t rt) v:=by
 have h1:a.tmps.getD t undef=.pointer (some ⟨b,0,none⟩):=by rw[Array.getD_eq_getD_getElem?,hF.slot ht];rfl
 have:=run_load1 (P:=P) hu hd (((hW.blk i hi).cell 0).trans hv)
 simp only[RVal,resOf,h1,asAddr,Sem.run_bind,Sem.run_pure,Result.andThen_ok]
 exact this
variable {fn:Func} {R:Ending→World→Prop} {r1 r2 r3 r4:ResultVar} {v1 v2 v3 v4:Value}
theorem ret0(h:fn.results=#[])(hF:Fr [] N env a)(hR:R (.returned (.tuple #[])) w):bodyPost P fn R .ret a w:=bodyPost_ret (results_none h _ _ _) hF.defers hR
theorem end0(h:fn.results=#[])(hF:Fr [] N env a)(hR:R (.returned (.tuple #[])) w):bodyPost P fn R .normal a w:=bodyPost_end (results_none h _ _ _) hF.defers hR
theorem results_of(a:Act):results fn a.tmps=(do let vs ←fn.results.mapM (resOf a);pure (if h:vs.size=1 then vs[0] else .tuple vs)):=by
 unfold results
 congr 1
theorem ret1(h:fn.results=#[r1])(hF:Fr [] N env a)(h1:RVal P w a r1 v1)(hR:R (.returned v1) w):bodyPost P fn R .ret a w:=by
 refine bodyPost_ret ?_ hF.defers hR
 unfold RVal at h1
 rw[results_of,h]
 simp[h1]
theorem ret2(h:fn.results=#[r1,r2])(hF:Fr [] N env a)(h1:RVal P w a r1 v1)(h2:RVal P w a r2 v2)(hR:R (.returned (.tuple #[v1,v2])) w):bodyPost P fn R .ret a w:=by
 refine bodyPost_ret ?_ hF.defers hR
 unfold RVal at h1 h2
 rw[results_of,h]
 simp[h1,h2]
theorem ret3(h:fn.results=#[r1,r2,r3])(hF:Fr [] N env a)(h1:RVal P w a r1 v1)(h2:RVal P w a r2 v2)(h3:RVal P w a r3 v3)(hR:R (.returned (.tuple #[v1,v2,v3])) w):bodyPost P fn R .ret a w:=by
 refine bodyPost_ret ?_ hF.defers hR
 unfold RVal at h1 h2 h3
 rw[results_of,h]
 simp[h1,h2,h3]
theorem ret4(h:fn.results=#[r1,r2,r3,r4])(hF:Fr [] N env a)(h1:RVal P w a r1 v1)(h2:RVal P w a r2 v2)(h3:RVal P w a r3 v3)(h4:RVal P w a r4 v4)(hR:R (.returned (.tuple #[v1,v2,v3,v4])) w):bodyPost P fn R .ret a w:=by
 refine bodyPost_ret ?_ hF.defers hR
 unfold RVal at h1 h2 h3 h4
 rw[results_of,h]
 simp[h1,h2,h3,h4]
end
end
section
open Go.ChangeShapes Go.WideShapes Go.ChangeAt Go.RowKit
section
variable {H:Type} {enc:TypeId×Value→H} {P:Program} {w:World} {base:Nat} {spare:Nat→Bool} {held:Bool}
theorem trodAll_six{t0 t1 t2 t3 t4 t5:TypeId}{args:Array Value}{ds:List (DataW H)}{ps:List MemPlace}(h:DataW.TrodAll enc P w base spare held [t0,t1,t2,t3,t4,t5] args.toList ds ps):
  ∃v0 v1 v2 v3 v4 v5 d0 d1 d2 d3 d4 d5 p0 p1 p2 p3 p4 p5,args=#[v0,v1,v2,v3,v4,v5]∧ds=[d0,d1,d2,d3,d4,d5]∧ps=p0++p1++p2++p3++p4++p5∧DataW.Trod enc P w base spare held t0 v0 d0 p0∧DataW.Trod enc P w base spare held t1 v1 d1 p1∧DataW.Trod enc P w base spare held t2 v2 d2 p2∧DataW.Trod enc P w base spare held t3 v3 d3 p3∧DataW.Trod enc P w base spare held t4 v4 d4 p4∧DataW.Trod enc P w base spare held t5 v5 d5 p5:=by
 obtain⟨v0,r0,d0,s0,p0,q0,ha,rfl,rfl,h0,k0⟩:=trodAll_cons h
 obtain⟨v1,r1,d1,s1,p1,q1,rfl,rfl,rfl,h1,k1⟩:=trodAll_cons k0
 obtain⟨v2,r2,d2,s2,p2,q2,rfl,rfl,rfl,h2,k2⟩:=trodAll_cons k1
 obtain⟨v3,r3,d3,s3,p3,q3,rfl,rfl,rfl,h3,k3⟩:=trodAll_cons k2
 obtain⟨v4,r4,d4,s4,p4,q4,rfl,rfl,rfl,h4,k4⟩:=trodAll_cons k3
 obtain⟨v5,r5,d5,s5,p5,q5,rfl,rfl,rfl,h5,k5⟩:=trodAll_cons k4
 obtain⟨rfl,rfl,rfl⟩:=trodAll_nil k5
 exact⟨v0,v1,v2,v3,v4,v5,d0,d1,d2,d3,d4,d5,p0,p1,p2,p3,p4,p5,by cases args;simp_all,rfl,by simp,h0,h1,h2,h3,h4,h5⟩
end
def Rd(P:Program)(w:World):Nat→TypeId→List Value→Prop
 |0,_,_=>True
 |d+1,t,cs=>match P.underlying t with
  |some (.int k)=>∃n,cs=[.int k n]∧(Lit.int k n).wf=true
  |some .bool=>∃b,cs=[.bool b]
  |some .string=>∃s:ByteArray,cs=[.string s]∧s.size≤maxLen
  |some (.struct fs)=>cs.length=P.cellsOf t∧∀(i:Nat) (f:Field),fs[i]?=some f→Rd P w d f.type ((cs.drop f.offset).take (P.cellsOf f.type))
  |some (.array n e)=>cs.length=P.cellsOf t∧∀i,i<n→Rd P w d e ((cs.drop (i*P.cellsOf e)).take (P.cellsOf e))
  |some (.slice e)=>∃(A:Option Addr) (n c:Nat) (f:Nat→List Value),cs=[.slice A n c]∧n≤c∧c≤maxLen∧RF w A n (P.cellsOf e) f∧∀i,i<n→Rd P w d e (f i)
  |_=>True
theorem rd_of_trod{H:Type}{enc:TypeId×Value→H}{P:Program}{w:World}{base:Nat}{spare:Nat→Bool}{held:Bool}:∀(d fuel:Nat) (t:TypeId) (cs:List Value) (x:DataW H×List MemPlace),
  DataW.trod enc P w base spare held fuel t cs=some x→Rd P w d t cs
 |0,_,_,_,_,_=>trivial
 |d+1,fuel,t,cs,x,h=>by
  unfold Rd
  cases hu:P.underlying t with
  |none=>trivial
  |some k=>
   cases k with
   |int k=>
    cases fuel with
    |zero=>simp[DataW.trod] at h
    |succ n=>
     unfold DataW.trod at h
     rw[hu] at h
     dsimp only
     split at h<;>simp_all
   |bool=>
    cases fuel with
    |zero=>simp[DataW.trod] at h
    |succ n=>
     unfold DataW.trod at h
     rw[hu] at h
     dsimp only
     split at h<;>simp_all
   |string=>
    cases fuel with
    |zero=>simp[DataW.trod] at h
    |succ n=>
     unfold DataW.trod at h
     rw[hu] at h
     dsimp only
     split at h<;>simp_all
   |struct fs=>
    obtain⟨xs,n,_,_,hl,hlen,hg⟩:=DataW.trod_struct hu h
    refine⟨hl,fun i f hf=>?_⟩
    have:=hg i f hf
    have hi:i<xs.length:=by rw[hlen];exact(Array.getElem?_eq_some_iff.1 hf).1
    rw[List.getElem?_eq_getElem hi] at this
    exact rd_of_trod d _ _ _ _ this
   |array n e=>
    obtain⟨xs,m,_,_,hl,hlen,hg⟩:=DataW.trod_array hu h
    refine⟨hl,fun i hi=>?_⟩
    have:=hg i hi
    rw[List.getElem?_eq_getElem Om] at this
    exact rd_of_trod d _ _ _ _ this
   |slice e=>
    rcases DataW.trod_slice hu h with⟨rfl,_⟩|⟨a,len,cap,elems,rest,n,_,rfl,_,hb,hl,hm,hlen,hel,_⟩
    ·exact⟨none,0,0,fun _=>[],rfl,by omega,by simp,RF.zero,fun i hi=>absurd hi Om⟩
    ·have each:∀i,∃cs',i<len→(w.cells? base (a.add (i*P.cellsOf e)) (P.cellsOf e)=some cs'∧Rd P w d e cs'):=fun i=>by
      by_cases hi:i<len
      ·have:=hel i hi
       rw[List.getElem?_eq_getElem Om,Option.bind_eq_some_iff] at this
       obtain⟨cs',h1,h2⟩:=this
       exact⟨cs',fun _=>⟨h1,rd_of_trod d _ _ _ _ h2⟩⟩
      ·exact⟨[],fun h=>absurd h hi⟩
     refine⟨some a,len,cap,fun i=>Classical.choose (each i),rfl,hl,hm,fun _=>⟨rfl,fun i hi o v hv=>?_⟩,fun i hi=>(Classical.choose_spec (each i) hi).2⟩
     have hc:=World.cells?_some (Classical.choose_spec (each i) hi).1
     have ho:o<P.cellsOf e:=Nat.lt_of_lt_of_eq (List.getElem?_eq_some_iff.1 hv).1 hc.2.1
     have:=hc.2.2 o ho
     show w.cell? (a.add (i*P.cellsOf e+o))=some v
     rw[←add_of_add,this,hv]
   |_=>trivial
theorem rd_of{H:Type}{enc:TypeId×Value→H}{P:Program}{w:World}{base:Nat}{spare:Nat→Bool}{held:Bool}{t:TypeId}{v:Value}{dd:DataW H}{p:List MemPlace}(d:Nat)(h:DataW.Trod enc P w base spare held t v dd p):Rd P w d t v.cells.toList:=by
 obtain⟨fuel,hf⟩:=h
 exact rd_of_trod d fuel t _ _ hf
section
variable {P:Program} {w:World} {d:Nat} {t:TypeId} {cs:List Value}
theorem Rd.int{k:IntKind}(hu:P.underlying t=some (.int k))(h:Rd P w (d+1) t cs):∃n,cs=[.int k n]∧(Lit.int k n).wf=true:=by unfold Rd at h;rwa [hu] at h
theorem Rd.struct{fs:Array Field}(hu:P.underlying t=some (.struct fs))(h:Rd P w (d+1) t cs):cs.length=P.cellsOf t∧∀(i:Nat) (f:Field),fs[i]?=some f→Rd P w d f.type ((cs.drop f.offset).take (P.cellsOf f.type)):=by unfold Rd at h;rwa [hu] at h
theorem Rd.slice{e:TypeId}(hu:P.underlying t=some (.slice e))(h:Rd P w (d+1) t cs):∃(A:Option Addr) (n c:Nat) (f:Nat→List Value),cs=[.slice A n c]∧n≤c∧c≤maxLen∧RF w A n (P.cellsOf e) f∧∀i,i<n→Rd P w d e (f i):=by unfold Rd at h;rwa [hu] at h
theorem Rd.fld{fs:Array Field}(hu:P.underlying t=some (.struct fs))(h:Rd P w (d+1) t cs)(i:Nat){f:Field}{o z:Nat}{T:TypeId}{cs':List Value}(hf:fs[i]?=some f)(ho:f.offset=o)(hT:f.type=T)(hz:P.cellsOf T=z)(hcs:(cs.drop o).take z=cs'):Rd P w d T cs':=by
 subst ho hT hz hcs
 exact(h.struct hu).2 i f hf
theorem Rd.ints_of_fields{fs:Array Field}(hu:P.underlying t=some (.struct fs))(h:Rd P w (d+2) t cs)(hf:flatInts P 0 fs.toList=true)(hc:P.cellsOf t=fs.size)(h1:(fs.toList.all fun f=>Nat.beq (P.cellsOf f.type) 1)=true):∃l:List Int,cs=l.map (.int .i64)∧l.length=fs.size:=by
 obtain⟨hl,hall⟩:=h.struct hu
 have key:∀(r:List Field) (k:Nat),flatInts P k r=true→∀f∈r,∃j,f.offset=k+j∧r[j]?=some f∧P.underlying f.type=some (.int .i64):=by
  intro r
  induction r with
  |nil=>intro k _ f hf;cases hf
  |cons g r ih=>
   intro k hk f hf
   simp only[flatInts,Bool.and_eq_true] at hk
   rcases List.mem_cons.1 hf with rfl|hf
   ·refine⟨0,by simpa using Nat.eq_of_beq_eq_true hk.2.2.1,rfl,?_⟩
    have:=hk.2.1
    split at this
    ·assumption
    ·cases this
   ·obtain⟨j,h1,h2,h3⟩:=ih (k+1) hk.2.2.2 f hf
    exact⟨j+1,by omega,by simpa using h2,h3⟩
 have off:∀(r:List Field) (k i:Nat) (f:Field),flatInts P k r=true→r[i]?=some f→f.offset=k+i∧P.underlying f.type=some (.int .i64):=by
  intro r
  induction r with
  |nil=>intro k i f _ hi;simp at hi
  |cons g r ih=>
   intro k i f hk hi
   simp only[flatInts,Bool.and_eq_true] at hk
   cases i with
   |zero=>
    simp only[List.getElem?_cons_zero,Option.some.injEq] at hi
    subst hi
    refine⟨by simpa using Nat.eq_of_beq_eq_true hk.2.2.1,?_⟩
    have:=hk.2.1
    split at this
    ·assumption
    ·cases this
   |succ i=>
    have:=ih (k+1) i f hk.2.2.2 (by simpa using hi)
    exact⟨by omega,this.2⟩
 have each:∀i,i<cs.length→∃n,cs[i]?=some (.int .i64 n):=fun i hi=>by
  have hi':i<fs.size:=by omega
  have hg:fs[i]?=some fs[i]:=Array.getElem?_eq_getElem hi'
  obtain⟨ho,hui⟩:=off fs.toList 0 i fs[i] hf (by rw[Array.getElem?_toList];exact hg)
  obtain⟨n,hn,_⟩:=(hall i _ hg).int hui
  refine⟨n,?_⟩
  have h1i:P.cellsOf fs[i].type=1:=Nat.eq_of_beq_eq_true (List.all_eq_true.1 h1 _ (Array.mem_toList_iff.2 (Array.getElem_mem hi')))
  rw[h1i,ho,Nat.zero_add] at hn
  have:((cs.drop i).take 1)[0]?=some (.int .i64 n):=by rw[hn];rfl
  simpa[List.getElem?_take,List.getElem?_drop] using this
 have hex:∀(r:List Value),(∀i,i<r.length→∃n,r[i]?=some (.int .i64 n))→∃l:List Int,r=l.map (.int .i64):=by
  intro r
  induction r with
  |nil=>intro _;exact⟨[],rfl⟩
  |cons v r ih=>
   intro hr
   obtain⟨n,hn⟩:=hr 0 Si
   obtain⟨l,rfl⟩:=ih fun i hi=>by have:=hr (i+1) (by simpa using hi);simpa using this
   simp only[List.getElem?_cons_zero,Option.some.injEq] at hn
   exact⟨n::l,by rw[hn];rfl⟩
 obtain⟨l,rfl⟩:=hex cs each
 exact⟨l,rfl,by simpa[hc] using hl⟩
theorem Rd.flatS{α:Type}{enc:α→List Value}{size:Nat}{e:TypeId}(hu:P.underlying t=some (.slice e))(hce:P.cellsOf e=size)(hs:∀a,(enc a).length=size)(hd:∀r,Rd P w d e r→∃a,r=enc a)(h:Rd P w (d+1) t cs):∃v l,cs=[v]∧Flat enc size w v l:=by
 obtain⟨A,n,c,f,rfl,hn,hm,hR,hall⟩:=h.slice hu
 rw[hce] at hR
 rcases Nat.eq_zero_or_pos n with rfl|hpos
 ·exact⟨_,[],rfl,A,c,rfl,by simp,hm,by simp,fun h=>by simp at h⟩
 obtain⟨a0,_⟩:=hd _ (hall 0 hpos)
 have hex:∀i,∃a,i<n→f i=enc a:=fun i=>by
  by_cases hi:i<n
  ·obtain⟨a,ha⟩:=hd _ (hall i hi)
   exact⟨a,fun _=>ha⟩
  ·exact⟨a0,fun h=>absurd h hi⟩
 have hlen:((List.range n).map fun i=>Classical.choose (hex i)).length=n:=by simp
 refine⟨_,(List.range n).map fun i=>Classical.choose (hex i),rfl,A,c,by simp,by simpa using hn,hm,?_,fun _=>⟨adr A,(hR hpos).1,fun j u hj=>?_⟩⟩
 ·have:∀l:List α,(l.flatMap enc).length=l.length*size:=by
   intro l
   induction l with
   |nil=>simp
   |cons x r ih=>rw[List.flatMap_cons,List.length_append,hs,ih,List.length_cons,Nat.succ_mul];omega
  rw[this]
 ·have hz:0<size:=by
   rcases Nat.eq_zero_or_pos size with h0|h0
   ·subst h0
    have:∀l:List α,l.flatMap enc=[]:=by
     intro l
     induction l with
     |nil=>rfl
     |cons x r ih=>rw[List.flatMap_cons,ih,List.eq_nil_of_length_eq_zero (hs x)];rfl
    rw[this] at hj
    simp at hj
   ·exact h0
  have hj0:j<((List.range n).map fun i=>Classical.choose (hex i)).length*size:=by
   have h1:=(List.getElem?_eq_some_iff.1 hj).1
   have:∀l:List α,(l.flatMap enc).length=l.length*size:=by
    intro l
    induction l with
    |nil=>simp
    |cons x r ih=>rw[List.flatMap_cons,List.length_append,hs,ih,List.length_cons,Nat.succ_mul];omega
   rwa [this] at h1
  rw[hlen] at hj0
  have hq:j/size<n:=Nat.div_lt_of_lt_mul (by rwa [Nat.mul_comm])
  have hr:j%size<size:=Nat.mod_lt _ hz
  have hdm:j/size*size+j%size=j:=Nat.div_add_mod' j size
  rw[←hdm,flat_get hs (j/size) (j%size) (by rw[hlen];exact hq) hr] at hj
  rw[←hdm]
  refine(hR hpos).2 (j/size) hq (j%size) u ?_
  rw[Classical.choose_spec (hex (j/size)) hq]
  simpa using hj
end
end
section
open Go.ChangeShapes Go.WideShapes Go.ChangeAt Go.RowKit
section
variable {P:Program} {w0 w:World} {X:Nat→Prop} {es:List Asn} {a:Act} {ds:List Deferred} {N:Nat} {env:List (Nat×Value)} {dst:Option Tmp} {ty:TypeId} {ps:String} {af:Array Edge} {gd:Option (Nat×Bool)} {t e z:TypeId} {x lo hi:Operand} {A:Option Addr} {n c l h:Nat} {kl kh:IntKind} {Q:Exit→Act→World→Prop} {c1 c2:Code}
theorem run_bound{v:Value}{y i:Nat}{k:IntKind}{code:BoundsCode}(hv:v=.int k (i:Int))(hi:i≤y)(w:World):(Instr.sliceBound v y code).run P w=.ok i w:=by
 subst hv
 have:(0:Int)≤(i:Int)∧(i:Int)≤(y:Int):=by omega
 simp[Instr.sliceBound,asIntOf,this]
theorem y_sliceL(hF:Fr ds N env a)(hx:ev env x=some (.slice A n c))(hl:ev env lo=some (.int kl (l:Int)))(hle:l≤n)(hu:P.underlying t=some (.slice e))(hz:(P.info? e).map (·.size)=some z):
  Yv P w0 X es a ⟨dst,.slice t x (some lo) none none,ty,ps,af,gd⟩ (.slice (if c=l then A else A.map (·.add (l*z))) (n - l) (c - l)):=fun w _=>by
 cases hie:P.info? e with
 |none=>rw[hie] at hz;cases hz
 |some j=>
  rw[hie] at hz
  have hz':j.size=z:=by simpa using hz
  have hb:=fun code=>run_bound (P:=P) (v:=.int kl (l:Int)) (y:=n) (code:=code) rfl hle w
  simp[execOp,hF.ev hx,hF.ev hl,Instr.sliceAt,Instr.slice,run_underlying hu,Instr.sliceBounds,hb,sizeOf,typeInfo,hie,hz']
theorem Ints.rowAt{xs:List Int}(hi:Ints w (.slice A n c) xs):RowAt w 1 A n (xs.map (.int .i64)):=by
 obtain⟨A',c',e1,h1,h2,h3⟩:=hi
 simp only[Value.slice.injEq] at e1
 obtain⟨rfl,rfl,rfl⟩:=e1
 exact h3
theorem Ints.len{xs:List Int}(hi:Ints w (.slice A n c) xs):n=xs.length∧n≤c∧c≤maxLen:=by
 obtain⟨A',c',e1,h1,h2,h3⟩:=hi
 simp only[Value.slice.injEq] at e1
 obtain⟨rfl,rfl,rfl⟩:=e1
 exact⟨rfl,h1,h2⟩
theorem Below.on{w w1 w2:World}(h:Below w.heap.size w w1)(k:Below w1.heap.size w1 w2):Below w.heap.size w w2:=h.trans (k.mono h.size)
theorem y_loadB{P:Program}{w0:World}{es:List Asn}{a:Act}{ds:List Deferred}{N:Nat}{env:List (Nat×Value)}{dst:Option Tmp}{ty:TypeId}{ps:String}{af:Array Edge}{gd:Option (Nat×Bool)}{t T:TypeId}{x:Operand}{b o:Nat}{l:List Value}{v:Value}{d:TypeDesc}
  (hF:Fr ds N env a) (hx:ev env x=some (.pointer (some ⟨b,o,none⟩))) (hB:Blk w0 b T l) (hv:l[o]?=some v) (hu:P.underlying t=some d) (hd:d.isRow=false):Yv P w0 NoB es a ⟨dst,.load t x,ty,ps,af,gd⟩ v:=
 y_load hF hx hu hd fun _ hw=>((hB.kept hw.below).cell o).trans hv
theorem y_loadBN{P:Program}{w0:World}{es:List Asn}{a:Act}{ds:List Deferred}{N:Nat}{env:List (Nat×Value)}{dst:Option Tmp}{ty:TypeId}{ps:String}{af:Array Edge}{gd:Option (Nat×Bool)}{t T:TypeId}{x:Operand}{b o z:Nat}{l:List Value}{d:TypeDesc}
  (hF:Fr ds N env a) (hx:ev env x=some (.pointer (some ⟨b,o,none⟩))) (hB:Blk w0 b T l) (hu:P.underlying t=some d) (hd:d.isRow=true) (hz:(P.info? t).map (·.size)=some z) (hl:Nat.ble (o+z) l.length=true):Yv P w0 NoB es a ⟨dst,.load t x,ty,ps,af,gd⟩ (.agg ((l.drop o).take z).toArray):=
 y_loadCells hF hx hu hd (by
  have:o+z≤l.length:=by simpa using hl
  rw[hz,List.length_take,List.length_drop,Nat.min_eq_left Om]) fun _ hw j v hj=>by
  rw[add_own]
  refine((hB.kept hw.below).cell _).trans ?_
  have h1:=List.getElem?_take (l:=l.drop o) (i:=z) (j:=j)
  rw[h1] at hj
  split at hj
  ·rwa [List.getElem?_drop] at hj
  ·cases hj
theorem c_cut{G:Type}(I:G→List (Nat×Value))(E:G→List Asn)(C:G→Prop){base:List (Nat×Value)}{ebase:List Asn}(_:Fr ds N base a)(_:Wd w0 X ebase w)
  (h1:c1.wp P (Exit.then (fun a' w'=>∃g,Fr ds N (I g++base) a'∧Wd w0 X (E g++ebase) w'∧C g) Q) a w)
  (h2:∀g a w,C g→Fr ds N (I g++base) a→Wd w0 X (E g++ebase) w→c2.wp P Q a w):(Code.seq c1 c2).wp P Q a w:=by
 refine wp_seq (wp_mono h1 fun e a' w' hq=>?_)
 cases e with
 |normal=>
  obtain⟨g,hF,hW,hC⟩:=hq
  exact h2 g a' w' hC hF hW
 |exit id=>exact hq
 |goto l=>exact hq
 |ret=>exact hq
 |panic ch=>exact hq
 |outgrown=>exact hq
theorem Wd.join(hW:Wd w0 X es w){R R':World→Prop}{r:List Asn}(he:es=.res R::.res R'::r):Wd w0 X (.res (fun u=>R u∧R' u)::r) w:=by
 subst he
 obtain⟨hc,F,hA,hF,F',hA',hF',hr⟩:=hW
 refine⟨hc,fun k=>F k∨F' k,fun w' hk=>⟨hA w' fun k h=>hk k (.inl h),hA' w' fun k h=>hk k (.inr h)⟩,fun k hk=>⟨?_,?_⟩,Own.mono (Nat.le_refl _) _ _ _ (fun k _ hn=>⟨fun hor=>hn ?_,rfl⟩) hr⟩
 ·rcases hk with hk|hk
  ·exact(hF k hk).1
  ·exact fun hg=>(hF' k hk).1 (.inl hg)
 ·rcases hk with hk|hk
  ·exact(hF k hk).2
  ·exact(hF' k hk).2
 ·rcases hor with h|h|h
  ·exact .inl (.inl h)
  ·exact .inl (.inr h)
  ·exact .inr h
theorem Own.weak{R R':World→Prop}(h:∀u,R u→R' u):∀(es:List Asn) (G:Nat→Prop) (i:Nat),es[i]?=some (.res R)→Own w G es→Own w G (es.set i (.res R'))
 |[],_,_,hi,_=>by simp at hi
 |B::r,G,0,hi,⟨F,hA,hF,hr⟩=>by
  obtain rfl:B=.res R:=by simpa using hi
  exact⟨F,fun w' hk=>h _ (hA w' hk),hF,hr⟩
 |B::r,G,i+1,hi,⟨F,hA,hF,hr⟩=>⟨F,hA,hF,Own.weak h r _ i (by simpa using hi) hr⟩
theorem Wd.weak(hW:Wd w0 X es w)(i:Nat){R R':World→Prop}(hi:es[i]?=some (.res R))(h:∀u,R u→R' u):Wd w0 X (es.set i (.res R')) w:=⟨hW.chg,hW.own.weak h es _ i hi⟩
theorem Wd.free(hW:Wd w0 X es w){R:World→Prop}(h:∀u,R u):Wd w0 X (.res R::es) w:=
 hW.add (F:=fun _=>False) (Below.refl _ _) (fun _ _=>h _) fun _ hk=>hk.elim
end
section
variable {H:Type} {enc:TypeId×Value→H} {P:Program} {w:World} {base:Nat} {spare:Nat→Bool} {held:Bool} {t:TypeId} {v:Value} {dd:DataW H} {p:List MemPlace} {ts:List TypeId} {ds:List (DataW H)} {cs:List Value} {d:Nat}
end
end
section
open Go.ChangeShapes Go.WideShapes Go.ChangeAt Go.RowKit
section
variable {P:Program} {w0 w w':World} {X:Nat→Prop} {es es':List Asn} {a:Act} {ds:List Deferred} {N:Nat} {env:List (Nat×Value)} {dst:Option Tmp} {ty:TypeId} {ps:String} {af:Array Edge} {gd:Option (Nat×Bool)} {t t' e:TypeId} {x y:Operand} {A:Option Addr} {n c:Nat}
theorem y_eqNilS(hF:Fr ds N env a)(hx:ev env x=some (.slice A n c))(hy:ev env y=some (.slice none 0 0))(hu:P.underlying t=some (.slice e)):
  Yv P w0 X es a ⟨dst,.binOp .eql t x y t',ty,ps,af,gd⟩ (.bool A.isNone):=
 y_bin hF hx hy fun w=>by
  have h:=Lib.run_eql_slice_nil (P:=P) w t e A n c 0 0 hu
  simp[eqGuard,h]
theorem Own.comb{H0:Nat→Prop}(hb:Chg NoB w w'):∀(es':List Asn) (H G':Nat→Prop) {es:List Asn},Own w' H es'→(∀k,G' k→H k)→(∀k,k<w.heap.size→G' k→H0 k)→(∀k,k<w.heap.size→H k)→Own w H0 es→Own w' G' (es'++es)
 |[],_,_,es,_,_,h2,_,ho=>Own.mono hb.size es _ _ (fun k hk hn=>⟨fun hg=>hn (h2 k hk hg),hb.block k hk id⟩) ho
 |B::r,H,G',es,⟨F,hB,hF,hr⟩,h1,h2,h3,ho=>
  ⟨F,hB,fun k hk=>⟨fun hg=>(hF k hk).1 (h1 k hg),(hF k hk).2⟩,
   Own.comb hb r _ _ hr (fun k hk=>hk.elim (fun h=>.inl (h1 k h)) .inr) (fun k hk hor=>hor.elim (h2 k hk) fun hf=>absurd (h3 k hk) (hF k hf).1) (fun k hk=>.inl (h3 k hk)) ho⟩
theorem Wd.comb(hW:Wd w0 X es w)(hN:Wd w NoB es' w'):Wd w0 X (es'++es) w':=by
 have hz:=hW.size
 exact⟨hW.chg.trans (Chg.of_below hN.below),Own.comb hN.chg es' _ _ hN.own (fun k hk=>⟨by omega,id⟩) (fun k _ hk=>hk) (fun k hk=>⟨hk,id⟩) hW.own⟩
theorem Wd.comb1{E1:Asn}(hW:Wd w0 X es w)(hN:Wd w NoB [E1] w'):Wd w0 X (E1::es) w':=hW.comb hN
theorem Wd.comb2{E1 E2:Asn}(hW:Wd w0 X es w)(hN:Wd w NoB [E1,E2] w'):Wd w0 X (E1::E2::es) w':=hW.comb hN
theorem Wd.comb3{E1 E2 E3:Asn}(hW:Wd w0 X es w)(hN:Wd w NoB [E1,E2,E3] w'):Wd w0 X (E1::E2::E3::es) w':=hW.comb hN
theorem Wd.row_whole(hW:Wd w0 X es w)(i:Nat){T:TypeId}{size n:Nat}{v:Value}{cs:List Value}(hi:es[i]?=some (.row T size v n cs))(hn:0<n):
  ∃b c l,v=.slice (some ⟨b,0,none⟩) n c∧n≤c∧c≤maxLen∧l.length=c*size∧l.take (n*size)=cs∧Wd w0 X (es.set i (.blk b T l)) w:=by
 rcases(hW.row i hi).2 with⟨_,h0⟩|⟨g,cap,cur,rfl,_,hg,h1,h2,h3,h4⟩
 ·omega
 ·refine⟨g,cap,cur.toList,rfl,h1,h2,by simpa using h3,h4,hW.upd i hi fun F hF=>⟨Chg.refl _ _,(· =g),⟨rfl,fun _ h=>h,by simpa[Blk] using hg⟩,fun k hk=>?_⟩⟩
  subst hk
  exact⟨(Array.getElem?_eq_some_iff.1 hg).1,.inl (hF.2 _ rfl)⟩
theorem Wd.row_res(hW:Wd w0 X es w)(i:Nat){T:TypeId}{size n:Nat}{v:Value}{cs:List Value}(hi:es[i]?=some (.row T size v n cs)):Wd w0 X (es.set i (.res fun u=>u.ownsRow 0 T size v n cs)) w:=
 hW.upd i hi fun F hF=>⟨Chg.refl _ _,fun k=>v.ownBlock=some k,fun w'' hk=>(((Asn.row T size v n cs).loc w w'' (fun k=>v.ownBlock=some k) ⟨hF.1,fun _ h=>h⟩ hk).1),fun k hk=>⟨(hF.1.lt k hk).2,.inl (hF.2 k hk)⟩⟩
theorem Wd.blk_res(hW:Wd w0 X es w)(i:Nat){b:Nat}{T:TypeId}{l:List Value}(hi:es[i]?=some (.blk b T l)):Wd w0 X (es.set i (.res fun u=>Blk u b T l)) w:=
 hW.upd i hi fun F hF=>⟨Chg.refl _ _,(· =b),fun w'' hk=>(hk b rfl).trans hF.2.2,fun k hk=>by subst hk;exact⟨hF.2.2.lt,.inl hF.1⟩⟩
theorem Wd.res2{R1 R2 R:World→Prop}(hW:Wd w0 X (.res R1::.res R2::es) w)(h:∀u,R1 u→R2 u→R u):Wd w0 X (.res R::es) w:=(hW.join rfl).weak 0 rfl fun u hu=>h u hu.1 hu.2
theorem Wd.res3{R1 R2 R3 R:World→Prop}(hW:Wd w0 X (.res R1::.res R2::.res R3::es) w)(h:∀u,R1 u→R2 u→R3 u→R u):Wd w0 X (.res R::es) w:=
 ((hW.join rfl).join rfl).weak 0 rfl fun u hu=>h u hu.1.1 hu.1.2 hu.2
theorem Wd.row1{T1 s1 n1:Nat}{v1:Value}{cs1:List Value}{R3 R:World→Prop}(hW:Wd w0 X (.row T1 s1 v1 n1 cs1::.res R3::es) w)(h:∀u,u.ownsRow 0 T1 s1 v1 n1 cs1→R3 u→R u):Wd w0 X (.res R::es) w:=Wd.res2 (hW.row_res 0 rfl) h
theorem one_flat{α:Type}{enc:α→List Value}(h:∀q,∀u∈enc q,u.oneCell'=true)(l:List α):∀u∈l.flatMap enc,u.oneCell'=true:=fun u hu=>by
 obtain⟨q,_,hq⟩:=List.mem_flatMap.1 hu
 exact h q u hq
end
theorem getD_app_l{α:Type}{l:List α}{x d:α}{i:Nat}(h:i<l.length):(l++[x]).getD i d=l.getD i d:=by
 simp only[List.getD,List.getElem?_append_left h]
theorem getD_app_r{α:Type}{l:List α}{x d:α}:(l++[x]).getD l.length d=x:=by simp[List.getD]
theorem flatMap_set{α:Type}{enc:α→List Value}{size:Nat}(hs:∀q,(enc q).length=size):∀(xs:List α) (p:Nat) (q:α),p<xs.length→(xs.set p q).flatMap enc=(xs.flatMap enc).take (p*size)++enc q++(xs.flatMap enc).drop (p*size+size)
 |[],_,_,h=>by simp at h
 |y::r,0,q,_=>by simp[hs,List.drop_append,List.drop_of_length_le]
 |y::r,p+1,q,h=>by
  have ih:=flatMap_set hs r p q (by simpa using h)
  have e1:(p+1)*size=(enc y).length+p*size:=by rw[hs,Nat.succ_mul];omega
  simp only[List.set_cons_succ,List.flatMap_cons]
  rw[ih,e1,List.take_length_add_append,Nat.add_assoc,List.drop_length_add_append]
  simp
theorem splice_eq:∀(vs l:List Value) (o:Nat),o+vs.length≤l.length→splice l o vs=l.take o++(vs++l.drop (o+vs.length))
 |[],l,o,_=>by simp[splice]
 |v::vs,l,o,h=>by
  rw[List.length_cons] at h
  have ho:o<l.length:=by omega
  rw[splice,splice_eq vs (l.set o v) (o+1) (by simp;omega),List.set_eq_take_append_cons_drop,if_pos ho]
  have hl:(l.take o).length=o:=by simp;omega
  rw[List.take_append,List.drop_append,hl]
  simp[show o+1 - o=1 by omega,show o+1+vs.length - o=vs.length+1 by omega,List.take_take,List.drop_take,show min (o+1) o=o by omega,show o - (o+1+vs.length)=0 by omega,show o+1+vs.length=o+(vs.length+1) by omega]
theorem flat_splice{α:Type}{enc:α→List Value}{size n p:Nat}(hs:∀q,(enc q).length=size){xs:List α}{l:List Value}(hl:l.take (n*size)=xs.flatMap enc)(hn:n=xs.length)(hp:p<n)(hll:n*size≤l.length)(q:α):
  (splice l (p*size) (enc q)).take (n*size)=(xs.set p q).flatMap enc:=by
 have h1:(p+1)*size≤n*size:=Nat.mul_le_mul_right _ hp
 rw[Nat.succ_mul] at h1
 rw[splice_eq _ _ _ (by rw[hs];omega),flatMap_set hs _ _ _ Om,hs,←hl]
 have e1:(l.take (p*size)).length=p*size:=by rw[List.length_take];omega
 rw[List.take_append,List.take_append,e1,hs,List.take_take,List.take_take,List.drop_take,Nat.min_eq_right Om,Nat.min_eq_left Om,List.take_of_length_le (l:=enc q) (by rw[hs];omega),Nat.sub_sub,List.append_assoc]
end
end Go.Proofs.YtndcjmopebcdgaaGreatDoor
