/- Paths: the least road by edges, and what a search in breadth finds. Plain law: no program is named. -/
import Derived.Test.YtndcjmopebcdgaaGreatDoorFlowPl
set_option linter.unusedSimpArgs false
set_option linter.unusedVariables false
namespace Go.Proofs.YtndcjmopebcdgaaGreatDoor
set_option maxRecDepth 100000
inductive Road (cs:List Chn) (n:Nat):Nat→Nat→List Nat→Prop
 |one (a:Nat):Road cs n a a [a]
 |step {a c b:Nat} {r:List Nat}:leadsB cs a c=true→c<n→Road cs n c b r→Road cs n a b (a::r)
section
variable {cs:List Chn} {n:Nat}
theorem Road.head{a b:Nat}{r:List Nat}(h:Road cs n a b r):∃t,r=a::t:=by
 cases h with
 |one=>exact⟨_,rfl⟩
 |step=>exact⟨_,rfl⟩
theorem Road.pos{a b:Nat}{r:List Nat}(h:Road cs n a b r):0<r.length:=by
 obtain⟨t,rfl⟩:=h.head
 simp
theorem Road.snoc{a b c:Nat}{r:List Nat}(h:Road cs n a b r)(hl:leadsB cs b c=true)(hc:c<n):Road cs n a c (r++[c]):=by
 induction h with
 |one a=>exact .step hl hc (.one c)
 |step h1 h2 _ ih=>exact .step h1 h2 (ih hl)
theorem Road.last{a b:Nat}{r:List Nat}(h:Road cs n a b r):r.getD (r.length - 1) 0=b:=by
 induction h with
 |one a=>rfl
 | @step a c b r h1 h2 h3 ih=>
  have hp:=h3.pos
  rw[List.length_cons,Nat.add_sub_cancel,show r.length=(r.length - 1)+1 by omega,List.getD_cons_succ]
  exact ih
theorem Road.uniq{a b c:Nat}{r:List Nat}(h:Road cs n a b r)(h':Road cs n a c r):b=c:=h.last.symm.trans h'.last
theorem Road.join{a x t:Nat}{q rest:List Nat}(h:Road cs n a x q)(k:Road cs n x t (x::rest)):Road cs n a t (q++rest):=by
 induction h with
 |one a=>exact k
 |step h1 h2 _ ih=>exact .step h1 h2 (ih k)
theorem Road.split{a y t x:Nat}{r rest:List Nat}(h:Road cs n a y r)(k:Road cs n a t (r++x::rest)):leadsB cs y x=true∧x<n∧Road cs n x t (x::rest):=by
 induction h with
 |one a=>
  cases k with
  |step h1 h2 h3=>
   obtain⟨_,e⟩:=h3.head
   obtain⟨rfl,-⟩:=List.cons.inj e
   exact⟨h1,h2,h3⟩
 | @step a c b r h1 h2 h3 ih=>
  generalize hg:a::r++x::rest=L at k
  cases k with
  |one=>simp at hg
  |step k1 k2 k3=>
   simp only[List.cons_append,List.cons.injEq,true_and] at hg
   subst hg
   obtain⟨t1,e1⟩:=h3.head
   obtain⟨t2,e2⟩:=k3.head
   rw[e1] at e2
   obtain⟨rfl,-⟩:=List.cons.inj e2
   exact ih k3
theorem Road.rch{a b:Nat}{r:List Nat}(h:Road cs n a b r):Rch cs n a b:=by
 induction h with
 |one=>exact .refl _
 |step h1 h2 _ ih=>exact .step h1 h2 ih
theorem rchBy_self(m a:Nat):rchBy cs n m a a=true:=by cases m<;>simp[rchBy]
theorem Road.rchBy{a b:Nat}{r:List Nat}(h:Road cs n a b r):∀m,r.length≤m+1→rchBy cs n m a b=true:=by
 induction h with
 |one a=>exact fun m _=>rchBy_self m a
 | @step a c b r h1 h2 h3 ih=>
  intro m hm
  have hp:=h3.pos
  rw[List.length_cons] at hm
  obtain⟨m,rfl⟩:∃k,m=k+1:=⟨m - 1,by omega⟩
  rw[Go.Proofs.YtndcjmopebcdgaaGreatDoor.rchBy]
  simp only[Bool.or_eq_true,List.any_eq_true,List.mem_range,Bool.and_eq_true]
  exact .inr ⟨c,h2,h1,ih m Om⟩
def lexlt:List Nat→List Nat→Prop
 |x::p,y::q=>x<y∨(x=y∧lexlt p q)
 |_,_=>False
theorem lexlt_trans:∀{p q r:List Nat},lexlt p q→lexlt q r→lexlt p r
 |x::p,y::q,z::r,h,k=>by
  rcases h with h|⟨rfl,h⟩<;>rcases k with k|⟨rfl,k⟩
  ·exact .inl (Nat.lt_trans h k)
  ·exact .inl h
  ·exact .inl k
  ·exact .inr ⟨rfl,lexlt_trans h k⟩
theorem lexlt_irrefl:∀(p:List Nat),¬lexlt p p
 |[],h=>h
 |x::p,h=>h.elim (Nat.lt_irrefl x) fun h=>lexlt_irrefl p h.2
theorem lexlt_app:∀{p q:List Nat} (r r':List Nat),lexlt p q→lexlt (p++r) (q++r')
 |x::p,y::q,r,r',h=>h.imp id fun h=>⟨h.1,lexlt_app r r' h.2⟩
theorem lexlt_last{x y:Nat}(h:x<y):∀(p:List Nat),lexlt (p++[x]) (p++[y])
 |[]=>.inl h
 |_::p=>.inr ⟨rfl,lexlt_last h p⟩
def slt(p q:List Nat):Prop:=p.length<q.length∨(p.length=q.length∧lexlt p q)
theorem slt_trans{p q r:List Nat}(h:slt p q)(k:slt q r):slt p r:=by
 rcases h with h|⟨h1,h2⟩<;>rcases k with k|⟨k1,k2⟩
 ·exact .inl Om
 ·exact .inl Om
 ·exact .inl Om
 ·exact .inr ⟨by omega,lexlt_trans h2 k2⟩
theorem slt_irrefl(p:List Nat):¬slt p p:=fun h=>h.elim (Nat.lt_irrefl _) fun h=>lexlt_irrefl p h.2
theorem slt_app{p q r r':List Nat}(h:slt p q)(hr:r.length=r'.length):slt (p++r) (q++r'):=by
 rcases h with h|⟨h1,h2⟩
 ·exact .inl (by simp only[List.length_append];omega)
 ·exact .inr ⟨by simp only[List.length_append];omega,lexlt_app r r' h2⟩
theorem slt_last{x y:Nat}(h:x<y)(p:List Nat):slt (p++[x]) (p++[y]):=.inr ⟨by simp,lexlt_last h p⟩
theorem slt_more(p:List Nat)(x:Nat)(r:List Nat):slt p (p++x::r):=.inl Si
def nextOf(cs:List Chn)(n b k u:Nat):Option Nat:=(List.range n).find? fun c=>leadsB cs u c&&rchBy cs n k c b
def greedy(cs:List Chn)(n b:Nat):Nat→Nat→List Nat
 |0,a=>[a]
 |k+1,a=>a::(match nextOf cs n b k a with|some c=>greedy cs n b k c|none=>[])
def pathOf(cs:List Chn)(n a b:Nat):Option (List Nat):=((List.range n).find? fun k=>rchBy cs n k a b).map fun k=>greedy cs n b k a
def Least(cs:List Chn)(n b k a:Nat):Prop:=rchBy cs n k a b=true∧∀j,j<k→rchBy cs n j a b=false
theorem Least.zero{a b:Nat}(h:Least cs n b 0 a):a=b:=by simpa[rchBy] using h.1
theorem Least.ne{a b k:Nat}(h:Least cs n b (k+1) a):a≠b:=fun e=>by
 have:=h.2 0 Om
 rw[e,rchBy_self] at this
 cases this
theorem Least.next{a b k:Nat}(h:Least cs n b (k+1) a):∃c,nextOf cs n b k a=some c∧leadsB cs a c=true∧c<n∧Least cs n b k c∧∀c',c'<c→(leadsB cs a c'&&rchBy cs n k c' b)=false:=by
 have hne:=h.ne
 have h1:=h.1
 rw[Go.Proofs.YtndcjmopebcdgaaGreatDoor.rchBy] at h1
 simp only[Bool.or_eq_true,beq_iff_eq,List.any_eq_true,List.mem_range] at h1
 obtain⟨c0,hc0,hp0⟩:=h1.resolve_left hne
 cases hx:nextOf cs n b k a with
 |none=>
  have:=List.find?_eq_none.1 hx c0 (List.mem_range.2 hc0)
  exact absurd hp0 this
 |some c=>
  obtain⟨h2,h3,h4⟩:=List.find?_range_eq_some.1 hx
  simp only[Bool.and_eq_true] at h2
  refine⟨c,rfl,h2.1,List.mem_range.1 h3,⟨h2.2,fun j hj=>?_⟩,fun c' hc'=>by have h7:=h4 c' hc';rwa [Bool.not_eq_true'] at h7⟩
  cases hr:rchBy cs n j c b
  ·rfl
  ·have h5:=h.2 (j+1) Om
   rw[Go.Proofs.YtndcjmopebcdgaaGreatDoor.rchBy] at h5
   simp only[Bool.or_eq_false_iff] at h5
   have h6:((List.range n).any fun c=>leadsB cs a c&&rchBy cs n j c b)=true:=List.any_eq_true.2 ⟨c,h3,by rw[h2.1,hr];rfl⟩
   rw[h6] at h5
   cases h5.2
theorem greedy_road:∀{k a b:Nat},Least cs n b k a→Road cs n a b (greedy cs n b k a)∧(greedy cs n b k a).length=k+1
 |0,a,b,h=>by
  obtain rfl:=h.zero
  exact⟨.one a,rfl⟩
 |k+1,a,b,h=>by
  obtain⟨c,hc,h1,h2,h3,-⟩:=h.next
  obtain⟨i1,i2⟩:=greedy_road h3
  rw[greedy,hc]
  exact⟨.step h1 h2 i1,by simp[i2]⟩
theorem greedy_lex:∀{k a b:Nat} {q:List Nat},Least cs n b k a→Road cs n a b q→q.length=k+1→q=greedy cs n b k a∨lexlt (greedy cs n b k a) q
 |0,a,b,q,_,hq,hl=>by
  cases hq with
  |one=>exact .inl rfl
  |step _ _ h3=>
   have:=h3.pos
   simp only[List.length_cons] at hl
   omega
 |k+1,a,b,q,h,hq,hl=>by
  obtain⟨c,hc,h1,h2,h3,h4⟩:=h.next
  rw[greedy,hc]
  cases hq with
  |one=>simp at hl
  | @step _ c' _ r k1 k2 k3=>
   simp only[List.length_cons] at hl
   have hle:c≤c':=by
    refine Nat.le_of_not_lt fun hlt=>?_
    have h5:=h4 c' hlt
    rw[k1,k3.rchBy k Om] at h5
    cases h5
   rcases Nat.lt_or_ge c c' with hlt|hge
   ·right
    obtain⟨t1,e1⟩:=(greedy_road h3).1.head
    obtain⟨t2,e2⟩:=k3.head
    dsimp only
    rw[e1,e2]
    exact .inr ⟨rfl,.inl hlt⟩
   ·obtain rfl:c=c':=Nat.le_antisymm hle hge
    rcases greedy_lex h3 k3 Om with e|e
    ·exact .inl (by rw[e])
    ·exact .inr (.inr ⟨rfl,e⟩)
theorem greedy_least{k a b:Nat}{q:List Nat}(h:Least cs n b k a)(hq:Road cs n a b q):q=greedy cs n b k a∨slt (greedy cs n b k a) q:=by
 obtain⟨_,hl⟩:=greedy_road h
 rcases Nat.lt_trichotomy q.length (k+1) with h1|h1|h1
 ·have hp:=hq.pos
  have h2:=hq.rchBy (q.length - 1) Om
  rw[h.2 _ Om] at h2
  cases h2
 ·exact(greedy_lex h hq h1).imp id fun h2=>.inr ⟨by omega,h2⟩
 ·exact .inr (.inl Om)
theorem first_least{a b k:Nat}(h:(List.range n).find? (fun k=>rchBy cs n k a b)=some k):Least cs n b k a:=by
 obtain⟨h1,_,h3⟩:=List.find?_range_eq_some.1 h
 exact⟨h1,fun j hj=>by simpa using h3 j hj⟩
theorem pathOf_some{a b:Nat}{W:List Nat}(h:pathOf cs n a b=some W):Road cs n a b W∧∀q,Road cs n a b q→q=W∨slt W q:=by
 unfold pathOf at h
 cases hk:(List.range n).find? (fun k=>rchBy cs n k a b) with
 |none=>rw[hk] at h;cases h
 |some k=>
  rw[hk] at h
  obtain rfl:greedy cs n b k a=W:=Option.some.inj h
  exact⟨(greedy_road (first_least hk)).1,fun q hq=>greedy_least (first_least hk) hq⟩
theorem rch_pred{a b:Nat}(ha:a<n)(hb:b<n)(h:Rch cs n a b):rchBy cs n (n - 1) a b=true:=by
 have hr:=(rch_iff ha hb).2 h
 rcases stable_or (cs:=cs) hb (n - 1) with hs|hs
 ·exact hs a ha (by rw[show n - 1+1=n by omega];exact hr)
 ·have h1:(List.range n).countP (fun a=>rchBy cs n (n - 1) a b)=(List.range n).length:=by
   have:=List.countP_le_length (p:=fun a=>rchBy cs n (n - 1) a b) (l:=List.range n)
   rw[List.length_range] at*
   omega
  exact List.countP_eq_length.1 h1 a (List.mem_range.2 ha)
theorem pathOf_none{a b:Nat}(ha:a<n)(hb:b<n)(h:pathOf cs n a b=none)(q:List Nat):¬Road cs n a b q:=fun hq=>by
 have h1:=rch_pred ha hb hq.rch
 unfold pathOf at h
 cases hk:(List.range n).find? (fun k=>rchBy cs n k a b) with
 |some k=>rw[hk] at h;cases h
 |none=>
  have:=List.find?_eq_none.1 hk (n - 1) (List.mem_range.2 Om)
  exact this h1
theorem pathOf_len{a b:Nat}{W:List Nat}(h:pathOf cs n a b=some W):W.length≤n:=by
 unfold pathOf at h
 cases hk:(List.range n).find? (fun k=>rchBy cs n k a b) with
 |none=>rw[hk] at h;cases h
 |some k=>
  rw[hk] at h
  obtain rfl:greedy cs n b k a=W:=Option.some.inj h
  have h2:=List.mem_range.1 (List.find?_range_eq_some.1 hk).2.1
  rw[(greedy_road (first_least hk)).2]
  omega
structure Log(cs:List Chn)(n a:Nat)(L:List (List Nat))(sn:Nat→Bool):Prop where
 road:∀r,r∈L→∃x,x<n∧Road cs n a x r
 sort:L.Pairwise slt
 seen:∀v,v<n→(sn v=true↔∃r,r∈L∧Road cs n a v r)
 few:L.length≤(List.range n).countP sn
 len:∀r,r∈L→r.length≤L.length
theorem Log.le{a:Nat}{L:List (List Nat)}{sn:Nat→Bool}(h:Log cs n a L sn):L.length≤n:=by
 have:=List.countP_le_length (p:=sn) (l:=List.range n)
 rw[List.length_range] at this
 exact Nat.le_trans h.few this
theorem Log.add{a x b:Nat}{L:List (List Nat)}{sn:Nat→Bool}{r:List Nat}(h:Log cs n a L sn)(hr:r∈L)(hx:Road cs n a x r)(hxb:leadsB cs x b=true)(hb:b<n)(hn:sn b=false)(hl:∀q,q∈L→slt q (r++[b])):Log cs n a (L++[r++[b]]) (fun v=>sn v||v==b) where
 road:=fun q hq=>by
  rcases List.mem_append.1 hq with hq|hq
  ·exact h.road q hq
  ·rw[List.mem_singleton.1 hq]
   exact⟨b,hb,hx.snoc hxb hb⟩
 sort:=List.pairwise_append.2 ⟨h.sort,by simp,fun q hq p hp=>by rw[List.mem_singleton.1 hp];exact hl q hq⟩
 seen:=fun v hv=>by
  simp only[Bool.or_eq_true,beq_iff_eq,List.mem_append,List.mem_singleton]
  constructor
  ·rintro(hs|rfl)
   ·obtain⟨q,h1,h2⟩:=(h.seen v hv).1 hs
    exact⟨q,.inl h1,h2⟩
   ·exact⟨_,.inr rfl,hx.snoc hxb hb⟩
  ·rintro⟨q,h1|rfl,h2⟩
   ·exact .inl ((h.seen v hv).2 ⟨q,h1,h2⟩)
   ·exact .inr (h2.uniq (hx.snoc hxb hb))
 few:=by
  have:=countP_lt (p:=sn) (q:=fun v=>sn v||v==b) (List.range n) (fun x _ hx=>by simp[hx]) ⟨b,List.mem_range.2 hb,by simp,hn⟩
  have:=h.few
  rw[List.length_append]
  simp only[List.length_cons,List.length_nil]
  omega
 len:=fun q hq=>by
  rw[List.length_append]
  rcases List.mem_append.1 hq with hq|hq
  ·have:=h.len q hq
   omega
  ·have:=h.len r hr
   rw[List.mem_singleton.1 hq,List.length_append]
   simp only[List.length_cons,List.length_nil]
   omega
structure Bfs(cs:List Chn)(n a t:Nat)(P Q:List (List Nat))(sn:Nat→Bool):Prop where
 log:Log cs n a (P++Q) sn
 from_:∀q,q∈P++Q→q=[a]∨∃r b,r∈P∧q=r++[b]
 lead:∀W,pathOf cs n a t=some W→∃r rest,r∈Q∧W=r++rest
structure Mid(cs:List Chn)(n a t:Nat)(P:List (List Nat))(r:List Nat)(x:Nat)(Q:List (List Nat))(sn:Nat→Bool)(j:Nat):Prop where
 log:Log cs n a (P++r::Q) sn
 road:Road cs n a x r
 from_:∀q,q∈P++r::Q→q=[a]∨(∃r' b,r'∈P∧q=r'++[b])∨∃b:Nat,q=r++[b]∧(b:Int)∈(tl n (leadsB cs x)).take j
 lead:∀W,pathOf cs n a t=some W→(∃r' rest,r'∈Q∧W=r'++rest)∨∃(b:Nat) (rest:List Nat),W=r++b::rest∧¬(b:Int)∈(tl n (leadsB cs x)).take j
theorem tl_strict(n:Nat)(P:Nat→Bool):(tl n P).Pairwise (· < ·):=by
 refine List.Pairwise.map _ ?_ (List.Pairwise.filter _ (List.pairwise_lt_range (n:=n)))
 intro a b h
 exact Int.ofNat_lt.2 h
theorem bfs_start{a t:Nat}(ha:a<n):Bfs cs n a t [] [[a]] (fun v=>v==a) where
 log:={
  road:=fun r hr=>by
   rw[List.nil_append,List.mem_singleton] at hr
   subst hr
   exact⟨a,ha,.one a⟩
  sort:=by simp
  seen:=fun v _=>by
   simp only[beq_iff_eq,List.nil_append,List.mem_singleton]
   constructor
   ·rintro rfl
    exact⟨_,rfl,.one v⟩
   ·rintro⟨r,rfl,h⟩
    exact(h.uniq (.one a))
  few:=by
   have:0<(List.range n).countP (fun v=>v==a):=List.countP_pos_iff.2 ⟨a,List.mem_range.2 ha,by simp⟩
   simpa using this
  len:=fun r hr=>by
   rw[List.nil_append,List.mem_singleton] at hr
   subst hr
   simp}
 from_:=fun q hq=>by
  rw[List.nil_append,List.mem_singleton] at hq
  exact .inl hq
 lead:=fun W hW=>by
  obtain⟨t',e⟩:=(pathOf_some hW).1.head
  exact⟨[a],t',by simp,e⟩
section
variable {a t x:Nat} {P Q:List (List Nat)} {r:List Nat} {sn:Nat→Bool} {j:Nat}
theorem Bfs.take(h:Bfs cs n a t P (r::Q) sn)(hr:Road cs n a x r)(hne:x≠t):Mid cs n a t P r x Q sn 0 where
 log:=h.log
 road:=hr
 from_:=fun q hq=>(h.from_ q hq).imp id .inl
 lead:=fun W hW=>by
  obtain⟨r',rest,h1,rfl⟩:=h.lead W hW
  rcases List.mem_cons.1 h1 with rfl|h1
  ·cases rest with
   |nil=>
    have hW':=(pathOf_some hW).1
    rw[List.append_nil] at hW'
    exact absurd (hr.uniq hW') hne
   |cons b rest=>exact .inr ⟨b,rest,rfl,by simp⟩
  ·exact .inl ⟨r',rest,h1,rfl⟩
theorem Mid.below(h:Mid cs n a t P r x Q sn j){b:Nat}(hj:(tl n (leadsB cs x))[j]?=some (b:Int))(q:List Nat)(hq:q∈P++r::Q):slt q (r++[b]):=by
 rcases h.from_ q hq with rfl|⟨r',b',h1,rfl⟩|⟨b',rfl,h1⟩
 ·have:=h.road.pos
  exact .inl (by simp;omega)
 ·exact slt_app (((List.pairwise_append.1 h.log.sort).2.2 r' h1 r List.mem_cons_self)) rfl
 ·refine slt_last ?_ r
  obtain⟨hjl,hj⟩:=List.getElem?_eq_some_iff.1 hj
  obtain⟨i,hi,he⟩:=List.mem_iff_getElem.1 h1
  rw[List.getElem_take] at he
  have hij:i<j:=by
   rw[List.length_take] at hi
   omega
  have:=List.pairwise_iff_getElem.1 (tl_strict n (leadsB cs x)) i j Om hjl hij
  rw[he,hj] at this
  omega
theorem take_snoc{l:List Int}{b:Int}(hj:l[j]?=some b):l.take (j+1)=l.take j++[b]:=by
 rw[List.take_add_one,hj]
 rfl
theorem Mid.edge(h:Mid cs n a t P r x Q sn j){b:Nat}(hj:(tl n (leadsB cs x))[j]?=some (b:Int)):leadsB cs x b=true∧b<n:=by
 have:=mem_tl.1 (List.mem_of_getElem? hj)
 exact⟨this.2,this.1⟩
theorem Mid.skip(h:Mid cs n a t P r x Q sn j){b:Nat}(hj:(tl n (leadsB cs x))[j]?=some (b:Int))(hs:sn b=true):Mid cs n a t P r x Q sn (j+1) where
 log:=h.log
 road:=h.road
 from_:=fun q hq=>(h.from_ q hq).imp id fun h1=>h1.imp id fun⟨b',h2,h3⟩=>⟨b',h2,by rw[take_snoc hj];exact List.mem_append_left _ h3⟩
 lead:=fun W hW=>by
  refine(h.lead W hW).imp id fun⟨b',rest,h1,h2⟩=>⟨b',rest,h1,fun h3=>?_⟩
  rw[take_snoc hj,List.mem_append,List.mem_singleton] at h3
  rcases h3 with h3|h3
  ·exact h2 h3
  ·have e:b'=b:=by omega
   subst e h1
   obtain⟨hroad,hmin⟩:=pathOf_some hW
   obtain⟨hxb,hb⟩:=h.edge hj
   obtain⟨q,hq,hqr⟩:=(h.log.seen b' hb).1 hs
   obtain⟨_,_,hrest⟩:=h.road.split hroad
   have h5:slt (q++rest) (r++b'::rest):=by
    have:=slt_app (h.below hj q hq) (r:=rest) (r':=rest) rfl
    simpa using this
   rcases hmin _ (hqr.join hrest) with h6|h6
   ·rw[h6] at h5
    exact slt_irrefl _ h5
   ·exact slt_irrefl _ (slt_trans h5 h6)
theorem Mid.add(h:Mid cs n a t P r x Q sn j){b:Nat}(hj:(tl n (leadsB cs x))[j]?=some (b:Int))(hs:sn b=false):Mid cs n a t P r x (Q++[r++[b]]) (fun v=>sn v||v==b) (j+1):=by
 obtain⟨hxb,hb⟩:=h.edge hj
 have e:P++r::(Q++[r++[b]])=(P++r::Q)++[r++[b]]:=by simp
 refine⟨by rw[e];exact h.log.add Si h.road hxb hb hs (h.below hj),h.road,fun q hq=>?_,fun W hW=>?_⟩
 ·rw[e,List.mem_append,List.mem_singleton] at hq
  rcases hq with hq|hq
  ·exact(h.from_ q hq).imp id fun h1=>h1.imp id fun⟨b',h2,h3⟩=>⟨b',h2,by rw[take_snoc hj];exact List.mem_append_left _ h3⟩
  ·exact .inr (.inr ⟨b,hq,by rw[take_snoc hj];simp⟩)
 ·rcases h.lead W hW with⟨r',rest,h1,h2⟩|⟨b',rest,h1,h2⟩
  ·exact .inl ⟨r',rest,List.mem_append_left _ h1,h2⟩
  ·by_cases e2:b'=b
   ·subst e2
    exact .inl ⟨r++[b'],rest,by simp,by simp[h1]⟩
   ·refine .inr ⟨b',rest,h1,fun h3=>?_⟩
    rw[take_snoc hj,List.mem_append,List.mem_singleton] at h3
    exact h3.elim h2 fun h3=>e2 Om
theorem Mid.done(h:Mid cs n a t P r x Q sn j)(hj:(tl n (leadsB cs x)).length≤j):Bfs cs n a t (P++[r]) Q sn:=by
 have e:P++[r]++Q=P++r::Q:=by simp
 refine⟨by rw[e];exact h.log,fun q hq=>?_,fun W hW=>?_⟩
 ·rw[e] at hq
  rcases h.from_ q hq with h1|⟨r',b,h1,h2⟩|⟨b,h1,_⟩
  ·exact .inl h1
  ·exact .inr ⟨r',b,List.mem_append_left _ h1,h2⟩
  ·exact .inr ⟨r,b,by simp,h1⟩
 ·rcases h.lead W hW with h1|⟨b,rest,rfl,h2⟩
  ·exact h1
  ·obtain⟨h3,h4,_⟩:=h.road.split (pathOf_some hW).1
   rw[List.take_of_length_le hj] at h2
   exact absurd (mem_tl.2 ⟨h4,h3⟩) h2
theorem Bfs.found(h:Bfs cs n a t P (r::Q) sn)(ha:a<n)(ht:t<n)(hr:Road cs n a t r):pathOf cs n a t=some r:=by
 cases hp:pathOf cs n a t with
 |none=>exact absurd hr (pathOf_none ha ht hp r)
 |some W=>
  obtain⟨r',rest,h1,rfl⟩:=h.lead W hp
  have hs:=(List.pairwise_append.1 h.log.sort).2.1
  have h2:r=r'∨slt r r':=(List.mem_cons.1 h1).imp Eq.symm fun h1=>(List.pairwise_cons.1 hs).1 r' h1
  have h3:r'=r'++rest∨slt r' (r'++rest):=by
   cases rest with
   |nil=>exact .inl Si
   |cons b rest=>exact .inr (slt_more _ _ _)
  have h4:r=r'++rest∨slt r (r'++rest):=by
   rcases h2 with e|h2
   ·rw[e];exact h3
   ·rcases h3 with e|h3
    ·rw[←e];exact .inr h2
    ·exact .inr (slt_trans h2 h3)
  rcases h4 with e|h4
  ·rw[←e]
  ·rcases(pathOf_some hp).2 r hr with e|h5
   ·rw[←e]
   ·exact absurd (slt_trans h4 h5) (slt_irrefl _)
theorem Bfs.none(h:Bfs cs n a t P [] sn):pathOf cs n a t=none:=by
 cases hp:pathOf cs n a t with
 |none=>rfl
 |some W=>
  obtain⟨r,rest,h1,_⟩:=h.lead W hp
  cases h1
end
end
end Go.Proofs.YtndcjmopebcdgaaGreatDoor
