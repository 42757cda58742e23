/- Flows, said by plain functions: what leads where; what reaches what. -/
import Derived.Test.YtndcjmopebcdgaaGreatDoorSysB
import Derived.Test.YtndcjmopebcdgaaGreatDoorConfC1
set_option linter.unusedSimpArgs false
set_option linter.unusedVariables false
namespace Go.Proofs.YtndcjmopebcdgaaGreatDoor
set_option maxRecDepth 100000
def edgeB(c:Chn)(a b:Nat):Bool:=(c.from_==(a:Int)&&c.to_==(b:Int))||(c.kind==2&&(c.from_==(b:Int)&&c.to_==(a:Int)))
def leadsB(cs:List Chn)(a b:Nat):Bool:=cs.any fun c=>edgeB c a b
theorem leads_snoc{cs:List Chn}{k:Nat}(hk:k<cs.length)(a b:Nat):leadsB (cs.take (k+1)) a b=(leadsB (cs.take k) a b||edgeB (cs.getD k C0) a b):=by
 unfold leadsB
 rw[List.take_add_one,List.getElem?_eq_getElem hk,List.any_append,List.getD,List.getElem?_eq_getElem hk]
 simp
def tl(n:Nat)(P:Nat→Bool):List Int:=((List.range n).filter P).map Int.ofNat
theorem mem_tl{n:Nat}{P:Nat→Bool}{m:Nat}:(m:Int)∈tl n P↔m<n∧P m=true:=by
 unfold tl
 simp only[List.mem_map,List.mem_filter,List.mem_range]
 constructor
 ·rintro⟨k,⟨h1,h2⟩,e⟩
  have:k=m:=Int.ofNat.inj e
  subst this
  exact⟨h1,h2⟩
 ·rintro⟨h1,h2⟩
  exact⟨m,⟨h1,h2⟩,rfl⟩
theorem tl_nodup(n:Nat)(P:Nat→Bool):(tl n P).Nodup:=by
 refine List.Pairwise.map _ ?_ (List.Pairwise.filter _ List.nodup_range)
 intro a b h e
 exact h (Int.ofNat.inj e)
theorem tl_sorted(n:Nat)(P:Nat→Bool):(tl n P).Pairwise (· ≤ ·):=by
 refine List.Pairwise.map _ ?_ (List.Pairwise.filter _ (List.pairwise_lt_range (n:=n)))
 intro a b h
 exact Int.ofNat_le.2 (Nat.le_of_lt h)
theorem tl_len(n:Nat)(P:Nat→Bool):(tl n P).length≤n:=by
 unfold tl
 rw[List.length_map]
 exact Nat.le_trans (List.length_filter_le _ _) Si
theorem tl_lt{n:Nat}{P:Nat→Bool}{m:Int}(h:m∈tl n P):∃k:Nat,m=k∧k<n∧P k=true:=by
 obtain⟨k,hk,rfl⟩:=List.mem_map.1 h
 have:=List.mem_filter.1 hk
 exact⟨k,rfl,by simpa using this.1,this.2⟩
def ins(b:Int)(l:List Int):List Int:=if b∈l then l else sorted (l++[b])
theorem ins_tl{n b:Nat}{P:Nat→Bool}(hb:b<n):ins b (tl n P)=tl n (fun x=>P x||x==b):=by
 unfold ins
 by_cases h:(b:Int)∈tl n P
 ·rw[if_pos h]
  have hP:=(mem_tl.1 h).2
  have:(fun x=>P x||x==b)=P:=by
   funext x
   by_cases hx:x=b
   ·subst hx;simp[hP]
   ·simp[hx]
  rw[this]
 ·rw[if_neg h]
  have hs:(sorted (tl n P++[(b:Int)])).Pairwise (· ≤ ·):=by
   have:=List.pairwise_mergeSort (le:=fun x y:Int=>decide (x≤y)) (fun a b c h1 h2=>by simp at*;omega) (fun a b=>by simp;omega) (tl n P++[(b:Int)])
   exact this.imp fun h=>by simpa using h
  have hn:(tl n P++[(b:Int)]).Nodup:=by
   rw[List.nodup_append]
   exact⟨tl_nodup n P,by simp,fun x hx y hy e=>h (by rw[List.mem_singleton] at hy;rw[←hy,←e];exact hx)⟩
  have hp:(sorted (tl n P++[(b:Int)])).Perm (tl n (fun x=>P x||x==b)):=by
   refine(List.mergeSort_perm _ _).trans ((List.perm_ext_iff_of_nodup hn (tl_nodup n _)).2 fun m=>?_)
   rw[List.mem_append,List.mem_singleton]
   constructor
   ·rintro(hm|rfl)
    ·obtain⟨k,rfl,h1,h2⟩:=tl_lt hm
     exact mem_tl.2 ⟨h1,by simp[h2]⟩
    ·exact mem_tl.2 ⟨hb,by simp⟩
   ·intro hm
    obtain⟨k,rfl,h1,h2⟩:=tl_lt hm
    simp only[Bool.or_eq_true,beq_iff_eq] at h2
    rcases h2 with h2|rfl
    ·exact .inl (mem_tl.2 ⟨h1,h2⟩)
    ·exact .inr rfl
  exact hp.eq_of_pairwise (fun a b _ _ h1 h2=>Int.le_antisymm h1 h2) hs (tl_sorted n _)
def rchBy(cs:List Chn)(n:Nat):Nat→Nat→Nat→Bool
 |0,a,b=>a==b
 |k+1,a,b=>a==b||(List.range n).any fun c=>leadsB cs a c&&rchBy cs n k c b
def rch(cs:List Chn)(n a b:Nat):Bool:=rchBy cs n n a b
inductive Rch (cs:List Chn) (n:Nat):Nat→Nat→Prop
 |refl (a:Nat):Rch cs n a a
 |step {a b c:Nat}:leadsB cs a c=true→c<n→Rch cs n c b→Rch cs n a b
section
variable {cs:List Chn} {n:Nat}
theorem Rch.trans{a b c:Nat}(h:Rch cs n a b)(k:Rch cs n b c):Rch cs n a c:=by
 induction h with
 |refl=>exact k
 |step h1 h2 _ ih=>exact .step h1 h2 (ih k)
theorem rchBy_rch:∀(k a b:Nat),rchBy cs n k a b=true→Rch cs n a b
 |0,a,b,h=>by
  have:a=b:=by simpa[rchBy] using h
  subst this
  exact .refl _
 |k+1,a,b,h=>by
  simp only[rchBy,Bool.or_eq_true,beq_iff_eq,List.any_eq_true,List.mem_range,Bool.and_eq_true] at h
  rcases h with rfl|⟨c,hc,h1,h2⟩
  ·exact .refl _
  ·exact .step h1 hc (rchBy_rch k c b h2)
theorem rchBy_succ:∀(k a b:Nat),rchBy cs n k a b=true→rchBy cs n (k+1) a b=true
 |0,a,b,h=>by
  have:a=b:=by simpa[rchBy] using h
  simp[rchBy,this]
 |k+1,a,b,h=>by
  simp only[rchBy,Bool.or_eq_true,beq_iff_eq,List.any_eq_true,List.mem_range,Bool.and_eq_true] at h
  rw[rchBy]
  simp only[Bool.or_eq_true,beq_iff_eq,List.any_eq_true,List.mem_range,Bool.and_eq_true]
  rcases h with h|⟨c,hc,h1,h2⟩
  ·exact .inl h
  ·exact .inr ⟨c,hc,h1,rchBy_succ k c b h2⟩
theorem rchBy_mono{k m:Nat}(hkm:k≤m)(a b:Nat)(h:rchBy cs n k a b=true):rchBy cs n m a b=true:=by
 induction hkm with
 |refl=>exact h
 |step _ ih=>exact rchBy_succ _ _ _ ih
theorem countP_lt{p q:Nat→Bool}:∀(l:List Nat),(∀x,x∈l→p x=true→q x=true)→(∃x,x∈l∧q x=true∧p x=false)→l.countP p<l.countP q
 |[],_,⟨_,h,_⟩=>by cases h
 |x::r,h,⟨y,hy,h1,h2⟩=>by
  have hle:r.countP p≤r.countP q:=List.countP_mono_left fun z hz hp=>h z (List.mem_cons_of_mem _ hz) hp
  have hx:=h x List.mem_cons_self
  rcases List.mem_cons.1 hy with rfl|hy
  ·rw[List.countP_cons_of_neg (by simp[h2]),List.countP_cons_of_pos h1]
   omega
  ·have ih:=countP_lt r (fun z hz=>h z (List.mem_cons_of_mem _ hz)) ⟨y,hy,h1,h2⟩
   cases hp:p x
   ·rw[List.countP_cons_of_neg (by simp[hp])]
    cases hq:q x
    ·rw[List.countP_cons_of_neg (by simp[hq])];exact ih
    ·rw[List.countP_cons_of_pos hq];omega
   ·rw[List.countP_cons_of_pos hp,List.countP_cons_of_pos (hx hp)]
    omega
def Stable(cs:List Chn)(n b k:Nat):Prop:=∀a,a<n→rchBy cs n (k+1) a b=true→rchBy cs n k a b=true
theorem stable_succ{b k:Nat}(h:Stable cs n b k):Stable cs n b (k+1):=fun a _ hr=>by
 rw[rchBy] at hr⊢
 simp only[Bool.or_eq_true,beq_iff_eq,List.any_eq_true,List.mem_range,Bool.and_eq_true] at hr⊢
 rcases hr with hr|⟨c,hc,h1,h2⟩
 ·exact .inl hr
 ·exact .inr ⟨c,hc,h1,h c hc h2⟩
theorem stable_or{b:Nat}(hb:b<n):∀k:Nat,Stable cs n b k∨k+1≤(List.range n).countP (fun a=>rchBy cs n k a b)
 |0=>by
  refine .inr (List.countP_pos_iff.2 ⟨b,by simpa using hb,by simp[rchBy]⟩)
 |k+1=>by
  rcases stable_or hb k with h|h
  ·exact .inl (stable_succ h)
  ·by_cases hs:Stable cs n b k
   ·exact .inl (stable_succ hs)
   ·right
    have:∃a,a<n∧rchBy cs n (k+1) a b=true∧rchBy cs n k a b=false:=by
     refine Classical.byContradiction fun hc=>hs fun a ha hr=>?_
     cases hk:rchBy cs n k a b
     ·exact absurd ⟨a,ha,hr,hk⟩ hc
     ·rfl
    obtain⟨a,ha,h1,h2⟩:=this
    have:=countP_lt (p:=fun a=>rchBy cs n k a b) (q:=fun a=>rchBy cs n (k+1) a b) (List.range n) (fun x _ hx=>rchBy_succ _ _ _ hx) ⟨a,by simpa using ha,h1,h2⟩
    omega
theorem stable_n{b:Nat}(hb:b<n):Stable cs n b n:=by
 rcases stable_or (cs:=cs) hb n with h|h
 ·exact h
 ·have:=List.countP_le_length (p:=fun a=>rchBy cs n n a b) (l:=List.range n)
  rw[List.length_range] at this
  omega
theorem rch_iff{a b:Nat}(ha:a<n)(hb:b<n):rch cs n a b=true↔Rch cs n a b:=by
 refine⟨rchBy_rch _ _ _,fun h=>?_⟩
 induction h with
 |refl x=>exact rchBy_mono (Nat.zero_le _) _ _ (by simp[rchBy])
 |step h1 h2 _ ih=>
  refine stable_n hb _ ha ?_
  rw[rchBy]
  simp only[Bool.or_eq_true,beq_iff_eq,List.any_eq_true,List.mem_range,Bool.and_eq_true]
  exact .inr ⟨_,h2,h1,ih h2 hb⟩
end
end Go.Proofs.YtndcjmopebcdgaaGreatDoor
