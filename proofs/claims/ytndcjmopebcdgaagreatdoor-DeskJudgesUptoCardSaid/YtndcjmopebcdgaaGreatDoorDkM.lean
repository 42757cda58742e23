/- Flows, said by plain functions: what leads where; what reaches what. The reference's leads, reachesBy, Reaches. -/
import Derived.Test.YtndcjmopebcdgaaGreatDoorSysB
import Derived.Test.YtndcjmopebcdgaaGreatDoorConfC1
set_option linter.unusedSimpArgs false
set_option linter.unusedVariables false
namespace Go.Proofs.YtndcjmopebcdgaaGreatDoor
section
set_option maxRecDepth 100000
def edgeB(c:Chn)(a b:Nat):Bool:=(c.from_==(a:Int)&&c.to_==(b:Int))||(c.kind==2&&(c.from_==(b:Int)&&c.to_==(a:Int)))
def leadsB(cs:List Chn)(a b:Nat):Bool:=cs.any fun c=>edgeB c a b
theorem leads_snoc{cs:List Chn}{k:Nat}(hk:k<cs.length)(a b:Nat):leadsB (cs.take (k+1)) a b=(leadsB (cs.take k) a b||edgeB (cs.getD k C0) a b):=by
 unfold leadsB
 rw[List.take_add_one,List.getElem?_eq_getElem hk,List.any_append,List.getD,List.getElem?_eq_getElem hk]
 simp
def tl(n:Nat)(P:Nat→Bool):List Int:=((List.range n).filter P).map Int.ofNat
theorem mem_tl{n:Nat}{P:Nat→Bool}{m:Nat}:(m:Int)∈tl n P↔m<n∧P m=true:=by
 unfold tl
 simp only[List.mem_map,List.mem_filter,List.mem_range]
 constructor
 ·rintro⟨k,⟨h1,h2⟩,e⟩
  have:k=m:=Int.ofNat.inj e
  subst this
  exact⟨h1,h2⟩
 ·rintro⟨h1,h2⟩
  exact⟨m,⟨h1,h2⟩,rfl⟩
theorem tl_nodup(n:Nat)(P:Nat→Bool):(tl n P).Nodup:=by
 refine List.Pairwise.map _ ?_ (List.Pairwise.filter _ List.nodup_range)
 intro a b h e
 exact h (Int.ofNat.inj e)
theorem tl_sorted(n:Nat)(P:Nat→Bool):(tl n P).Pairwise (· ≤ ·):=by
 refine List.Pairwise.map _ ?_ (List.Pairwise.filter _ (List.pairwise_lt_range (n:=n)))
 intro a b h
 exact Int.ofNat_le.2 (Nat.le_of_lt h)
theorem tl_len(n:Nat)(P:Nat→Bool):(tl n P).length≤n:=by
 unfold tl
 rw[List.length_map]
 exact Nat.le_trans (List.length_filter_le _ _) Si
theorem tl_lt{n:Nat}{P:Nat→Bool}{m:Int}(h:m∈tl n P):∃k:Nat,m=k∧k<n∧P k=true:=by
 obtain⟨k,hk,rfl⟩:=List.mem_map.1 h
 have:=List.mem_filter.1 hk
 exact⟨k,rfl,by simpa using this.1,this.2⟩
def ins(b:Int)(l:List Int):List Int:=if b∈l then l else sorted (l++[b])
theorem ins_tl{n b:Nat}{P:Nat→Bool}(hb:b<n):ins b (tl n P)=tl n (fun x=>P x||x==b):=by
 unfold ins
 by_cases h:(b:Int)∈tl n P
 ·rw[if_pos h]
  have hP:=(mem_tl.1 h).2
  have:(fun x=>P x||x==b)=P:=by
   funext x
   by_cases hx:x=b
   ·subst hx;simp[hP]
   ·simp[hx]
  rw[this]
 ·rw[if_neg h]
  have hs:(sorted (tl n P++[(b:Int)])).Pairwise (· ≤ ·):=by
   have:=List.pairwise_mergeSort (le:=fun x y:Int=>decide (x≤y)) (fun a b c h1 h2=>by simp at*;omega) (fun a b=>by simp;omega) (tl n P++[(b:Int)])
   exact this.imp fun h=>by simpa using h
  have hn:(tl n P++[(b:Int)]).Nodup:=by
   rw[List.nodup_append]
   exact⟨tl_nodup n P,by simp,fun x hx y hy e=>h (by rw[List.mem_singleton] at hy;rw[←hy,←e];exact hx)⟩
  have hp:(sorted (tl n P++[(b:Int)])).Perm (tl n (fun x=>P x||x==b)):=by
   refine(List.mergeSort_perm _ _).trans ((List.perm_ext_iff_of_nodup hn (tl_nodup n _)).2 fun m=>?_)
   rw[List.mem_append,List.mem_singleton]
   constructor
   ·rintro(hm|rfl)
    ·obtain⟨k,rfl,h1,h2⟩:=tl_lt hm
     exact mem_tl.2 ⟨h1,by simp[h2]⟩
    ·exact mem_tl.2 ⟨hb,by simp⟩
   ·intro hm
    obtain⟨k,rfl,h1,h2⟩:=tl_lt hm
    simp only[Bool.or_eq_true,beq_iff_eq] at h2
    rcases h2 with h2|rfl
    ·exact .inl (mem_tl.2 ⟨h1,h2⟩)
    ·exact .inr rfl
  exact hp.eq_of_pairwise (fun a b _ _ h1 h2=>Int.le_antisymm h1 h2) hs (tl_sorted n _)
def rchBy(cs:List Chn)(n:Nat):Nat→Nat→Nat→Bool
 |0,a,b=>a==b
 |k+1,a,b=>a==b||(List.range n).any fun c=>leadsB cs a c&&rchBy cs n k c b
def rch(cs:List Chn)(n a b:Nat):Bool:=rchBy cs n n a b
inductive Rch (cs:List Chn) (n:Nat):Nat→Nat→Prop
 |refl (a:Nat):Rch cs n a a
 |step {a b c:Nat}:leadsB cs a c=true→c<n→Rch cs n c b→Rch cs n a b
section
variable {cs:List Chn} {n:Nat}
theorem Rch.trans{a b c:Nat}(h:Rch cs n a b)(k:Rch cs n b c):Rch cs n a c:=by
 induction h with
 |refl=>exact k
 |step h1 h2 _ ih=>exact .step h1 h2 (ih k)
theorem rchBy_rch:∀(k a b:Nat),rchBy cs n k a b=true→Rch cs n a b
 |0,a,b,h=>by
  have:a=b:=by simpa[rchBy] using h
  subst this
  exact .refl _
 |k+1,a,b,h=>by
  simp only[rchBy,Bool.or_eq_true,beq_iff_eq,List.any_eq_true,List.mem_range,Bool.and_eq_true] at h
  rcases h with rfl|⟨c,hc,h1,h2⟩
  ·exact .refl _
  ·exact .step h1 hc (rchBy_rch k c b h2)
theorem rchBy_succ:∀(k a b:Nat),rchBy cs n k a b=true→rchBy cs n (k+1) a b=true
 |0,a,b,h=>by
  have:a=b:=by simpa[rchBy] using h
  simp[rchBy,this]
 |k+1,a,b,h=>by
  simp only[rchBy,Bool.or_eq_true,beq_iff_eq,List.any_eq_true,List.mem_range,Bool.and_eq_true] at h
  rw[rchBy]
  simp only[Bool.or_eq_true,beq_iff_eq,List.any_eq_true,List.mem_range,Bool.and_eq_true]
  rcases h with h|⟨c,hc,h1,h2⟩
  ·exact .inl h
  ·exact .inr ⟨c,hc,h1,rchBy_succ k c b h2⟩
theorem rchBy_mono{k m:Nat}(hkm:k≤m)(a b:Nat)(h:rchBy cs n k a b=true):rchBy cs n m a b=true:=by
 induction hkm with
 |refl=>exact h
 |step _ ih=>exact rchBy_succ _ _ _ ih
theorem countP_lt{p q:Nat→Bool}:∀(l:List Nat),(∀x,x∈l→p x=true→q x=true)→(∃x,x∈l∧q x=true∧p x=false)→l.countP p<l.countP q
 |[],_,⟨_,h,_⟩=>by cases h
 |x::r,h,⟨y,hy,h1,h2⟩=>by
  have hle:r.countP p≤r.countP q:=List.countP_mono_left fun z hz hp=>h z (List.mem_cons_of_mem _ hz) hp
  have hx:=h x List.mem_cons_self
  rcases List.mem_cons.1 hy with rfl|hy
  ·rw[List.countP_cons_of_neg (by simp[h2]),List.countP_cons_of_pos h1]
   omega
  ·have ih:=countP_lt r (fun z hz=>h z (List.mem_cons_of_mem _ hz)) ⟨y,hy,h1,h2⟩
   cases hp:p x
   ·rw[List.countP_cons_of_neg (by simp[hp])]
    cases hq:q x
    ·rw[List.countP_cons_of_neg (by simp[hq])];exact ih
    ·rw[List.countP_cons_of_pos hq];omega
   ·rw[List.countP_cons_of_pos hp,List.countP_cons_of_pos (hx hp)]
    omega
def Stable(cs:List Chn)(n b k:Nat):Prop:=∀a,a<n→rchBy cs n (k+1) a b=true→rchBy cs n k a b=true
theorem stable_succ{b k:Nat}(h:Stable cs n b k):Stable cs n b (k+1):=fun a _ hr=>by
 rw[rchBy] at hr⊢
 simp only[Bool.or_eq_true,beq_iff_eq,List.any_eq_true,List.mem_range,Bool.and_eq_true] at hr⊢
 rcases hr with hr|⟨c,hc,h1,h2⟩
 ·exact .inl hr
 ·exact .inr ⟨c,hc,h1,h c hc h2⟩
theorem stable_or{b:Nat}(hb:b<n):∀k:Nat,Stable cs n b k∨k+1≤(List.range n).countP (fun a=>rchBy cs n k a b)
 |0=>by
  refine .inr (List.countP_pos_iff.2 ⟨b,by simpa using hb,by simp[rchBy]⟩)
 |k+1=>by
  rcases stable_or hb k with h|h
  ·exact .inl (stable_succ h)
  ·by_cases hs:Stable cs n b k
   ·exact .inl (stable_succ hs)
   ·right
    have:∃a,a<n∧rchBy cs n (k+1) a b=true∧rchBy cs n k a b=false:=by
     refine Classical.byContradiction fun hc=>hs fun a ha hr=>?_
     cases hk:rchBy cs n k a b
     ·exact absurd ⟨a,ha,hr,hk⟩ hc
     ·rfl
    obtain⟨a,ha,h1,h2⟩:=this
    have:=countP_lt (p:=fun a=>rchBy cs n k a b) (q:=fun a=>rchBy cs n (k+1) a b) (List.range n) (fun x _ hx=>rchBy_succ _ _ _ hx) ⟨a,by simpa using ha,h1,h2⟩
    omega
theorem stable_n{b:Nat}(hb:b<n):Stable cs n b n:=by
 rcases stable_or (cs:=cs) hb n with h|h
 ·exact h
 ·have:=List.countP_le_length (p:=fun a=>rchBy cs n n a b) (l:=List.range n)
  rw[List.length_range] at this
  omega
theorem rch_iff{a b:Nat}(ha:a<n)(hb:b<n):rch cs n a b=true↔Rch cs n a b:=by
 refine⟨rchBy_rch _ _ _,fun h=>?_⟩
 induction h with
 |refl x=>exact rchBy_mono (Nat.zero_le _) _ _ (by simp[rchBy])
 |step h1 h2 _ ih=>
  refine stable_n hb _ ha ?_
  rw[rchBy]
  simp only[Bool.or_eq_true,beq_iff_eq,List.any_eq_true,List.mem_range,Bool.and_eq_true]
  exact .inr ⟨_,h2,h1,ih h2 hb⟩
end
end
section
open Go.ChangeShapes Go.WideShapes Go.ChangeAt Go.RowKit
set_option maxRecDepth 100000
theorem leads_edge{cs:List Chn}{k a b:Nat}(hk:k<cs.length)(h:edgeB (cs.getD k C0) a b=true):leadsB cs a b=true:=
 List.any_eq_true.2 ⟨_,mem_getD C0 hk,h⟩
theorem leadsR_any{x:SysD}{w:World}(hx:x.At w)(u v:Nat)(hl:x.chans.length≤1024):
  Calls Tryz.prog 113 #[x.val,.int .i64 u,.int .i64 v] w fun e w'=>e=.returned (.bool (leadsB x.chans u v))∧Below w.heap.size w w':=by
 rw[x.val_eq]
 refine enter Tryz.func113 rfl Tryz.ntmps113 rfl fun a hF=>?_
 have hW:=Wd.start w NoB
 refine c_sr<|pe<|e_box hF hW rfl rfl rfl rfl fun b1 a wc hF hW=>pq 1 hF rfl fun a hF=>l_nil<|t_n<|c_s<|c_sr<|pq 1 hF rfl fun a hF=>l_nil<|t_n<|wp_block ?_;refine c_loop (G:=Nat) (fun k:Nat=>[(7,.int .i64 (k:Int))]) (fun k:Nat=>[]) (fun k:Nat=>k≤x.chans.length∧leadsB (x.chans.take k) u v=false) (fun k:Nat=>x.chans.length - k) 0 (hF.ks [0,1,2,3] rfl) (Fr.cons hF (t:=7) rfl Rg (Fr.nil hF)) (hW) ?_ ?_
 exact⟨by omega,rfl⟩
 clear hF hW
 try clear a
 intro k a wc hC hF hW
 obtain⟨hkc,hlk⟩:=hC
 refine c_s<|c_sr<|pq 2 hF rfl fun a hF=>pv hF hW (y_loadOwn hF rfl 0 rfl rfl Tryz.underlying36 rfl) fun a hF=>pq 2 hF rfl fun a hF=>?_;refine Fr.splitD hF (fun h2 hF=>?_) (fun h2 hF=>?_);refine l_nil<|t_n<|c_t hF rfl<|wp_skip<|t_n<|c_s<|wp_block ?_
 obtain⟨z,hz⟩:∃q,x.chans.getD k C0=q:=⟨_,rfl⟩
 have hkk:k<x.chans.length:=Om
 obtain⟨kd,fr,tt⟩:=z
 refine c_sr<|pq 1 hF rfl fun a hF=>pv hF hW (y_loadOwn hF rfl 0 rfl rfl Tryz.underlying36 rfl) fun a hF=>pq 1 hF rfl fun a hF=>pv hF hW (y_indexS hF rfl rfl Od Tryz.underlying36 sz_121 (fun w h=>(hx.chansR).wd h)) fun a hF=>pv hF hW (y_loadRowW hF rfl (fun w h=>(hx.chansR).wd h) Od Tryz.underlying121 rfl (by rw[hz];exact sz_121)) fun a hF=>?_;replace hF:=Fr.cast (v':=.agg #[.int .i64 kd,.int .i64 fr,.int .i64 tt]) (by rw[hz];rfl) hF;refine pe<|e_alloc hF hW ze_121 rfl rfl rfl fun b3 a wc hF hW=>pe<|e_storeAll rfl hF hW rfl rfl 0 rfl rfl rfl Kr sz_121 fun wc hW=>lts<|pq 1 hF rfl fun a hF=>pv hF hW (y_loadOwn hF rfl 0 rfl rfl Tryz.underlying3 rfl) fun a hF=>pq 2 hF rfl fun a hF=>?_;refine Fr.splitD hF (fun h4 hF=>?_) (fun h4 hF=>?_);refine pq 2 hF rfl fun a hF=>pvg hF hW (y_loadOwn hF rfl 0 rfl rfl Tryz.underlying3 rfl) (ws hF rfl rfl) fun a hF=>pq 2 hF rfl fun a hF=>?_;refine Fr.splitD hF (fun h5 hF=>?_) (fun h5 hF=>?_);refine pq 18 hF rfl fun a hF=>l_nil ?_;replace hF:=hF.ks [0,1,2,3,7,8,13,47] rfl;refine t_n<|c_t hF rfl<|c_sr<|pq 1 hF rfl fun a hF=>l_nil<|t_n<|wp_ret<|b_r<|t_r<|t_r<|b_r<|t_r<|ret1 Tryz.results113 hF (rv_t hF rfl) ?_
 first
 |exact⟨by rw[leads_edge hkk (by rw[hz];simp_all[edgeB])],hW.below⟩
 |exact⟨by rw[show leadsB x.chans u v=false by(have e:x.chans.take k=x.chans:=List.take_of_length_le Om);rwa [e] at hlk],hW.below⟩
 refine pq 3 hF rfl fun a hF=>pvg hF hW (y_loadOwn hF rfl 0 rfl rfl Tryz.underlying3 rfl) (ws hF rfl rfl) fun a hF=>pq 1 hF rfl fun a hF=>?_;refine Fr.splitD hF (fun h6 hF=>?_) (fun h6 hF=>?_);refine pq 2 hF rfl fun a hF=>pvg hF hW (y_loadOwn hF rfl 0 rfl rfl Tryz.underlying3 rfl) (ws hF rfl rfl) fun a hF=>pq 2 hF rfl fun a hF=>?_;refine Fr.splitD hF (fun h7 hF=>?_) (fun h7 hF=>?_);refine pq 3 hF rfl fun a hF=>pvg hF hW (y_loadOwn hF rfl 0 rfl rfl Tryz.underlying3 rfl) (ws hF rfl rfl) fun a hF=>pq 2 hF rfl fun a hF=>?_;refine Fr.splitD hF (fun h8 hF=>?_) (fun h8 hF=>?_);refine pq 2 hF rfl fun a hF=>l_nil ?_;replace hF:=hF.ks [0,1,2,3,7,8,13,47] rfl;refine t_n<|c_t hF rfl<|c_sr<|pq 1 hF rfl fun a hF=>l_nil<|t_n<|wp_ret<|b_r<|t_r<|t_r<|b_r<|t_r<|ret1 Tryz.results113 hF (rv_t hF rfl) ?_
 first
 |exact⟨by rw[leads_edge hkk (by rw[hz];simp_all[edgeB])],hW.below⟩
 |exact⟨by rw[show leadsB x.chans u v=false by(have e:x.chans.take k=x.chans:=List.take_of_length_le Om);rwa [e] at hlk],hW.below⟩
 refine pq 2 hF rfl fun a hF=>l_nil ?_;replace hF:=hF.ks [0,1,2,3,7,8,13,47] rfl;refine t_n<|c_f hF rfl<|wp_skip<|b_n<|t_n<|c_r<|pq 1 hF rfl fun a hF=>pv hF hW (y_add hF rfl rfl (IntWalk.i64_in _ Om)) fun a hF=>pq 1 hF rfl fun a hF=>l_nil ?_;replace hW:=hW.del 0 rfl;refine t_n ?_;refine⟨(k+1),?_,?_,?_,?_⟩
 exact⟨by omega,by rw[leads_snoc Om,hlk,hz,Bool.false_or];simp_all[edgeB]⟩
 first|omega|(dsimp only;omega)
 exact hF.a1 rfl rfl
 exact hW
 refine pq 8 hF rfl fun a hF=>l_nil ?_;replace hF:=hF.ks [0,1,2,3,7,8,13,47] rfl;refine t_n<|c_f hF rfl<|wp_skip<|b_n<|t_n<|c_r<|pq 1 hF rfl fun a hF=>pv hF hW (y_add hF rfl rfl (IntWalk.i64_in _ Om)) fun a hF=>pq 1 hF rfl fun a hF=>l_nil ?_;replace hW:=hW.del 0 rfl;refine t_n ?_;refine⟨(k+1),?_,?_,?_,?_⟩
 exact⟨by omega,by rw[leads_snoc Om,hlk,hz,Bool.false_or];simp_all[edgeB]⟩
 first|omega|(dsimp only;omega)
 exact hF.a1 rfl rfl
 exact hW
 refine pq 13 hF rfl fun a hF=>l_nil ?_;replace hF:=hF.ks [0,1,2,3,7,8,13,47] rfl;refine t_n<|c_f hF rfl<|wp_skip<|b_n<|t_n<|c_r<|pq 1 hF rfl fun a hF=>pv hF hW (y_add hF rfl rfl (IntWalk.i64_in _ Om)) fun a hF=>pq 1 hF rfl fun a hF=>l_nil ?_;replace hW:=hW.del 0 rfl;refine t_n ?_;refine⟨(k+1),?_,?_,?_,?_⟩
 exact⟨by omega,by rw[leads_snoc Om,hlk,hz,Bool.false_or];simp_all[edgeB]⟩
 first|omega|(dsimp only;omega)
 exact hF.a1 rfl rfl
 exact hW
 refine pq 8 hF rfl fun a hF=>pvg hF hW (y_loadOwn hF rfl 0 rfl rfl Tryz.underlying3 rfl) (ws hF rfl rfl) fun a hF=>pq 1 hF rfl fun a hF=>?_;refine Fr.splitD hF (fun h9 hF=>?_) (fun h9 hF=>?_);refine pq 2 hF rfl fun a hF=>pvg hF hW (y_loadOwn hF rfl 0 rfl rfl Tryz.underlying3 rfl) (ws hF rfl rfl) fun a hF=>pq 2 hF rfl fun a hF=>?_;refine Fr.splitD hF (fun h10 hF=>?_) (fun h10 hF=>?_);refine pq 3 hF rfl fun a hF=>pvg hF hW (y_loadOwn hF rfl 0 rfl rfl Tryz.underlying3 rfl) (ws hF rfl rfl) fun a hF=>pq 2 hF rfl fun a hF=>?_;refine Fr.splitD hF (fun h11 hF=>?_) (fun h11 hF=>?_);refine pq 2 hF rfl fun a hF=>l_nil ?_;replace hF:=hF.ks [0,1,2,3,7,8,13,47] rfl;refine t_n<|c_t hF rfl<|c_sr<|pq 1 hF rfl fun a hF=>l_nil<|t_n<|wp_ret<|b_r<|t_r<|t_r<|b_r<|t_r<|ret1 Tryz.results113 hF (rv_t hF rfl) ?_
 first
 |exact⟨by rw[leads_edge hkk (by rw[hz];simp_all[edgeB])],hW.below⟩
 |exact⟨by rw[show leadsB x.chans u v=false by(have e:x.chans.take k=x.chans:=List.take_of_length_le Om);rwa [e] at hlk],hW.below⟩
 refine pq 2 hF rfl fun a hF=>l_nil ?_;replace hF:=hF.ks [0,1,2,3,7,8,13,47] rfl;refine t_n<|c_f hF rfl<|wp_skip<|b_n<|t_n<|c_r<|pq 1 hF rfl fun a hF=>pv hF hW (y_add hF rfl rfl (IntWalk.i64_in _ Om)) fun a hF=>pq 1 hF rfl fun a hF=>l_nil ?_;replace hW:=hW.del 0 rfl;refine t_n ?_;refine⟨(k+1),?_,?_,?_,?_⟩
 exact⟨by omega,by rw[leads_snoc Om,hlk,hz,Bool.false_or];simp_all[edgeB]⟩
 first|omega|(dsimp only;omega)
 exact hF.a1 rfl rfl
 exact hW
 refine pq 8 hF rfl fun a hF=>l_nil ?_;replace hF:=hF.ks [0,1,2,3,7,8,13,47] rfl;refine t_n<|c_f hF rfl<|wp_skip<|b_n<|t_n<|c_r<|pq 1 hF rfl fun a hF=>pv hF hW (y_add hF rfl rfl (IntWalk.i64_in _ Om)) fun a hF=>pq 1 hF rfl fun a hF=>l_nil ?_;replace hW:=hW.del 0 rfl;refine t_n ?_;refine⟨(k+1),?_,?_,?_,?_⟩
 exact⟨by omega,by rw[leads_snoc Om,hlk,hz,Bool.false_or];simp_all[edgeB]⟩
 first|omega|(dsimp only;omega)
 exact hF.a1 rfl rfl
 exact hW
 refine pq 13 hF rfl fun a hF=>l_nil ?_;replace hF:=hF.ks [0,1,2,3,7,8,13,47] rfl;refine t_n<|c_f hF rfl<|wp_skip<|b_n<|t_n<|c_r<|pq 1 hF rfl fun a hF=>pv hF hW (y_add hF rfl rfl (IntWalk.i64_in _ Om)) fun a hF=>pq 1 hF rfl fun a hF=>l_nil ?_;replace hW:=hW.del 0 rfl;refine t_n ?_;refine⟨(k+1),?_,?_,?_,?_⟩
 exact⟨by omega,by rw[leads_snoc Om,hlk,hz,Bool.false_or];simp_all[edgeB]⟩
 first|omega|(dsimp only;omega)
 exact hF.a1 rfl rfl
 exact hW
 refine l_nil<|t_n<|c_f hF rfl<|wp_exit<|t_x<|t_x<|b_h<|t_n<|c_sr<|pq 1 hF rfl fun a hF=>l_nil<|t_n<|wp_ret<|ret1 Tryz.results113 hF (rv_t hF rfl) ?_
 first
 |exact⟨by rw[leads_edge hkk (by rw[hz];simp_all[edgeB])],hW.below⟩
 |exact⟨by rw[show leadsB x.chans u v=false by(have e:x.chans.take k=x.chans:=List.take_of_length_le Om);rwa [e] at hlk],hW.below⟩
theorem any_snoc(P:Nat→Bool)(k:Nat):(List.range (k+1)).any P=((List.range k).any P||P k):=by
 rw[List.range_succ,List.any_append]
 simp
theorem any_found{P:Nat→Bool}{k n:Nat}(hk:k<n)(h:P k=true):(List.range n).any P=true:=List.any_eq_true.2 ⟨k,List.mem_range.2 hk,h⟩
theorem reachesBy_zero{x:SysD}{w:World}(hx:x.At w)(u v:Nat)(hp:x.parts.length≤1024):
  Calls Tryz.prog 112 #[x.val,.int .i64 u,.int .i64 v,.int .i64 0] w fun e w'=>e=.returned (.bool (rchBy x.chans x.parts.length 0 u v))∧Below w.heap.size w w':=by
 rw[x.val_eq]
 refine enter Tryz.func112 rfl Tryz.ntmps112 rfl fun a hF=>?_
 have hW:=Wd.start w NoB
 refine c_sr<|pe<|e_box hF hW rfl rfl rfl rfl fun b1 a wc hF hW=>pq 1 hF rfl fun a hF=>l_nil<|t_n<|c_s<|c_sr<|pq 3 hF rfl fun a hF=>?_;refine Fr.splitD hF (fun h2 hF=>?_) (fun h2 hF=>?_);refine l_nil<|t_n<|c_t hF rfl<|c_sr<|pq 1 hF rfl fun a hF=>l_nil<|t_n<|wp_ret<|t_r<|ret1 Tryz.results112 hF (rv_t hF rfl) ?_
 exact⟨by simp only[rchBy];congr 1;simp;omega,hW.below⟩
 refine l_nil<|t_n<|c_f hF rfl<|wp_skip<|t_n<|c_s<|c_sr<|pq 1 hF rfl fun a hF=>l_nil<|t_n<|wp_block ?_;refine c_loop (G:=Nat) (fun k:Nat=>[(9,.int .i64 (k:Int))]) (fun k:Nat=>[]) (fun k:Nat=>k=0) (fun k:Nat=>x.parts.length - k) 0 (hF.ks [0,1,2,3,4,12] rfl) (Fr.cons hF (t:=9) rfl Rg (Fr.nil hF)) (hW) ?_ ?_
 rfl
 clear hF hW
 try clear a
 intro k a wc hC hF hW;refine c_s<|c_sr<|pq 2 hF rfl fun a hF=>pv hF hW (y_loadOwn hF rfl 0 rfl rfl Tryz.underlying35 rfl) fun a hF=>pq 2 hF rfl fun a hF=>?_;refine Fr.splitD hF (fun h3 hF=>?_) (fun h3 hF=>?_);refine pq 3 hF rfl fun a hF=>?_;replace hF:=hF.ff;refine pq 1 hF rfl fun a hF=>?_;replace hF:=hF.ff;refine l_nil<|t_n<|c_f hF rfl<|wp_exit<|t_x<|t_x<|b_h<|t_n<|c_sr<|pq 1 hF rfl fun a hF=>l_nil<|t_n<|wp_ret<|ret1 Tryz.results112 hF (rv_t hF rfl) ?_
 exact⟨by simp only[rchBy];congr 1;simp;omega,hW.below⟩
 refine pq 4 hF rfl fun a hF=>l_nil<|t_n<|c_f hF rfl<|wp_exit<|t_x<|t_x<|b_h<|t_n<|c_sr<|pq 1 hF rfl fun a hF=>l_nil<|t_n<|wp_ret<|ret1 Tryz.results112 hF (rv_t hF rfl) ?_
 exact⟨by simp only[rchBy];congr 1;simp;omega,hW.below⟩
theorem reachesBy_succ{x:SysD}{w:World}(hx:x.At w)(n u v:Nat)(hp:x.parts.length≤1024)(hc:x.chans.length≤1024)(hn:n≤1024)
  (ih:∀(c:Nat) (w1:World),Below w.heap.size w w1→Calls Tryz.prog 112 #[x.val,.int .i64 c,.int .i64 v,.int .i64 n] w1 fun e w'=>e=.returned (.bool (rchBy x.chans x.parts.length n c v))∧Below w1.heap.size w1 w'):
  Calls Tryz.prog 112 #[x.val,.int .i64 u,.int .i64 v,.int .i64 (n+1:Nat)] w fun e w'=>e=.returned (.bool (rchBy x.chans x.parts.length (n+1) u v))∧Below w.heap.size w w':=by
 rw[x.val_eq] at*
 refine enter Tryz.func112 rfl Tryz.ntmps112 rfl fun a hF=>?_
 have hW:=Wd.start w NoB
 refine c_sr<|pe<|e_box hF hW rfl rfl rfl rfl fun b1 a wc hF hW=>pq 1 hF rfl fun a hF=>l_nil<|t_n<|c_s<|c_sr<|pq 3 hF rfl fun a hF=>?_;refine Fr.splitD hF (fun h2 hF=>?_) (fun h2 hF=>?_);refine l_nil<|t_n<|c_t hF rfl<|c_sr<|pq 1 hF rfl fun a hF=>l_nil<|t_n<|wp_ret<|t_r<|ret1 Tryz.results112 hF (rv_t hF rfl) ?_
 first
 |exact⟨by rw[show rchBy x.chans x.parts.length (n+1) u v=true by(rw[rchBy];simp;left;omega)],hW.below⟩
 |exact⟨by rw[show rchBy x.chans x.parts.length (n+1) u v=true by(rw[rchBy,any_found (k:=k) Om (by simp_all)];simp)],hW.below⟩
 |exact⟨by rw[show rchBy x.chans x.parts.length (n+1) u v=false by(obtain rfl:k=x.parts.length:=Om);rw[rchBy,hno];simp;omega],hW.below⟩
 refine l_nil<|t_n<|c_f hF rfl<|wp_skip<|t_n<|c_s<|c_sr<|pq 1 hF rfl fun a hF=>l_nil<|t_n<|wp_block ?_;refine c_loop (G:=Nat) (fun k:Nat=>[(9,.int .i64 (k:Int))]) (fun k:Nat=>[]) (fun k:Nat=>k≤x.parts.length∧((List.range k).any fun c=>leadsB x.chans u c&&rchBy x.chans x.parts.length n c v)=false) (fun k:Nat=>x.parts.length - k) 0 (hF.ks [0,1,2,3,4,12] rfl) (Fr.cons hF (t:=9) rfl Rg (Fr.nil hF)) (hW) ?_ ?_
 exact⟨by omega,rfl⟩
 clear hF hW
 try clear a
 intro k a wc hC hF hW
 obtain⟨hkp,hno⟩:=hC
 refine c_s<|c_sr<|pq 2 hF rfl fun a hF=>pv hF hW (y_loadOwn hF rfl 0 rfl rfl Tryz.underlying35 rfl) fun a hF=>pq 2 hF rfl fun a hF=>?_;refine Fr.splitD hF (fun h3 hF=>?_) (fun h3 hF=>?_);refine pq 3 hF rfl fun a hF=>?_;refine Fr.splitD hF (fun h4 hF=>?_) (fun h4 hF=>?_);refine pq 1 hF rfl fun a hF=>l_nil<|t_n<|c_t hF rfl<|wp_skip<|t_n<|c_s<|wp_block<|c_sr<|pv hF hW (y_loadAll hF rfl 0 rfl Tryz.underlying39 rfl sz_39) fun a hF=>pq 2 hF rfl fun a hF=>pe<|e_callK hF hW rfl rfl en_113 Rl (leadsR_any (hx.below hW.below) u k hc) fun a w1 hW hF=>?_;refine Fr.splitB hF (fun h5 hF=>?_) (fun h5 hF=>?_);refine pq 1 hF rfl fun a hF=>pvg hF hW (y_loadAll hF rfl 0 rfl Tryz.underlying39 rfl sz_39) (ws hF rfl rfl) fun a hF=>pq 3 hF rfl fun a hF=>pvg hF hW (y_sub hF rfl rfl (IntWalk.i64_in _ Om)) (ws hF rfl rfl) fun a hF=>?_;replace hF:=Fr.cast (v':=.int .i64 (n:Int)) (by congr 1;omega) hF;refine pe (e_callK hF hW rfl rfl en_112 Rl (ih k _ hW.below) ?_) (ws hF rfl rfl);intro a w1 hW hF;refine Fr.splitB hF (fun h6 hF=>?_) (fun h6 hF=>?_);refine pq 1 hF rfl fun a hF=>l_nil ?_;replace hF:=hF.ks [0,1,2,3,4,9,12,21,35] rfl;refine t_n<|c_t hF rfl<|c_sr<|pq 1 hF rfl fun a hF=>l_nil<|t_n<|wp_ret<|b_r<|t_r<|t_r<|b_r<|t_r<|ret1 Tryz.results112 hF (rv_t hF rfl) ?_
 first
 |exact⟨by rw[show rchBy x.chans x.parts.length (n+1) u v=true by(rw[rchBy];simp;left;omega)],hW.below⟩
 |exact⟨by rw[show rchBy x.chans x.parts.length (n+1) u v=true by(rw[rchBy,any_found (k:=k) Om (by simp_all)];simp)],hW.below⟩
 |exact⟨by rw[show rchBy x.chans x.parts.length (n+1) u v=false by(obtain rfl:k=x.parts.length:=Om);rw[rchBy,hno];simp;omega],hW.below⟩
 refine pq 1 hF rfl fun a hF=>l_nil ?_;replace hF:=hF.ks [0,1,2,3,4,9,12,21,35] rfl;refine t_n<|c_f hF rfl<|wp_skip<|b_n<|t_n<|c_r<|pq 1 hF rfl fun a hF=>pv hF hW (y_add hF rfl rfl (IntWalk.i64_in _ Om)) fun a hF=>pq 1 hF rfl fun a hF=>l_nil<|t_n ?_;refine⟨(k+1),?_,?_,?_,?_⟩
 exact⟨by omega,by rw[any_snoc,hno];simp_all⟩
 first|omega|(dsimp only;omega)
 exact hF.a1 rfl rfl
 exact hW
 refine pq 8 hF rfl fun a hF=>l_nil ?_;replace hF:=hF.ks [0,1,2,3,4,9,12,21,35] rfl;refine t_n<|c_f hF rfl<|wp_skip<|b_n<|t_n<|c_r<|pq 1 hF rfl fun a hF=>pv hF hW (y_add hF rfl rfl (IntWalk.i64_in _ Om)) fun a hF=>pq 1 hF rfl fun a hF=>l_nil<|t_n ?_;refine⟨(k+1),?_,?_,?_,?_⟩
 exact⟨by omega,by rw[any_snoc,hno];simp_all⟩
 first|omega|(dsimp only;omega)
 exact hF.a1 rfl rfl
 exact hW
 exfalso
 omega
 refine pq 4 hF rfl fun a hF=>l_nil<|t_n<|c_f hF rfl<|wp_exit<|t_x<|t_x<|b_h<|t_n<|c_sr<|pq 1 hF rfl fun a hF=>l_nil<|t_n<|wp_ret<|ret1 Tryz.results112 hF (rv_t hF rfl) ?_
 first
 |exact⟨by rw[show rchBy x.chans x.parts.length (n+1) u v=true by(rw[rchBy];simp;left;omega)],hW.below⟩
 |exact⟨by rw[show rchBy x.chans x.parts.length (n+1) u v=true by(rw[rchBy,any_found (k:=k) Om (by simp_all)];simp)],hW.below⟩
 |exact⟨by rw[show rchBy x.chans x.parts.length (n+1) u v=false by(obtain rfl:k=x.parts.length:=Om);rw[rchBy,hno];simp;omega],hW.below⟩
theorem reachesBy_any{x:SysD}{w:World}(hx:x.At w)(v:Nat)(hp:x.parts.length≤1024)(hc:x.chans.length≤1024):∀(n:Nat) (hn:n≤1024) (u:Nat) (w1:World) (hb:Below w.heap.size w w1),
  Calls Tryz.prog 112 #[x.val,.int .i64 u,.int .i64 v,.int .i64 n] w1 fun e w'=>e=.returned (.bool (rchBy x.chans x.parts.length n u v))∧Below w1.heap.size w1 w'
 |0,_,u,w1,hb=>reachesBy_zero (hx.below hb) u v hp
 |n+1,hn,u,w1,hb=>reachesBy_succ (hx.below hb) n u v hp hc Om fun c w2 hb2=>reachesBy_any (hx.below hb) v hp hc n Om c w2 hb2
theorem reaches_any{x:SysD}{w:World}(hx:x.At w)(u v:Nat)(hp:x.parts.length≤1024)(hc:x.chans.length≤1024):
  Calls Tryz.prog 71 #[x.val,.int .i64 u,.int .i64 v] w fun e w'=>e=.returned (.bool (rch x.chans x.parts.length u v))∧Below w.heap.size w w':=by
 have h:=fun w1 (hb:Below w.heap.size w w1)=>reachesBy_any (hx.below hb) v hp hc x.parts.length hp u w1 (Below.refl _ _)
 rw[x.val_eq] at*
 refine enter Tryz.func71 rfl Tryz.ntmps71 rfl fun a hF=>?_
 have hW:=Wd.start w NoB
 refine c_sr<|pe<|e_box hF hW rfl rfl rfl rfl fun b1 a wc hF hW=>pq 1 hF rfl fun a hF=>lts<|pv hF hW (y_loadAll hF rfl 0 rfl Tryz.underlying39 rfl sz_39) fun a hF=>pq 3 hF rfl fun a hF=>pv hF hW (y_loadOwn hF rfl 0 rfl rfl Tryz.underlying35 rfl) fun a hF=>pq 1 hF rfl fun a hF=>pe<|e_callK hF hW rfl rfl en_112 Rl (h _ hW.below) fun a w1 hW hF=>?_;refine Fr.splitB hF (fun h2 hF=>?_) (fun h2 hF=>?_);refine pq 1 hF rfl fun a hF=>l_nil<|t_n<|wp_ret<|ret1 Tryz.results71 hF (rv_t hF rfl) ?_
 exact⟨by unfold rch;simp_all,hW.below⟩
 refine pq 1 hF rfl fun a hF=>l_nil<|t_n<|wp_ret<|ret1 Tryz.results71 hF (rv_t hF rfl) ?_
 exact⟨by unfold rch;simp_all,hW.below⟩
end
end Go.Proofs.YtndcjmopebcdgaaGreatDoor
