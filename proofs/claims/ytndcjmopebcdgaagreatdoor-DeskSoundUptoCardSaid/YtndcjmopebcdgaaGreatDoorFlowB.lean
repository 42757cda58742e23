/- flow.Reach: what reaches what. -/
import Derived.Test.YtndcjmopebcdgaaGreatDoorFlowA
import Derived.Test.YtndcjmopebcdgaaGreatDoorConfC1
set_option linter.unusedSimpArgs false
set_option linter.unusedVariables false
namespace Go.Proofs.YtndcjmopebcdgaaGreatDoor
open Go.ChangeShapes Go.WideShapes Go.ChangeAt Go.RowKit
theorem bs_FlowB_41_1_0(x0:Int)(w:World):(Instr.buildSlice 41 1 #[(0,(.int .i64 x0))]).run Tryz.prog w=.ok (.slice (some ⟨w.heap.size,0,none⟩) 1 1) (w.alloc (.cells #[(.int .i64 x0)] 3)):=by kernel_rfl
set_option maxRecDepth 100000
structure BR where
 l:List Bool
 a:Option Addr
 k:Nat
def BR.val(q:BR):Value:=.slice q.a q.l.length q.k
def BR.cells(q:BR):List Value:=[q.val]
theorem BR.cells_len(q:BR):q.cells.length=1:=rfl
def encB(b:Bool):List Value:=[.bool b]
theorem encB_len(b:Bool):(encB b).length=1:=rfl
def BR.At(q:BR)(u:World):Prop:=Flat encB 1 u (.slice q.a q.l.length q.k) q.l
def BR0:BR:=⟨[],none,0⟩
theorem br_flat(qs:List BR):qs.map BR.val=qs.flatMap BR.cells:=by
 induction qs with
 |nil=>rfl
 |cons q r ih=>rw[List.map_cons,List.flatMap_cons,ih];rfl
theorem encB_flat(l:List Bool):l.map (.bool ·)=l.flatMap encB:=by
 induction l with
 |nil=>rfl
 |cons q r ih=>rw[List.map_cons,List.flatMap_cons,ih];rfl
structure Seen(cs:List Chn)(n a:Nat)(bits:List Bool)(wl:List Int):Prop where
 len:bits.length=n
 has:∀v,bits.getD v false=true→Rch cs n a v
 work:∀m,m∈wl→∃v:Nat,m=v∧v<n∧Rch cs n a v
 self:bits.getD a false=true∨(a:Int)∈wl
 next:∀v,v<n→bits.getD v false=true→∀c,c<n→leadsB cs v c=true→bits.getD c false=true∨(c:Int)∈wl
theorem seen0{cs:List Chn}{n a:Nat}(ha:a<n):Seen cs n a (List.replicate n false) [(a:Int)]:=by
 have hf:∀v,(List.replicate n false).getD v false=false:=fun v=>by
  simp only[List.getD,List.getElem?_replicate]
  split<;>rfl
 exact⟨by simp,fun v h=>(by rw[hf] at h;cases h),fun m h=>⟨a,by simpa using h,ha,.refl _⟩,.inr Si,fun v _ h=>(by rw[hf] at h;cases h)⟩
theorem Seen.old{cs:List Chn}{n a b:Nat}{bits:List Bool}{wl:List Int}(h:Seen cs n a bits ((b:Int)::wl))(hb:bits.getD b false=true):Seen cs n a bits wl:=by
 refine⟨h.len,h.has,fun m hm=>h.work m (List.mem_cons_of_mem _ hm),?_,fun v hv hb' c hc hl=>?_⟩
 ·rcases h.self with h1|h1
  ·exact .inl h1
  ·rcases List.mem_cons.1 h1 with e|h1
   ·have:a=b:=by omega
    subst this
    exact .inl hb
   ·exact .inr h1
 ·rcases h.next v hv hb' c hc hl with h1|h1
  ·exact .inl h1
  ·rcases List.mem_cons.1 h1 with e|h1
   ·have:c=b:=by omega
    subst this
    exact .inl hb
   ·exact .inr h1
theorem getD_setB{l:List Bool}{n k:Nat}(hn:n<l.length):(l.set n true).getD k false=(l.getD k false||k==n):=by
 simp only[List.getD,List.getElem?_set]
 by_cases h:n=k
 ·subst h
  simp[hn]
 ·have:(k==n)=false:=by simp;omega
  rw[if_neg h,this,Bool.or_false]
theorem Seen.new{cs:List Chn}{n a b:Nat}{bits:List Bool}{wl:List Int}(h:Seen cs n a bits ((b:Int)::wl)):Seen cs n a (bits.set b true) (wl++tl n (leadsB cs b)):=by
 obtain⟨b',e,hbn,hrb⟩:=h.work b List.mem_cons_self
 have:b'=b:=by omega
 subst this
 have hl:=h.len
 have hg:∀k,(bits.set b' true).getD k false=(bits.getD k false||k==b'):=fun k=>getD_setB Om
 refine⟨by simpa using hl,fun v hv=>?_,fun m hm=>?_,?_,fun v hv hb' c hc hlc=>?_⟩
 ·rw[hg,Bool.or_eq_true] at hv
  rcases hv with hv|hv
  ·exact h.has v hv
  ·have:v=b':=by simpa using hv
   subst this
   exact hrb
 ·rcases List.mem_append.1 hm with hm|hm
  ·exact h.work m (List.mem_cons_of_mem _ hm)
  ·obtain⟨k,rfl,hk,hlk⟩:=tl_lt hm
   exact⟨k,rfl,hk,hrb.trans (.step hlk hk (.refl _))⟩
 ·rw[hg]
  rcases h.self with h1|h1
  ·exact .inl (by rw[h1];rfl)
  ·rcases List.mem_cons.1 h1 with e|h1
   ·have:a=b':=by omega
    exact .inl (by rw[Bool.or_eq_true];exact .inr (by simpa using this))
   ·exact .inr (List.mem_append_left _ h1)
 ·rw[hg] at hb'⊢
  rw[Bool.or_eq_true] at hb'
  by_cases hvb:v=b'
  ·subst hvb
   exact .inr (List.mem_append_right _ (mem_tl.2 ⟨hc,hlc⟩))
  ·rcases hb' with hb'|hb'
   ·rcases h.next v hv hb' c hc hlc with h1|h1
    ·exact .inl (by rw[h1];rfl)
    ·rcases List.mem_cons.1 h1 with e|h1
     ·have:c=b':=by omega
      exact .inl (by rw[Bool.or_eq_true];exact .inr (by simpa using this))
     ·exact .inr (List.mem_append_left _ h1)
   ·exact absurd (by simpa using hb') hvb
theorem Seen.done{cs:List Chn}{n a:Nat}{bits:List Bool}(ha:a<n)(h:Seen cs n a bits []):bits=(List.range n).map (rch cs n a):=by
 have key:∀v,Rch cs n a v→v<n→bits.getD v false=true:=by
  have:∀x v,Rch cs n x v→x<n→bits.getD x false=true→bits.getD v false=true:=by
   intro x v hr
   induction hr with
   |refl=>exact fun _ h=>h
   |step h1 h2 _ ih=>exact fun hx hb=>ih h2 ((h.next _ hx hb _ h2 h1).resolve_right Si)
  intro v hr _
  exact this a v hr ha (h.self.resolve_right Si)
 refine list_eq_getD false (by simpa using h.len) fun k hk=>?_
 have hk':k<n:=by have:=h.len;omega
 rw[show((List.range n).map (rch cs n a)).getD k false=rch cs n a k by simp[List.getD,hk']]
 rw[Bool.eq_iff_iff,rch_iff ha hk']
 exact⟨h.has k,fun hr=>key k hr hk'⟩
def left(n:Nat)(bits:List Bool)(wl:List Int):Nat:=wl.length+(n+1)*bits.countP (fun b=> !b)
theorem count_set:∀(l:List Bool) (k:Nat),l.getD k true=false→(l.set k true).countP (fun b=> !b)+1=l.countP (fun b=> !b)
 |[],k,h=>by simp[List.getD] at h
 |x::r,0,h=>by
  have:x=false:=by simpa using h
  subst this
  simp
 |x::r,k+1,h=>by
  have ih:=count_set r k (by simpa using h)
  rw[List.set_cons_succ]
  cases x
  ·rw[List.countP_cons_of_pos Rl,List.countP_cons_of_pos Rl];omega
  ·rw[List.countP_cons_of_neg Si,List.countP_cons_of_neg Si];exact ih
theorem left_new{n b:Nat}{bits:List Bool}{wl:List Int}{m:Int}{P:Nat→Bool}(hb:b<bits.length)(hf:bits.getD b false=false):left n (bits.set b true) (wl++tl n P)<left n bits (m::wl):=by
 have h1:=count_set bits b (by simp only[List.getD,List.getElem?_eq_getElem hb] at hf⊢;exact hf)
 have h2:=tl_len n P
 unfold left
 rw[List.length_append,List.length_cons,←h1,Nat.mul_add,Nat.mul_one]
 omega
theorem left_old{n:Nat}{bits:List Bool}{wl:List Int}{m:Int}:left n bits wl<left n bits (m::wl):=by
 unfold left
 rw[List.length_cons]
 omega
def ReachBack(w:World)(x:SysD)(E:Int)(e:Ending)(w':World):Prop:=∃(D:List BR) (A:Option Addr) (c:Nat),e=.returned (.tuple #[.slice A D.length c,.int .i64 E])∧
 D.map BR.l=(if E=0 then(List.range x.parts.length).map fun a=>(List.range x.parts.length).map (rch x.chans x.parts.length a) else [])∧Below w.heap.size w w'∧OwnRes w w' (fun u=>Flat BR.cells 1 u (.slice A D.length c) D∧∀q,q∈D→q.At u)
theorem bits_rep(n:Nat):(List.replicate n [Value.bool false]).flatten=(List.replicate n false).map (.bool ·):=by
 induction n with
 |zero=>rfl
 |succ n ih=>rw[List.replicate_succ,List.replicate_succ,List.flatten_cons,List.map_cons,ih];rfl
theorem rows_rep(n:Nat):(List.replicate n [Value.slice none 0 0]).flatten=([]:List BR).map BR.val++List.replicate (n - 0) (.slice none 0 0):=by
 rw[Nat.sub_zero]
 show _=List.replicate n _
 induction n with
 |zero=>rfl
 |succ n ih=>rw[List.replicate_succ,List.replicate_succ,List.flatten_cons,ih];rfl
theorem rows_set{D:List BR}{n k:Nat}{v:Value}(hD:D.length=k)(hk:k<n):(D.map BR.val++List.replicate (n - k) (Value.slice none 0 0)).set (k*1) v=(D.map BR.val++[v])++List.replicate (n - (k+1)) (Value.slice none 0 0):=by
 subst hD
 rw[Nat.mul_one,List.set_append_right _ _ Si,List.length_map,Nat.sub_self,show n - D.length=(n - (D.length+1))+1 by omega,List.replicate_succ,List.set_cons_zero]
 simp
theorem rows_get{D:List BR}{r:List Value}{k:Nat}{v:Value}(hD:D.length=k):((D.map BR.val++[v])++r)[k*1]?=some v:=by
 subst hD
 simp
theorem bits_get{bits:List Bool}{b:Nat}(hb:b<bits.length):(bits.map (Value.bool ·))[b*1]?=some (.bool (bits.getD b false)):=by
 simp[List.getD,hb]
theorem bits_set{bits:List Bool}{b:Nat}:(bits.map (Value.bool ·)).set (b*1) (.bool true)=(bits.set b true).map (.bool ·):=by
 rw[Nat.mul_one]
 apply List.ext_getElem?
 intro j
 simp only[List.getElem?_set,List.getElem?_map,List.length_map]
 split
 ·split<;>rfl
 ·rfl
theorem rows_done{D:List BR}{n:Nat}{bits:List Bool}{A:Option Addr}{r:List Value}(h:bits.length=n):(D.map BR.val++[.slice A n n])++r=(D++[BR.mk bits A n]).map BR.val++r:=by
 subst h
 simp[BR.val]
theorem left0{n:Nat}{m:Int}(h:n≤4):left n (List.replicate n false) [m]≤100:=by
 have h1:(List.replicate n false).countP (fun b=> !b)≤n:=Nat.le_trans List.countP_le_length Si
 have h2:=Nat.mul_le_mul (show n+1≤5 by omega) (Nat.le_trans h1 h)
 unfold left
 simp only[List.length_cons,List.length_nil]
 omega
theorem left_len{n:Nat}{bits:List Bool}{wl:List Int}:wl.length≤left n bits wl:=by unfold left;omega
theorem matrix_snoc{D:List BR}{n k:Nat}{f:Nat→List Bool}{q:BR}(h:D.map BR.l=(List.range k).map f)(hq:q.l=f k):(D++[q]).map BR.l=(List.range (k+1)).map f:=by
 rw[List.map_append,h,List.range_succ,List.map_append]
 simp[hq]
set_option maxHeartbeats 4000000 in
theorem flowReach_any{x:SysD}{w:World}(hx:x.At w):Calls Tryz.prog 39 #[x.val] w (ReachBack w x (chkSys x.sys)):=by
 have hc:=fun w1 (hb:Below w.heap.size w w1)=>confCheck_any (hx.below hb)
 have hof:=fun w1 (hb:Below w.heap.size w w1) (h0:chkSys x.sys=0)=>flowOf_any (hx.below hb) h0
 have hsz:=fun(h0:chkSys x.sys=0)=>(sizes_get (chkSys_zero h0).1).1
 rw[x.val_eq] at*
 refine enter Tryz.func39 rfl Tryz.ntmps39 rfl fun a hF=>?_
 have hW:=Wd.start w NoB
 refine c_sr<|pe<|e_box hF hW rfl rfl rfl rfl fun b1 a wc hF hW=>pq 2 hF rfl fun a hF=>l_nil<|t_n<|c_s<|c_sr<|pv hF hW (y_loadAll hF rfl 0 rfl Tryz.underlying39 rfl sz_39) fun a hF=>pe<|e_callK hF hW rfl rfl en_46 Rl (hc _ hW.below) fun a w1 hW hF=>pq 1 hF rfl fun a hF=>lts<|pq 2 hF rfl fun a hF=>?_;refine Fr.splitD hF (fun h2 hF=>?_) (fun h2 hF=>?_);refine l_nil<|t_n<|c_t hF rfl<|c_sr<|pq 3 hF rfl fun a hF=>l_nil<|t_n<|wp_ret<|t_r<|ret2 Tryz.results39 hF (rv_t hF rfl) (rv_t hF rfl) ?_;replace hW:=hW.del 0 rfl
 exact⟨[],none,0,rfl,(if_neg Am).symm,hW.below,fun _ _=>⟨Flat.nil_,fun _ h=>(by cases h)⟩⟩
 refine l_nil<|t_n<|c_f hF rfl<|wp_skip<|t_n<|c_sr<|pv hF hW (y_loadAll hF rfl 0 rfl Tryz.underlying39 rfl sz_39) fun a hF=>?_;refine pe (e_callA hF rfl rfl en_83 Rl (hof _ hW.below Om) ?_);rintro e w1 ⟨qs,Ag,rfl,hg,hb,hr⟩;replace hW:=hW.gotR hb hr;refine⟨_,rfl,fun a hF=>?_⟩;refine pq 1 hF rfl fun a hF=>l_nil<|t_n ?_
 obtain⟨hp1,hp2⟩:=hsz Om
 have hgl:=hg.len
 refine c_sr<|pq 2 hF rfl fun a hF=>pe<|e_makeSlice hF hW rfl rfl Tryz.underlying99 inf_105 rfl rfl Om (by unfold maxLen;omega) rfl rfl fun b3 a wc hF hW=>pq 1 hF rfl fun a hF=>l_nil<|t_n<|c_s<|c_sr<|pq 3 hF rfl fun a hF=>l_nil<|t_n<|wp_block ?_;replace hW:=hW.free (R:=fun u=>∀q,q∈([]:List BR)→q.At u) (fun _ _ h=>by cases h);replace hW:=hW.fs [1,1] rfl;replace hW:=hW.cast 1 _ rfl (rows_rep x.parts.length);refine c_loop (G:=Nat×List BR) (fun⟨k,D⟩=>[(22,.int .i64 (k:Int))]) (fun⟨k,D⟩=>[.res (fun u=>∀q,q∈D→q.At u),.blk b3 105 (D.map BR.val++List.replicate (x.parts.length - k) (.slice none 0 0))]) (fun⟨k,D⟩=>k≤x.parts.length∧D.map BR.l=(List.range k).map (fun a=>(List.range x.parts.length).map (rch x.chans x.parts.length a))) (fun⟨k,D⟩=>x.parts.length - k) (0,[]) (hF.ks [0,1,2,3,4,5,6,13,21] rfl) (Fr.cons hF (t:=22) rfl Rg (Fr.nil hF)) (hW) ?_ ?_
 exact⟨by omega,rfl⟩
 clear hF hW
 try clear a
 intro gq a wc hC hF hW
 obtain⟨k,D⟩:=gq
 dsimp only at hC
 obtain⟨hkp,hD⟩:=hC
 refine c_sr<|pq 1 hF rfl fun a hF=>?_;refine Fr.splitD hF (fun h4 hF=>?_) (fun h4 hF=>?_);refine l_nil<|t_n<|c_s<|c_t hF rfl<|wp_skip<|t_n ?_;refine c_cut (G:=BR) (fun q':BR=>[]) (fun q':BR=>[.res (fun u=>∀p,p∈D++[q']→p.At u),.blk b3 105 ((D++[q']).map BR.val++List.replicate (x.parts.length - (k+1)) (.slice none 0 0))]) (fun q':BR=>q'.l=(List.range x.parts.length).map (rch x.chans x.parts.length k)) (hF.ks [0,1,2,3,4,5,6,13,21,22,23] rfl) (hW.ds [0,0] rfl) ?_ ?_;refine wp_block ?_
 have hDl:D.length=k:=(by have:=congrArg List.length hD;simpa using this)
 have hkn:k<x.parts.length:=Om
 refine c_sr<|pq 2 hF rfl fun a hF=>lts<|pq 4 hF rfl fun a hF=>pe<|e_makeSlice hF hW rfl rfl Tryz.underlying105 inf_4 rfl rfl Om (by unfold maxLen;omega) rfl rfl fun b5 a wc hF hW=>pv hF hW (y_indexOwnS hF rfl rfl Od Tryz.underlying99 sz_105) fun a hF=>?_;refine pe (e_store rfl hF hW rfl rfl 2 rfl (by rw[List.getElem?_eq_getElem (by simp;omega)];rfl) rfl sz_105 ?_);intro wc hW;replace hW:=hW.cast 2 _ rfl (rows_set hDl hkn);refine lts<|pq 1 hF rfl fun a hF=>pe<|e_buildSlice hF hW rfl (fun w=>bs_FlowB_41_1_0 _ w) rfl rfl rfl fun b6 a wc hF hW=>pq 1 hF rfl fun a hF=>l_nil<|t_n<|wp_block ?_;replace hW:=hW.fs [1,1] rfl;replace hW:=hW.blk_seg 0 [(k:Int)] rfl rfl (show 1≤maxLen by decide);replace hW:=hW.cast 1 _ rfl (bits_rep x.parts.length);refine c_loop (G:=List Bool×List Int×Option Addr×Nat) (fun⟨bits,wl,A,c⟩=>[(8,.slice A wl.length c)]) (fun⟨bits,wl,A,c⟩=>[.seg 3 (.slice A wl.length c) wl,.blk b5 4 (bits.map (.bool ·))]) (fun⟨bits,wl,A,c⟩=>Seen x.chans x.parts.length k bits wl∧left x.parts.length bits wl≤100) (fun⟨bits,wl,A,c⟩=>left x.parts.length bits wl) (List.replicate x.parts.length false,[(k:Int)],some ⟨b6,0,none⟩,1) (hF.ks [0,1,2,3,4,5,6,7,13,21,22,23] rfl) (Fr.cons hF (t:=8) rfl Rg (Fr.nil hF)) (hW) ?_ ?_
 exact⟨seen0 hkn,left0 hp2⟩
 clear hF hW
 try clear a
 intro gq a wc hC hF hW
 obtain⟨bits,wl,A,c⟩:=gq
 dsimp only at hC
 obtain⟨hbits,hleft⟩:=hC
 refine c_s<|c_sr<|pq 3 hF rfl fun a hF=>?_;refine Fr.splitD hF (fun h7 hF=>?_) (fun h7 hF=>?_);refine l_nil<|t_n<|c_t hF rfl<|wp_skip<|t_n<|wp_block ?_
 have hpos:0<wl.length:=Om
 obtain⟨m,wl',rfl⟩:∃m r,wl=m::r:=List.exists_cons_of_length_pos hpos
 obtain⟨b,rfl,hbn,hrb⟩:=hbits.work m List.mem_cons_self
 have hwl:=left_len (n:=x.parts.length) (bits:=bits) (wl:=(b:Int)::wl')
 simp only[List.length_cons] at hwl
 have hql:(qs.getD b IR0).l.length≤4:=(by rw[hg.get hbn];have:=tl_len x.parts.length (leadsB x.chans b);omega)
 refine c_sr<|pq 1 hF rfl fun a hF=>pv hF hW (y_indexS hF rfl rfl (by exact hpos) Tryz.underlying41 sz_3 (fun w h=>h.segR 0 rfl)) fun a hF=>pv hF hW (y_loadRow hF rfl (fun w h=>h.segR 0 rfl) (by exact hpos) rfl Tryz.underlying3 rfl) fun a hF=>?_;replace hF:=Fr.cast (v':=.int .i64 (b:Int)) Rl hF;refine pq 1 hF rfl fun a hF=>l_nil<|t_n ?_
 obtain⟨A1,c1,hv1⟩:∃A1 c1,(Value.slice (if c=1 then A else A.map (·.add (1*1))) (((b:Int)::wl').length - 1) (c - 1))=.slice A1 wl'.length c1:=⟨_,_,rfl⟩
 replace hW:=hW.seg_tail 0 rfl Si
 rw[hv1] at hW
 refine c_sr<|pq 1 hF rfl fun a hF=>pv hF hW (y_sliceL hF rfl rfl Si Tryz.underlying41 sz_3) fun a hF=>?_;replace hF:=Fr.cast (v':=.slice A1 wl'.length c1) (by exact hv1) hF;refine pq 1 hF rfl fun a hF=>lts<|pq 2 hF rfl fun a hF=>pv hF hW (y_indexOwnS hF rfl rfl Od Tryz.underlying99 sz_105) fun a hF=>pv hF hW (y_loadOwn hF rfl 3 rfl (rows_get hDl) Tryz.underlying105 rfl) fun a hF=>?_;replace hF:=Fr.cast (v':=.slice (some ⟨b5,0,none⟩) x.parts.length x.parts.length) Rl hF;refine pq 1 hF rfl fun a hF=>pv hF hW (y_indexOwnS hF rfl rfl Od Tryz.underlying105 sz_4) fun a hF=>pv hF hW (y_loadOwn hF rfl 1 rfl (bits_get (by have:=hbits.len;omega)) Tryz.underlying4 rfl) fun a hF=>?_;refine Fr.splitB hF (fun h8 hF=>?_) (fun h8 hF=>?_);refine pq 1 hF rfl fun a hF=>l_nil ?_;replace hF:=hF.ks [0,1,2,3,4,5,6,7,8,9,13,21,22,23,35,48] rfl;refine t_n<|c_f hF rfl<|wp_skip<|b_n<|t_n ?_;refine⟨(bits,wl',A1,c1),?_,?_,?_,?_⟩
 exact⟨hbits.old Am,Nat.le_trans (Nat.le_of_lt left_old) hleft⟩
 (first|exact left_old|(rw[hg.get hbn];exact left_new (by have:=hbits.len;omega) Am))
 exact hF.a1 rfl rfl
 exact hW
 refine pq 1 hF rfl fun a hF=>l_nil ?_;replace hF:=hF.ks [0,1,2,3,4,5,6,7,8,9,13,21,22,23,35,48] rfl;refine t_n<|c_t hF rfl<|c_sr<|pq 2 hF rfl fun a hF=>pv hF hW (y_indexOwnS hF rfl rfl Od Tryz.underlying99 sz_105) fun a hF=>pv hF hW (y_loadOwn hF rfl 3 rfl (rows_get hDl) Tryz.underlying105 rfl) fun a hF=>?_;replace hF:=Fr.cast (v':=.slice (some ⟨b5,0,none⟩) x.parts.length x.parts.length) Rl hF;refine pq 1 hF rfl fun a hF=>pv hF hW (y_indexOwnS hF rfl rfl Od Tryz.underlying105 sz_4) fun a hF=>pe<|e_store rfl hF hW rfl rfl 1 rfl (by rw[bits_get (by have:=hbits.len;omega)];rfl) rfl sz_4 fun wc hW=>?_;replace hW:=hW.cast 1 _ rfl bits_set;refine ltr<|pq 3 hF rfl fun a hF=>pv hF hW (y_indexS hF rfl rfl Od Tryz.underlying169 sz_41 (fun w h=>(h.res 4 rfl).1.rf IR.cells_len IR0)) fun a hF=>pv hF hW (y_loadRow hF rfl (fun w h=>(h.res 4 rfl).1.rf IR.cells_len IR0) Od rfl Tryz.underlying41 rfl) fun a hF=>pe<|e_appendSeg hF hW 0 rfl rfl rfl Tryz.underlying41 inf_3 rfl (((hW.res 4 rfl).2 _ (mem_getD IR0 (show b<qs.length by omega))).rowAt) (show _=wl'++(qs.getD b IR0).l by rfl) (by(simp only[List.length_append];omega)) (by unfold maxLen;(simp only[List.length_append];omega)) rfl rfl fun A9 c10 a wc hF hW=>pq 1 hF rfl fun a hF=>l_nil<|b_n<|t_n ?_;refine⟨(bits.set b true,wl'++(qs.getD b IR0).l,A9,c10),?_,?_,?_,?_⟩
 rw[hg.get hbn];exact⟨hbits.new,Nat.le_trans (Nat.le_of_lt (left_new (by have:=hbits.len;omega) Am)) hleft⟩
 (first|exact left_old|(rw[hg.get hbn];exact left_new (by have:=hbits.len;omega) Am))
 exact hF.a1 rfl rfl
 exact hW
 refine l_nil<|t_n<|c_f hF rfl<|wp_exit<|t_x<|t_x<|b_h<|b_n ?_;replace hW:=hW.del 0 rfl;refine t_n ?_
 obtain rfl:wl=[]:=List.eq_nil_of_length_eq_zero Om
 replace hW:=hW.cast 2 _ rfl (rows_done hbits.len);refine⟨⟨bits,some ⟨b5,0,none⟩,x.parts.length⟩,?_,?_,?_⟩
 exact hF.al rfl
 exact Wd.res2 (hW.blk_res 0 rfl) fun u h1 h3 p hp=>(List.mem_append.1 hp).elim (h3 p) fun h=>by rw[List.mem_singleton.1 h];show Flat encB 1 u (.slice _ bits.length _) bits;rw[hbits.len];exact flat_blk h1 hbits.len.symm (encB_flat bits) (by simp[hbits.len]) (by unfold maxLen;omega)
 focus
  exact hbits.done hkn
 clear hF hW
 try clear a
 intro q' a wc hC hF hW
 have hq':=hC
 refine c_r<|pv hF hW (y_add hF rfl rfl (IntWalk.i64_in _ Om)) fun a hF=>pq 1 hF rfl fun a hF=>l_nil<|t_n ?_;refine⟨(k+1,D++[q']),?_,?_,?_,?_⟩
 exact⟨by omega,matrix_snoc (n:=x.parts.length) hD hq'⟩
 first|omega|(dsimp only;omega)
 exact hF.a1 rfl rfl
 exact hW
 refine l_nil<|t_n<|c_s<|c_f hF rfl<|wp_exit<|t_x<|t_x<|b_h<|t_n<|c_sr<|pq 3 hF rfl fun a hF=>l_nil<|t_n<|wp_ret<|ret2 Tryz.results39 hF (rv_t hF rfl) (rv_t hF rfl) ?_;replace hW:=hW.ds [2,2] rfl
 obtain rfl:k=x.parts.length:=Om
 have h0:chkSys x.sys=0:=Om
 have hDl:D.length=x.parts.length:=(by have:=congrArg List.length hD;simpa using this)
 refine⟨D,_,_,by rw[hDl,h0],by rw[h0,if_pos rfl];exact hD,hW.below,(((hW.front 1 rfl rfl).blk_res 0 rfl).res2 fun u h1 h2=>⟨?_,h2⟩).res_res 0 rfl⟩
 rw[Nat.sub_self,List.replicate_zero,List.append_nil] at h1
 rw[hDl]
 exact flat_blk h1 hDl.symm (br_flat D) (by simp[hDl]) (by unfold maxLen;omega)
end Go.Proofs.YtndcjmopebcdgaaGreatDoor
