/- cert.Certify and the reference's CertifyOf. -/
import Derived.Test.YtndcjmopebcdgaaGreatDoorSkB
import Derived.Test.YtndcjmopebcdgaaGreatDoorSkE
import Derived.Test.YtndcjmopebcdgaaGreatDoorSkG
set_option linter.unusedSimpArgs false
set_option linter.unusedVariables false
namespace Go.Proofs.YtndcjmopebcdgaaGreatDoor
open Go.ChangeShapes Go.WideShapes Go.ChangeAt Go.RowKit
theorem bs_CertF_41_1_0(x0:Int)(w:World):(Instr.buildSlice 41 1 #[(0,(.int .i64 x0))]).run Tryz.prog w=.ok (.slice (some ⟨w.heap.size,0,none⟩) 1 1) (w.alloc (.cells #[(.int .i64 x0)] 3)):=by kernel_rfl
theorem bu_CertF_46_(w:World):(Instr.build 46 #[]).run Tryz.prog w=.ok (.agg #[(.slice none 0 0)]) w:=by kernel_rfl
theorem bu_CertF_46_0(x0:Option Addr)(x0n x0c:Nat)(w:World):(Instr.build 46 #[(0,(.slice x0 x0n x0c))]).run Tryz.prog w=.ok (.agg #[(.slice x0 x0n x0c)]) w:=by kernel_rfl
set_option maxRecDepth 100000
def badB(cs:List Chn)(n:Nat)(P:List Edg)(u v:Nat):Bool:=rch cs n u v&& !mayB P u v
def setOf(cs:List Chn)(n v:Nat):List Int:=tl n (fun u=>rch cs n u v)
def Clean(cs:List Chn)(n:Nat)(P:List Edg)(k j:Nat):Prop:=∀u v,u<n→v<n→(u<k∨(u=k∧v<j))→badB cs n P u v=false
def CertIs(cs:List Chn)(n:Nat)(P:List Edg)(is:Bool)(L:List Int)(S:List (List Int)):Prop:=
 (is=true∧(∀u v,u<n→v<n→badB cs n P u v=false)∧L=[]∧S=(List.range n).map (setOf cs n))∨
 (is=false∧∃u v,u<n∧v<n∧badB cs n P u v=true∧Clean cs n P u v∧L=((pathOf cs n u v).getD []).map Int.ofNat∧S=[])
section
variable {cs:List Chn} {n:Nat} {P:List Edg}
theorem CertIs.uniq{is is':Bool}{L L':List Int}{S S':List (List Int)}(h:CertIs cs n P is L S)(h':CertIs cs n P is' L' S'):is=is'∧L=L'∧S=S':=by
 rcases h with⟨rfl,h1,rfl,rfl⟩|⟨rfl,u,v,hu,hv,hb,hc,rfl,rfl⟩<;>rcases h' with⟨rfl,h2,rfl,rfl⟩|⟨rfl,u',v',hu',hv',hb',hc',rfl,rfl⟩
 ·exact⟨rfl,rfl,rfl⟩
 ·rw[h1 u' v' hu' hv'] at hb';cases hb'
 ·rw[h2 u v hu hv] at hb;cases hb
 ·have e1:¬(u<u'∨(u=u'∧v<v')):=fun h=>by rw[hc' u v hu hv h] at hb;cases hb
  have e2:¬(u'<u∨(u'=u∧v'<v)):=fun h=>by rw[hc u' v' hu' hv' h] at hb';cases hb'
  have e3:u=u':=by omega
  have e4:v=v':=by omega
  subst e3 e4
  exact⟨rfl,rfl,rfl⟩
theorem clean0:Clean cs n P 0 0:=fun u v _ _ h=>by omega
theorem Clean.step{k j:Nat}(h:Clean cs n P k j)(hb:badB cs n P k j=false):Clean cs n P k (j+1):=fun u v hu hv hor=>by
 by_cases e:u=k∧v=j
 ·rw[e.1,e.2];exact hb
 ·exact h u v hu hv Om
theorem Clean.line{k j:Nat}(h:Clean cs n P k j)(hj:n≤j):Clean cs n P (k+1) 0:=fun u v hu hv hor=>h u v hu hv Om
theorem Clean.all{k:Nat}(h:Clean cs n P k 0)(hk:n≤k):∀u v,u<n→v<n→badB cs n P u v=false:=fun u v hu hv=>h u v hu hv Om
theorem tl_congr{P1 P2:Nat→Bool}(h:∀a,a<n→P1 a=P2 a):tl n P1=tl n P2:=by
 unfold tl
 congr 1
 exact List.filter_congr fun a ha=>h a (List.mem_range.1 ha)
theorem GraphIs.congr{g g':Nat→Nat→Bool}{qs:List IR}(h:GraphIs n g qs)(he:∀y u,y<n→u<n→g y u=g' y u):GraphIs n g' qs:=by
 unfold GraphIs at*
 rw[h]
 exact List.map_congr_left fun y hy=>tl_congr fun u hu=>he y u (List.mem_range.1 hy) hu
theorem tl_add{P1:Nat→Bool}{b:Nat}(hb:b<n)(hlt:∀a,P1 a=true→a<b):tl n P1++[(b:Int)]=tl n (fun x=>P1 x||x==b):=by
 have hn:¬(b:Int)∈tl n P1:=fun h=>by have:=hlt b (mem_tl.1 h).2;omega
 have hno:(tl n P1++[(b:Int)]).Nodup:=by
  rw[List.nodup_append]
  exact⟨tl_nodup n P1,by simp,fun x hx y hy e=>hn (by rw[List.mem_singleton] at hy;rw[←hy,←e];exact hx)⟩
 have hp:(tl n P1++[(b:Int)]).Perm (tl n (fun x=>P1 x||x==b)):=by
  refine(List.perm_ext_iff_of_nodup hno (tl_nodup n _)).2 fun m=>?_
  rw[List.mem_append,List.mem_singleton]
  constructor
  ·rintro(hm|rfl)
   ·obtain⟨k,rfl,h1,h2⟩:=tl_lt hm
    exact mem_tl.2 ⟨h1,by simp[h2]⟩
   ·exact mem_tl.2 ⟨hb,by simp⟩
  ·intro hm
   obtain⟨k,rfl,h1,h2⟩:=tl_lt hm
   simp only[Bool.or_eq_true,beq_iff_eq] at h2
   rcases h2 with h2|rfl
   ·exact .inl (mem_tl.2 ⟨h1,h2⟩)
   ·exact .inr rfl
 refine hp.eq_of_pairwise (fun a b _ _ h1 h2=>Int.le_antisymm h1 h2) ?_ (tl_sorted n _)
 refine List.pairwise_append.2 ⟨tl_sorted n P1,by simp,fun x hx y hy=>?_⟩
 obtain⟨k,rfl,h1,h2⟩:=tl_lt hx
 rw[List.mem_singleton.1 hy]
 have:=hlt k h2
 omega
def gAt(cs:List Chn)(n k j:Nat)(y u:Nat):Bool:=rch cs n u y&&(decide (u<k)||(u==k&&decide (y<j)))
theorem gAt_start{qs:List IR}(h:GraphIs n (fun _ _=>false) qs):GraphIs n (gAt cs n 0 0) qs:=h.congr fun y u _ _=>by simp[gAt]
theorem gAt_line{k j:Nat}{qs:List IR}(h:GraphIs n (gAt cs n k j) qs)(hj:n≤j):GraphIs n (gAt cs n (k+1) 0) qs:=h.congr fun y u hy _=>by
 unfold gAt
 congr 1
 rw[Bool.eq_iff_iff]
 simp
 omega
theorem gAt_skip{k j:Nat}{qs:List IR}(h:GraphIs n (gAt cs n k j) qs)(hr:rch cs n k j=false):GraphIs n (gAt cs n k (j+1)) qs:=h.congr fun y u _ _=>by
 unfold gAt
 by_cases e:u=k∧y=j
 ·rw[e.1,e.2,hr];rfl
 ·congr 1
  rw[Bool.eq_iff_iff]
  simp
  omega
theorem gAt_add{k j:Nat}{q1 q2:List IR}{q q':IR}(h:GraphIs n (gAt cs n k j) (q1++q::q2))(h1:q1.length=j)(hj:j<n)(hk:k<n)(hr:rch cs n k j=true)(hl:q'.l=q.l++[(k:Int)]):GraphIs n (gAt cs n k (j+1)) (q1++q'::q2):=by
 subst h1
 have hq:=h.get hj
 have e2:(q1++q::q2).getD q1.length IR0=q:=by simp[List.getD]
 rw[e2] at hq
 have hlt:∀u,gAt cs n k q1.length q1.length u=true→u<k:=fun u hu=>by
  unfold gAt at hu
  simp at hu
  omega
 have hm:¬(k:Int)∈q.l:=fun h=>by rw[hq] at h;have:=hlt k (mem_tl.1 h).2;omega
 have hins:q'.l=ins (k:Int) q.l:=by rw[hq,ins_tl hk,hl,hq,tl_add hk hlt]
 refine(graph_set h hk hins).congr fun y u _ _=>?_
 unfold gAt
 by_cases e:u=k∧y=q1.length
 ·rw[e.1,e.2,hr];simp
 ·rw[show(y==q1.length&&u==k)=false by rw[Bool.and_eq_false_iff,beq_eq_false_iff_ne,beq_eq_false_iff_ne];omega,Bool.or_false]
  congr 1
  rw[Bool.eq_iff_iff]
  simp
  omega
theorem gAt_done{k:Nat}{qs:List IR}(h:GraphIs n (gAt cs n k 0) qs)(hk:n≤k):qs.map IR.l=(List.range n).map (setOf cs n):=by
 have h1:GraphIs n (fun y u=>rch cs n u y) qs:=h.congr fun y u _ hu=>by unfold gAt;rw[decide_eq_true Om];simp
 exact h1
end
section
variable {w0 w:World} {X:Nat→Prop} {es:List Asn}
theorem Wd.bunch_open{q1 q2:List IR}{q:IR}(hW:Wd w0 X (.bunch ((q1++q::q2).map IR.row)::es) w):Wd w0 X (q.row::.bunch (q1.map IR.row)::.bunch (q2.map IR.row)::es) w:=by
 have h1:=hW.unbunch
 have h2:=Wd.fwd (A:=q.row) (l1:=q1.map IR.row) (l2:=q2.map IR.row++es) (by simpa using h1)
 have h3:Wd w0 X (q.row::(q1.map IR.row++(q2.map IR.row++es))) w:=h2
 have h4:Wd w0 X ((q1.map IR.row)++((q2.map IR.row)++(q.row::es))) w:=by
  have:=Wd.back (A:=q.row) (l1:=q1.map IR.row++q2.map IR.row) (l2:=es) (by simpa using h3)
  simpa using this
 have h5:=Wd.bunch (q1.map IR.row) h4
 have h6:=(Wd.fwd (A:=.bunch (q1.map IR.row)) (l1:=[]) (l2:=_) h5)
 have h7:Wd w0 X ((q2.map IR.row)++(.bunch (q1.map IR.row)::q.row::es)) w:=by
  have:=Wd.back (A:=.bunch (q1.map IR.row)) (l1:=q2.map IR.row) (l2:=q.row::es) (by simpa using h5)
  simpa using this
 have h8:=Wd.bunch (q2.map IR.row) h7
 exact(h8.front 1 rfl rfl).front 2 rfl rfl
theorem Wd.bunch_close{q1 q2:List IR}{q:IR}(hW:Wd w0 X (q.row::.bunch (q1.map IR.row)::.bunch (q2.map IR.row)::es) w):Wd w0 X (.bunch ((q1++q::q2).map IR.row)::es) w:=by
 have h1:=(hW.front 2 rfl rfl).unbunch
 have h2:Wd w0 X (.bunch (q1.map IR.row)::(q.row::(q2.map IR.row++es))) w:=by
  have a1:=Wd.fwd (A:=q.row) (l1:=q2.map IR.row) (l2:=.bunch (q1.map IR.row)::es) h1
  have a2:=Wd.fwd (A:=.bunch (q1.map IR.row)) (l1:=q.row::q2.map IR.row) (l2:=es) (by simpa using a1)
  simpa using a2
 have h3:=h2.unbunch
 exact Wd.bunch ((q1++q::q2).map IR.row) (by simpa using h3)
end
theorem map_set_mid{q1 q2:List IR}{q q':IR}{j:Nat}(h:q1.length=j):((q1++q::q2).map IR.val).set (j*1) q'.val=(q1++q'::q2).map IR.val:=by
 subst h
 rw[Nat.mul_one,List.map_append,List.map_cons,List.map_append,List.map_cons,List.set_append_right _ _ Si]
 simp
theorem graph_nil(n:Nat):GraphIs n (fun _ _=>false) (List.replicate n IR0):=by
 unfold GraphIs
 refine List.ext_getElem Si fun k h1 h2=>?_
 simp[IR0,tl]
def CertBack(w:World)(x:SysD)(P:List Edg)(e:Ending)(w':World):Prop:=∃(qs:List IR) (B:Option Addr) (d:Nat) (L:List Int) (A:Option Addr) (c:Nat) (is:Bool),
 e=.returned (.tuple #[.agg #[.slice B qs.length d],.slice A L.length c,.bool is,.int .i64 (certErr x.sys P)])∧(certErr x.sys P=0→CertIs x.chans x.parts.length P is L (qs.map IR.l))∧(certErr x.sys P≠0→is=false∧L=[]∧qs=[])∧Below w.heap.size w w'∧OwnRes w w' (fun u=>Sets_ u B d qs∧Ints u (.slice A L.length c) L)
theorem sets_nil(u:World):Sets_ u none 0 []:=⟨Flat.nil_,fun _ h=>by cases h⟩
set_option maxHeartbeats 16000000 in
theorem certify_any{x:SysD}{w:World}(hx:x.At w){P:List Edg}{A:Option Addr}{c:Nat}(hm:May_ w A c P)(hlm:P.length≤maxLen):
  Calls Tryz.prog 11 #[x.val,.agg #[.slice A P.length c]] w (CertBack w x P):=by
 have hck:=fun w1 (hb:Below w.heap.size w w1)=>certChk_any (hx.below hb) (Flat.below hm hb) hlm
 have hrc:=fun w1 (hb:Below w.heap.size w w1)=>flowReach_any (hx.below hb)
 have hof:=fun w1 (hb:Below w.heap.size w w1)=>certOf_any (Flat.below hm hb) hlm
 by_cases h0:certErr x.sys P=0
 ·obtain⟨hk,-⟩:=certErr_zero h0
  obtain⟨⟨hp1,hp2⟩,hc6,-⟩:=sizes_get (chkSys_zero hk).1
  have hpa:=fun w1 (hb:Below w.heap.size w w1) (u v:Nat) (hu:u<x.parts.length) (hv:v<x.parts.length)=>path_yes (f:=u) (t:=v) (hx.below hb) ((pathErr_2 (there_0 hk (by rw[sys_parts_len];omega))).trans (there_0 hk (by rw[sys_parts_len];omega)))
  rw[hk] at hrc
  unfold CertBack
  rw[h0] at hck⊢
  rw[x.val_eq] at*
  refine enter Tryz.func11 rfl Tryz.ntmps11 rfl fun a hF=>?_
  have hW:=Wd.start w NoB
  refine c_sr<|pe<|e_box hF hW rfl rfl rfl rfl fun b1 a wc hF hW=>pe<|e_box hF hW rfl rfl rfl rfl fun b2 a wc hF hW=>pe<|e_alloc hF hW ze_46 rfl rfl rfl fun b3 a wc hF hW=>pq 3 hF rfl fun a hF=>l_nil<|t_n<|c_s<|c_sr<|pv hF hW (y_loadAll hF rfl 2 rfl Tryz.underlying39 rfl sz_39) fun a hF=>pv hF hW (y_loadAll hF rfl 1 rfl Tryz.underlying27 rfl sz_27) fun a hF=>pe<|e_callK hF hW rfl rfl en_38 Rl (hck _ hW.below) fun a w1 hW hF=>pq 1 hF rfl fun a hF=>lts<|pq 2 hF rfl fun a hF=>?_;replace hF:=hF.ff;refine l_nil<|t_n<|c_f hF rfl<|wp_skip<|t_n<|c_sr<|pv hF hW (y_loadAll hF rfl 2 rfl Tryz.underlying39 rfl sz_39) fun a hF=>?_;refine pe (e_callA hF rfl rfl en_39 Rl (hrc _ hW.below) ?_);rintro e w1 ⟨D,Ad,cd,rfl,hD,hb,hr⟩;replace hW:=hW.gotR hb (hr.mono fun u h=>RM.mk h.1 h.2)
  replace hD:=IsReach.of (hD.trans (if_pos rfl))
  have hDl:=hD.len
  refine⟨_,rfl,fun a hF=>?_⟩;replace hF:=Fr.cast (v':=.tuple #[.slice Ad x.parts.length cd,.int .i64 0]) (by rw[hDl]) hF;refine pq 5 hF rfl fun a hF=>lts<|pv hF hW (y_loadAll hF rfl 2 rfl Tryz.underlying27 rfl sz_27) fun a hF=>?_;refine pe (e_callA hF rfl rfl en_40 Rl (hof _ hW.below) ?_);rintro e w1 ⟨bm,ks,rfl,hMo,hN⟩;replace hW:=hW.comb1 hN;refine⟨_,rfl,fun a hF=>?_⟩;refine pq 1 hF rfl fun a hF=>lts<|pq 2 hF rfl fun a hF=>pe<|e_makeSlice hF hW rfl rfl Tryz.underlying44 inf_41 rfl rfl Om (by unfold maxLen;omega) rfl rfl fun b4 a wc hF hW=>pv hF hW (y_build hF rfl (fun w=>bu_CertF_46_0 _ _ _ w)) fun a hF=>pe<|e_alloc hF hW ze_46 rfl rfl rfl fun b5 a wc hF hW=>?_;refine pe<|e_storeAll rfl hF hW rfl rfl 0 rfl rfl rfl Kr sz_46 fun wc hW=>l_nil ?_;replace hF:=hF.ks [0,1,2,3,4,5,6,7,8,9,11,12,23] rfl;refine t_n<|c_s<|c_sr<|pq 3 hF rfl fun a hF=>l_nil<|t_n<|wp_block ?_;replace hW:=hW.nil_bunch x.parts.length;replace hW:=hW.front 2 rfl rfl;replace hW:=hW.cast 0 _ rfl (ir_rep x.parts.length);refine c_loop (G:=Nat×List IR) (fun⟨k,qs⟩=>[(39,.int .i64 (k:Int))]) (fun⟨k,qs⟩=>[.blk b4 41 (qs.map IR.val),.bunch (qs.map IR.row)]) (fun⟨k,qs⟩=>k≤x.parts.length∧Clean x.chans x.parts.length P k 0∧GraphIs x.parts.length (gAt x.chans x.parts.length k 0) qs) (fun⟨k,qs⟩=>x.parts.length - k) (0,List.replicate x.parts.length IR0) (hF.ks [0,1,2,3,4,8,9,11,12,23,38] rfl) (Fr.cons hF (t:=39) rfl Rg (Fr.nil hF)) (hW) ?_ ?_
  exact⟨by omega,clean0,gAt_start (graph_nil _)⟩
  clear hF hW
  try clear a
  intro gq a wc hC hF hW
  obtain⟨k,qs⟩:=gq
  dsimp only at hC
  obtain⟨hkl,hcl,hg⟩:=hC
  refine c_sr<|pq 1 hF rfl fun a hF=>?_;refine Fr.splitD hF (fun h6 hF=>?_) (fun h6 hF=>?_);refine l_nil<|t_n<|c_s<|c_t hF rfl<|wp_skip<|t_n<|c_s<|wp_block<|c_sr<|pq 2 hF rfl fun a hF=>l_nil<|t_n ?_
  have hkn:k<x.parts.length:=Om
  have hkD:k<D.length:=Om
  have hDk:=hD.each k hkn
  refine c_sr<|pq 2 hF rfl fun a hF=>pv hF hW (y_indexS hF rfl rfl (by exact hkn) Tryz.underlying99 sz_105 (fun w h=>(h.res 4 rfl)|> fun h=>hDl▸h.row)) fun a hF=>pv hF hW (y_loadRow hF rfl (fun w h=>(h.res 4 rfl)|> fun h=>hDl▸h.row) (by exact hkn) rfl Tryz.underlying105 rfl) fun a hF=>?_;replace hF:=Fr.cast (v':=.slice (D.getD k BR0).a (D.getD k BR0).l.length (D.getD k BR0).k) Rl hF;refine pq 1 hF rfl fun a hF=>?_;replace hF:=Fr.cast (v':=.int .i64 (x.parts.length:Int)) (by rw[hDk]) hF;refine pq 1 hF rfl fun a hF=>l_nil<|t_n<|wp_block ?_;replace hW:=hW.fs [1,1] rfl;refine c_loop (G:=Nat×List IR) (fun⟨j,zs⟩=>[(47,.int .i64 (j:Int))]) (fun⟨j,zs⟩=>[.blk b4 41 (zs.map IR.val),.bunch (zs.map IR.row)]) (fun⟨j,zs⟩=>j≤x.parts.length∧Clean x.chans x.parts.length P k j∧GraphIs x.parts.length (gAt x.chans x.parts.length k j) zs) (fun⟨j,zs⟩=>x.parts.length - j) (0,qs) (hF.ks [0,1,2,3,4,8,9,11,12,13,23,38,39,40,45,46] rfl) (Fr.cons hF (t:=47) rfl Rg (Fr.nil hF)) (hW) ?_ ?_
  exact⟨by omega,hcl,hg⟩
  clear hF hW
  try clear a
  intro gq a wc hC hF hW
  obtain⟨j,zs⟩:=gq
  dsimp only at hC
  obtain⟨hjl,hcl2,hg2⟩:=hC
  refine c_sr<|pq 1 hF rfl fun a hF=>?_;refine Fr.splitD hF (fun h7 hF=>?_) (fun h7 hF=>?_);refine l_nil<|t_n<|c_s<|c_t hF rfl<|wp_skip<|t_n<|c_s<|wp_block ?_
  have hjn:j<x.parts.length:=Om
  have hjD:j<(D.getD k BR0).l.length:=Om
  have hval:=hD.val k j hkn hjn
  refine c_sr<|pq 1 hF rfl fun a hF=>pv hF hW (y_indexS hF rfl rfl (by exact hjD) Tryz.underlying105 sz_4 (fun w h=>(h.res 4 rfl).inner (k:=k) hkD)) fun a hF=>pv hF hW (y_loadRow hF rfl (fun w h=>(h.res 4 rfl).inner (k:=k) hkD) (by exact hjD) rfl Tryz.underlying4 rfl) fun a hF=>?_;replace hF:=Fr.cast (v':=.bool (rch x.chans x.parts.length k j)) (by rw[hval]) hF;refine Fr.splitB hF (fun h8 hF=>?_) (fun h8 hF=>?_);refine pq 2 hF rfl fun a hF=>l_nil<|t_n<|c_s<|c_sr<|pq 2 hF rfl fun a hF=>l_nil<|t_n<|c_f hF rfl<|wp_skip<|t_n<|c_s<|c_sr<|pq 3 hF rfl fun a hF=>pe<|e_callK hF hW rfl rfl en_41 Rl (may_any (hW.cmap 3 rfl) hMo k j) fun a w1 hW hF=>?_;refine Fr.splitB hF (fun h9 hF=>?_) (fun h9 hF=>?_);refine pq 1 hF rfl fun a hF=>l_nil<|t_n<|c_f hF rfl<|wp_skip<|t_n ?_
  have hzl:=hg2.len
  obtain⟨q1,⟨ql,qa,qk⟩,q2,hzs,hq1⟩:∃q1 q q2,zs=q1++q::q2∧q1.length=j:=⟨zs.take j,zs[j]'Om,zs.drop (j+1),by rw[←List.drop_eq_getElem_cons,List.take_append_drop],by rw[List.length_take];omega⟩
  rw[hzs] at hzl hg2 hW
  have hva:((q1++IR.mk ql qa qk::q2).map IR.val)[j*1]?=some (.slice qa ql.length qk):=(by subst hq1;simp[IR.val])
  have hvl:((q1++IR.mk ql qa qk::q2).map IR.val).length=x.parts.length:=(by rw[List.length_map];exact hzl)
  have hql:ql.length≤4:=(by have h1:=hg2.get hjn;rw[show(q1++IR.mk ql qa qk::q2).getD j IR0=IR.mk ql qa qk by subst hq1;simp[List.getD]] at h1;rw[show ql=_ from h1];exact Nat.le_trans (tl_len _ _) hp2)
  replace hW:=(hW.front 1 rfl rfl).bunch_open;refine c_d mixed_ok hW ((hW.ds [0,0,0,0] rfl)) ?_
  clear hW;intro wc hW hS
  refine dq 1 [0] hF hS rfl fun a hF=>dv 1 rfl hF hS (y_loadOwn hF rfl 0 rfl rfl Tryz.underlying44 rfl) fun a hF=>dq 2 [2,3] hF hS rfl fun a hF=>dv 4 rfl hF hS (y_loadOwn hF rfl 0 rfl rfl Tryz.underlying44 rfl) fun a hF=>dq 1 [5] hF hS rfl fun a hF=>dv 6 rfl hF hS (y_indexOwnS hF rfl rfl Od Tryz.underlying44 sz_41) fun a hF=>dq 1 [8] hF hS rfl fun a hF=>?_;refine d_2 7 9 Kr ?_ ?_;refine d_opval rfl hF rfl hW (y_loadOwn hF rfl 3 rfl hva Tryz.underlying41 rfl) rfl rfl fun a hF=>?_;replace hF:=Fr.cast (v':=.slice qa ql.length qk) Rl hF;refine ai (hW.ds [0,0,0,0] rfl) fun hS=>d_1 9 Kr<|d_op rfl rfl<|e_buildSlice hF hW rfl (fun w=>bs_CertF_41_1_0 _ w) rfl rfl rfl fun b10 a wc hF hW=>ai (hW.ds [0,0,0,0,0] rfl) fun hS=>d_1 10 Kr<|d_op rfl rfl<|e_append hF hW 1 rfl rfl rfl Tryz.underlying41 inf_3 rfl Dc (rowAt_blk (hW.blk 0 rfl) 1 1 rfl) Oc (show _=(ql++[(k:Int)]).length by simp) (show _=(ql++[(k:Int)]).map (.int .i64) by simp) Ox Ml rfl rfl fun A11 c12 a wc hF hW=>ai (hW.ds [0,0,0,0,0] rfl) fun hS=>dv 11 rfl hF hS (y_indexOwnS hF rfl rfl Od Tryz.underlying44 sz_41) fun a hF=>d_1 12 Kr ?_;refine d_op rfl rfl (e_store rfl hF hW rfl rfl 4 rfl (by rw[List.getElem?_eq_getElem Om];rfl) rfl sz_41 ?_);intro wc hW
  obtain⟨q',hq'⟩:∃q':IR,q'=IR.mk (ql++[(k:Int)]) A11 c12:=⟨_,rfl⟩
  replace hW:=hW.cast 4 _ rfl (map_set_mid (q':=IR.mk (ql++[(k:Int)]) A11 c12) hq1)
  rw[←hq'] at hW
  replace hW:=((hW.front 3 rfl rfl).front (2+1) rfl rfl).front (1+2) rfl rfl;replace hW:=Wd.bunch_close (q:=q') (by rw[hq'];exact hW);refine ai (hW.ds [0,0,0] rfl) fun hS=>?_;clear hS;refine d_nil Kr ?_;replace hF:=hF.ks [0,1,2,3,4,8,9,11,12,13,14,15,23,38,39,40,45,46,47,48,53,58] rfl;refine b_n<|t_n<|c_r<|pv hF hW (y_add hF rfl rfl (IntWalk.i64_in _ Om)) fun a hF=>pq 1 hF rfl fun a hF=>l_nil ?_;replace hW:=hW.del 1 rfl;replace hW:=hW.fs [7,7,7,7,7,7,6,7] rfl;refine t_n ?_;refine⟨(j+1,q1++q'::q2),?_,?_,?_,?_⟩
  exact⟨by omega,hcl2.step (by unfold badB;rw[(by assumption:mayB P k j=true)];simp),gAt_add hg2 hq1 hjn hkn Am (by rw[hq'])⟩
  first|omega|(dsimp only;omega)
  exact hF.a1 rfl rfl
  exact hW
  refine d_op rfl rfl<|e_buildSlice hF hW rfl (fun w=>bs_CertF_41_1_0 _ w) rfl rfl rfl fun b13 a wc hF hW=>ai (hW.ds [0,0,0,0,0] rfl) fun hS=>d_1 7 Kr<|d_opval rfl hF rfl hW (y_loadOwn hF rfl 4 rfl hva Tryz.underlying41 rfl) rfl rfl fun a hF=>?_;replace hF:=Fr.cast (v':=.slice qa ql.length qk) Rl hF;refine ai (hW.ds [0,0,0,0,0] rfl) fun hS=>d_1 10 Kr<|d_op rfl rfl<|e_append hF hW 1 rfl rfl rfl Tryz.underlying41 inf_3 rfl Dc (rowAt_blk (hW.blk 0 rfl) 1 1 rfl) Oc (show _=(ql++[(k:Int)]).length by simp) (show _=(ql++[(k:Int)]).map (.int .i64) by simp) Ox Ml rfl rfl fun A14 c15 a wc hF hW=>ai (hW.ds [0,0,0,0,0] rfl) fun hS=>dv 11 rfl hF hS (y_indexOwnS hF rfl rfl Od Tryz.underlying44 sz_41) fun a hF=>d_1 12 Kr ?_;refine d_op rfl rfl (e_store rfl hF hW rfl rfl 4 rfl (by rw[List.getElem?_eq_getElem Om];rfl) rfl sz_41 ?_);intro wc hW
  obtain⟨q',hq'⟩:∃q':IR,q'=IR.mk (ql++[(k:Int)]) A14 c15:=⟨_,rfl⟩
  replace hW:=hW.cast 4 _ rfl (map_set_mid (q':=IR.mk (ql++[(k:Int)]) A14 c15) hq1)
  rw[←hq'] at hW
  replace hW:=((hW.front 3 rfl rfl).front (2+1) rfl rfl).front (1+2) rfl rfl;replace hW:=Wd.bunch_close (q:=q') (by rw[hq'];exact hW);refine ai (hW.ds [0,0,0] rfl) fun hS=>?_;clear hS;refine d_nil Kr ?_;replace hF:=hF.ks [0,1,2,3,4,8,9,11,12,13,14,15,23,38,39,40,45,46,47,48,53,58] rfl;refine b_n<|t_n<|c_r<|pv hF hW (y_add hF rfl rfl (IntWalk.i64_in _ Om)) fun a hF=>pq 1 hF rfl fun a hF=>l_nil ?_;replace hW:=hW.del 1 rfl;replace hW:=hW.fs [7,7,7,7,7,7,6,7] rfl;refine t_n ?_;refine⟨(j+1,q1++q'::q2),?_,?_,?_,?_⟩
  exact⟨by omega,hcl2.step (by unfold badB;rw[(by assumption:mayB P k j=true)];simp),gAt_add hg2 hq1 hjn hkn Am (by rw[hq'])⟩
  first|omega|(dsimp only;omega)
  exact hF.a1 rfl rfl
  exact hW
  refine pq 1 hF rfl fun a hF=>l_nil<|t_n<|c_t hF rfl<|c_sr<|pv hF hW (y_loadAll hF rfl 7 rfl Tryz.underlying39 rfl sz_39) fun a hF=>pq 2 hF rfl fun a hF=>?_;refine pe (e_callA hF rfl rfl en_42 Rl (hpa _ hW.below k j hkn hjn) ?_);rintro e w1 ⟨L,A2,c2,rfl,hLp,hb,hr⟩;replace hW:=hW.gotR hb hr;refine⟨_,rfl,fun a hF=>?_⟩;refine pq 7 hF rfl fun a hF=>l_nil ?_;replace hF:=hF.ks [0,1,2,3,4,8,9,11,12,13,14,15,16,23,38,39,40,45,46,47,48,53,58] rfl;refine t_n<|c_sr<|pv hF hW (y_build hF rfl (fun w=>bu_CertF_46_ w)) fun a hF=>pq 1 hF rfl fun a hF=>?_;refine pe<|e_storeAll rfl hF hW rfl rfl 6 rfl rfl rfl Kr sz_46 fun wc hW=>pq 3 hF rfl fun a hF=>l_nil<|t_n<|wp_ret<|t_r<|b_r<|t_r<|t_r<|b_r<|b_r<|t_r<|t_r<|b_r<|t_r<|ret4 Tryz.results11 hF (rv_c hF rfl hW 6 rfl Tryz.underlying46 rfl sz_46) (rv_t hF rfl) (rv_t hF rfl) (rv_t hF rfl) ?_;replace hW:=hW.ds [1,1,1,1,1,1,1,1] rfl
  exact⟨[],none,0,L,A2,c2,false,rfl,fun _=>.inr ⟨rfl,k,j,hkn,hjn,by unfold badB;rw[(by assumption:rch x.chans x.parts.length k j=true),(by assumption:mayB P k j=false)];rfl,hcl2,hLp,rfl⟩,fun h=>absurd rfl h,hW.below,(hW.res_res 0 rfl).mono fun u h=>⟨sets_nil u,h⟩⟩
  refine pq 2 hF rfl fun a hF=>l_nil<|t_n<|c_s<|c_sr<|pq 2 hF rfl fun a hF=>l_nil<|t_n<|c_t hF rfl<|wp_exit<|t_x<|b_h<|t_n<|c_r<|pv hF hW (y_add hF rfl rfl (IntWalk.i64_in _ Om)) fun a hF=>pq 1 hF rfl fun a hF=>l_nil<|t_n ?_;refine⟨(j+1,zs),?_,?_,?_,?_⟩
  exact⟨by omega,hcl2.step (by unfold badB;rw[(by assumption:rch x.chans x.parts.length k j=false)];rfl),gAt_skip hg2 Am⟩
  first|omega|(dsimp only;omega)
  exact hF.a1 rfl rfl
  exact hW
  refine l_nil<|t_n<|c_s<|c_f hF rfl<|wp_exit<|t_x<|t_x<|b_h<|b_n<|t_n<|c_r<|pv hF hW (y_add hF rfl rfl (IntWalk.i64_in _ Om)) fun a hF=>pq 1 hF rfl fun a hF=>l_nil<|t_n ?_;refine⟨(k+1,zs),?_,?_,?_,?_⟩
  exact⟨by omega,hcl2.line Om,gAt_line hg2 Om⟩
  first|omega|(dsimp only;omega)
  exact hF.a1 rfl rfl
  exact hW
  refine l_nil<|t_n<|c_s<|c_f hF rfl<|wp_exit<|t_x<|t_x<|b_h<|t_n<|c_sr<|pv hF hW (y_loadAll hF rfl 2 rfl Tryz.underlying46 rfl sz_46) fun a hF=>pe<|e_storeAll rfl hF hW rfl rfl 5 rfl rfl rfl Kr sz_46 fun wc hW=>pq 3 hF rfl fun a hF=>l_nil<|t_n<|wp_ret<|ret4 Tryz.results11 hF (rv_c hF rfl hW 5 rfl Tryz.underlying46 rfl sz_46) (rv_t hF rfl) (rv_t hF rfl) (rv_t hF rfl) ?_;replace hW:=hW.ds [2,2,2,2,2,2] rfl
  have hlen:=hg.len
  replace hW:=(hW.front 1 rfl rfl).bunch_res (R:=fun q u=>q.At u) (fun q w F h u hu=>Ints.of_own ((Asn.row _ _ _ _ _).loc w u F h hu).1) qs;refine⟨qs,some ⟨b4,0,none⟩,x.parts.length,[],none,0,true,by rw[hlen];rfl,fun _=>.inl ⟨rfl,hcl.all Om,rfl,gAt_done hg Om⟩,fun h=>absurd rfl h,hW.below,(((hW.front 1 rfl rfl).blk_res 0 rfl).res2 fun u h1 h2=>⟨⟨?_,h2⟩,Ints.nil_⟩).res_res 0 rfl⟩
  rw[hlen]
  exact flat_blk h1 hlen.symm (ir_flat qs) (by simp[hlen]) (by unfold maxLen;omega)
 ·unfold CertBack
  generalize certErr x.sys P=E at*
  rw[x.val_eq] at*
  refine enter Tryz.func11 rfl Tryz.ntmps11 rfl fun a hF=>?_
  have hW:=Wd.start w NoB
  refine c_sr<|pe<|e_box hF hW rfl rfl rfl rfl fun b1 a wc hF hW=>pe<|e_box hF hW rfl rfl rfl rfl fun b2 a wc hF hW=>pe<|e_alloc hF hW ze_46 rfl rfl rfl fun b3 a wc hF hW=>pq 3 hF rfl fun a hF=>l_nil<|t_n<|c_s<|c_sr<|pv hF hW (y_loadAll hF rfl 2 rfl Tryz.underlying39 rfl sz_39) fun a hF=>pv hF hW (y_loadAll hF rfl 1 rfl Tryz.underlying27 rfl sz_27) fun a hF=>pe<|e_callK hF hW rfl rfl en_38 Rl (hck _ hW.below) fun a w1 hW hF=>pq 1 hF rfl fun a hF=>lts<|pq 2 hF rfl fun a hF=>?_;refine Fr.splitD hF (fun h4 hF=>?_) (fun h4 hF=>?_);refine l_nil<|t_n<|c_t hF rfl<|c_sr<|pv hF hW (y_build hF rfl (fun w=>bu_CertF_46_ w)) fun a hF=>pq 1 hF rfl fun a hF=>?_;refine pe<|e_storeAll rfl hF hW rfl rfl 0 rfl rfl rfl Kr sz_46 fun wc hW=>pq 3 hF rfl fun a hF=>l_nil<|t_n<|wp_ret<|t_r<|ret4 Tryz.results11 hF (rv_c hF rfl hW 0 rfl Tryz.underlying46 rfl sz_46) (rv_t hF rfl) (rv_t hF rfl) (rv_t hF rfl) ?_
  exact⟨[],none,0,[],none,0,false,rfl,fun h=>absurd h h0,fun _=>⟨rfl,rfl,rfl⟩,hW.below,fun u _=>⟨sets_nil u,Ints.nil_⟩⟩
  exfalso
  exact h4 h0
end Go.Proofs.YtndcjmopebcdgaaGreatDoor
