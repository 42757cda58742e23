/- flow.of: the graph of a system, in memory. -/
import Derived.Test.YtndcjmopebcdgaaGreatDoorFlowPl
import Derived.Test.YtndcjmopebcdgaaGreatDoorSkD
import Derived.Test.YtndcjmopebcdgaaGreatDoorSysB
set_option linter.unusedSimpArgs false
set_option linter.unusedVariables false
namespace Go.Proofs.YtndcjmopebcdgaaGreatDoor
open Go.ChangeShapes Go.WideShapes Go.ChangeAt Go.RowKit
theorem bs_FlowA_41_1_0(x0:Int)(w:World):(Instr.buildSlice 41 1 #[(0,(.int .i64 x0))]).run Tryz.prog w=.ok (.slice (some ⟨w.heap.size,0,none⟩) 1 1) (w.alloc (.cells #[(.int .i64 x0)] 3)):=by kernel_rfl
set_option maxRecDepth 100000
structure IR where
 l:List Int
 a:Option Addr
 k:Nat
def IR.val(q:IR):Value:=.slice q.a q.l.length q.k
def IR.cells(q:IR):List Value:=[q.val]
theorem IR.cells_len(q:IR):q.cells.length=1:=rfl
def IR.At(q:IR)(u:World):Prop:=Ints u (.slice q.a q.l.length q.k) q.l
abbrev IR.row(q:IR):Asn:=.row 3 1 q.val q.l.length (q.l.map (.int .i64))
def IR0:IR:=⟨[],none,0⟩
theorem ir_flat(qs:List IR):qs.map IR.val=qs.flatMap IR.cells:=by
 induction qs with
 |nil=>rfl
 |cons q r ih=>rw[List.map_cons,List.flatMap_cons,ih];rfl
def GraphIs(n:Nat)(g:Nat→Nat→Bool)(qs:List IR):Prop:=qs.map IR.l=(List.range n).map fun a=>tl n (g a)
theorem GraphIs.len{n:Nat}{g:Nat→Nat→Bool}{qs:List IR}(h:GraphIs n g qs):qs.length=n:=by
 have:=congrArg List.length h
 simpa using this
theorem GraphIs.get{n:Nat}{g:Nat→Nat→Bool}{qs:List IR}(h:GraphIs n g qs){a:Nat}(ha:a<n):(qs.getD a IR0).l=tl n (g a):=by
 have:=congrArg (fun r=>r.getD a []) h
 rw[show(qs.map IR.l).getD a []=(qs.getD a IR0).l from getD_map IR.l a IR0] at this
 rw[this]
 simp[List.getD,ha]
theorem list_set_self{α:Type}{l:List α}{i:Nat}{v:α}(h:l[i]?=some v):l.set i v=l:=by
 apply List.ext_getElem?
 intro j
 rw[List.getElem?_set]
 split
 ·rename_i e
  subst e
  rw[if_pos (List.getElem?_eq_some_iff.1 h).1,h]
 ·rfl
theorem set_get{α:Type}{l:List α}{i:Nat}{v:α}(h:i<l.length):(l.set i v)[i]?=some v:=by simp[h]
set_option maxHeartbeats 1000000 in
theorem lead_in{w:World}{X:Nat→Prop}{b3 bg n i:Nat}{b:Int}{T3 TG:TypeId}{vs:List Value}{q:IR}(hW:Wd w X [.blk b3 T3 [.slice (some ⟨bg,0,none⟩) n n],.blk bg TG vs,q.row] w)(hva:vs[i]?=some q.val)(hvl:vs.length=n)(ha:i<n)(hq:q.l.length≤1024):
  Calls Tryz.prog 126 #[.int .i64 (i:Int),.int .i64 b,.pointer (some ⟨b3,0,none⟩)] w fun e w'=>∃q':IR,e=.returned (.tuple #[])∧q'.l=ins b q.l∧Wd w X [.blk b3 T3 [.slice (some ⟨bg,0,none⟩) n n],.blk bg TG (vs.set i q'.val),q'.row] w':=by
 obtain⟨l,A,c⟩:=q
 dsimp only[IR.row,IR.val] at*
 have hv1:vs[i*1]?=some (.slice A l.length c):=by rw[Nat.mul_one];exact hva
 refine enter Tryz.func126 rfl Tryz.ntmps126 rfl fun a hF=>c_sr<|pv hF hW (y_loadOwn hF rfl 0 rfl rfl Tryz.underlying169 rfl) fun a hF=>pq 1 hF rfl fun a hF=>pv hF hW (y_indexOwnS hF rfl rfl Od Tryz.underlying169 sz_41) fun a hF=>pv hF hW (y_loadOwn hF rfl 1 rfl hv1 Tryz.underlying41 rfl) fun a hF=>?_;replace hF:=Fr.cast (v':=.slice A l.length c) Rl hF;refine pq 1 hF rfl fun a hF=>pe<|e_callK hF hW rfl rfl en_127 Rl (contains_any (ints_row (hW.row 2 rfl) rfl) _) fun a w1 hW hF=>?_;refine Fr.splitB hF (fun h1 hF=>?_) (fun h1 hF=>?_);refine pq 1 hF rfl fun a hF=>l_nil<|t_n<|c_f hF rfl<|wp_skip<|end0 Tryz.results126 hF ?_;refine⟨⟨l,A,c⟩,rfl,(if_pos (of_decide_eq_true Am)).symm,?_⟩
 dsimp only[IR.row,IR.val]
 rw[list_set_self hva]
 exact hW
 refine pq 1 hF rfl fun a hF=>l_nil<|t_n<|c_t hF rfl<|c_sd mixed_ok hW ((hW.ds [1,1] rfl)) ?_
 clear hW;intro wc hW hS
 refine dv 0 rfl hF hS (y_loadOwn hF rfl 0 rfl rfl Tryz.underlying169 rfl) fun a hF=>dq 1 [1] hF hS rfl fun a hF=>dv 2 rfl hF hS (y_loadOwn hF rfl 0 rfl rfl Tryz.underlying169 rfl) fun a hF=>dq 1 [3] hF hS rfl fun a hF=>dv 4 rfl hF hS (y_indexOwnS hF rfl rfl Od Tryz.underlying169 sz_41) fun a hF=>dq 1 [6] hF hS rfl fun a hF=>?_;refine d_2 5 7 Kr ?_ ?_;refine d_opval rfl hF rfl hW (y_loadOwn hF rfl 1 rfl hv1 Tryz.underlying41 rfl) rfl rfl fun a hF=>?_;replace hF:=Fr.cast (v':=.slice A l.length c) Rl hF;refine ai (hW.ds [1,1] rfl) fun hS=>d_1 7 Kr<|d_op rfl rfl<|e_buildSlice hF hW rfl (fun w=>bs_FlowA_41_1_0 _ w) rfl rfl rfl fun b2 a wc hF hW=>ai (hW.ds [0,1,1] rfl) fun hS=>d_1 8 Kr<|d_op rfl rfl<|e_append hF hW 3 rfl rfl rfl Tryz.underlying41 inf_3 rfl Dc (rowAt_blk (hW.blk 0 rfl) 1 1 rfl) Oc (show _=l.length+1 by omega) (show _=(l++[b]).map (.int .i64) by simp) Ox Ml rfl rfl fun A3 c4 a wc hF hW=>ai (hW.ds [0,1,1] rfl) fun hS=>dv 9 rfl hF hS (y_indexOwnS hF rfl rfl Od Tryz.underlying169 sz_41) fun a hF=>d_1 10 Kr ?_;refine d_op rfl rfl (e_store rfl hF hW rfl rfl 2 rfl (by rw[List.getElem?_eq_getElem Om];rfl) rfl sz_41 ?_);intro wc hW;refine ai (hW.ds [0,1,1] rfl) fun hS=>?_;clear hS;refine d_nil Kr ?_;replace hF:=hF.ks [0,1,2,11] rfl;refine t_n<|c_r<|pv hF hW (y_loadOwn hF rfl 1 rfl rfl Tryz.underlying169 rfl) fun a hF=>pq 1 hF rfl fun a hF=>pv hF hW (y_indexOwnS hF rfl rfl Od Tryz.underlying169 sz_41) fun a hF=>pv hF hW (y_loadOwn hF rfl 2 rfl (set_get Om) Tryz.underlying41 rfl) fun a hF=>?_;replace hF:=Fr.cast (v':=.slice A3 (l.length+1) c4) Rl hF;refine pe (e_callA hF rfl rfl en_128 Rl (sort_own hW 3 Om rfl) ?_);rintro e w1 ⟨rfl,hW⟩;refine⟨_,rfl,fun a hF=>?_⟩;refine l_nil<|end0 Tryz.results126 hF ?_;replace hW:=hW.del 0 rfl;refine⟨⟨sorted (l++[b]),A3,c4⟩,rfl,(if_neg (of_decide_eq_false Am)).symm,?_⟩
 dsimp only[IR.row,IR.val]
 rw[sorted_len,List.length_append,←Nat.mul_one i]
 exact hW
 refine d_op rfl rfl<|e_buildSlice hF hW rfl (fun w=>bs_FlowA_41_1_0 _ w) rfl rfl rfl fun b5 a wc hF hW=>ai (hW.ds [0,1,1] rfl) fun hS=>d_1 5 Kr<|d_opval rfl hF rfl hW (y_loadOwn hF rfl 2 rfl hv1 Tryz.underlying41 rfl) rfl rfl fun a hF=>?_;replace hF:=Fr.cast (v':=.slice A l.length c) Rl hF;refine ai (hW.ds [0,1,1] rfl) fun hS=>d_1 8 Kr<|d_op rfl rfl<|e_append hF hW 3 rfl rfl rfl Tryz.underlying41 inf_3 rfl Dc (rowAt_blk (hW.blk 0 rfl) 1 1 rfl) Oc (show _=l.length+1 by omega) (show _=(l++[b]).map (.int .i64) by simp) Ox Ml rfl rfl fun A6 c7 a wc hF hW=>ai (hW.ds [0,1,1] rfl) fun hS=>dv 9 rfl hF hS (y_indexOwnS hF rfl rfl Od Tryz.underlying169 sz_41) fun a hF=>d_1 10 Kr ?_;refine d_op rfl rfl (e_store rfl hF hW rfl rfl 2 rfl (by rw[List.getElem?_eq_getElem Om];rfl) rfl sz_41 ?_);intro wc hW;refine ai (hW.ds [0,1,1] rfl) fun hS=>?_;clear hS;refine d_nil Kr ?_;replace hF:=hF.ks [0,1,2,11] rfl;refine t_n<|c_r<|pv hF hW (y_loadOwn hF rfl 1 rfl rfl Tryz.underlying169 rfl) fun a hF=>pq 1 hF rfl fun a hF=>pv hF hW (y_indexOwnS hF rfl rfl Od Tryz.underlying169 sz_41) fun a hF=>pv hF hW (y_loadOwn hF rfl 2 rfl (set_get Om) Tryz.underlying41 rfl) fun a hF=>?_;replace hF:=Fr.cast (v':=.slice A6 (l.length+1) c7) Rl hF;refine pe (e_callA hF rfl rfl en_128 Rl (sort_own hW 3 Om rfl) ?_);rintro e w1 ⟨rfl,hW⟩;refine⟨_,rfl,fun a hF=>?_⟩;refine l_nil<|end0 Tryz.results126 hF ?_;replace hW:=hW.del 0 rfl;refine⟨⟨sorted (l++[b]),A6,c7⟩,rfl,(if_neg (of_decide_eq_false Am)).symm,?_⟩
 dsimp only[IR.row,IR.val]
 rw[sorted_len,List.length_append,←Nat.mul_one i]
 exact hW
theorem graph_set{n:Nat}{g:Nat→Nat→Bool}{q1 q2:List IR}{q q':IR}{b:Nat}(h:GraphIs n g (q1++q::q2))(hb:b<n)(hl:q'.l=ins (b:Int) q.l):GraphIs n (fun x y=>g x y||(x==q1.length&&y==b)) (q1++q'::q2):=by
 have hlen:=h.len
 refine list_eq_getD [] (by simpa using hlen) fun k hk=>?_
 have hk:k<n:=by simp at hk hlen;omega
 have hg:=h.get hk
 rw[show((q1++q'::q2).map IR.l).getD k []=((q1++q'::q2).getD k IR0).l from getD_map IR.l k IR0]
 rw[show((List.range n).map fun a=>tl n (fun y=>g a y||(a==q1.length&&y==b))).getD k []=tl n (fun y=>g k y||(k==q1.length&&y==b)) by simp[List.getD,hk]]
 by_cases e:k=q1.length
 ·subst e
  have e1:(q1++q'::q2).getD q1.length IR0=q':=by simp[List.getD]
  have e2:(q1++q::q2).getD q1.length IR0=q:=by simp[List.getD]
  rw[e2] at hg
  rw[e1,hl,hg,ins_tl hb]
  congr 1
  funext y
  simp
 ·have e1:(q1++q'::q2).getD k IR0=(q1++q::q2).getD k IR0:=by
   rcases Nat.lt_or_ge k q1.length with h3|h3
   ·simp only[List.getD,List.getElem?_append_left h3]
   ·obtain⟨j,rfl⟩:∃j,k=q1.length+(j+1):=⟨k - q1.length - 1,by omega⟩
    simp only[List.getD,List.getElem?_append_right (Nat.le_add_right _ _),Nat.add_sub_cancel_left,List.getElem?_cons_succ]
  rw[e1,hg]
  congr 1
  funext y
  simp[e]
theorem lead_call{w0 w:World}{es:List Asn}{b3 bg n i b:Nat}{T3 TG:TypeId}{qs:List IR}{g:Nat→Nat→Bool}(hW:Wd w0 NoB (.blk b3 T3 [.slice (some ⟨bg,0,none⟩) n n]::.blk bg TG (qs.map IR.val)::.bunch (qs.map IR.row)::es) w)(hg:GraphIs n g qs)(hi:i<n)(hb:b<n)(hn:n≤1024):
  Calls Tryz.prog 126 #[.int .i64 (i:Int),.int .i64 (b:Int),.pointer (some ⟨b3,0,none⟩)] w fun e w'=>∃qs':List IR,e=.returned (.tuple #[])∧GraphIs n (fun x y=>g x y||(x==i&&y==b)) qs'∧
   Wd w0 NoB (.blk b3 T3 [.slice (some ⟨bg,0,none⟩) n n]::.blk bg TG (qs'.map IR.val)::.bunch (qs'.map IR.row)::es) w':=by
 have hlen:=hg.len
 obtain⟨q1,q,q2,rfl,h1⟩:∃q1 q q2,qs=q1++q::q2∧q1.length=i:=⟨qs.take i,qs[i]'Om,qs.drop (i+1),by rw[←List.drop_eq_getElem_cons,List.take_append_drop],by rw[List.length_take];omega⟩
 subst h1
 have hql:=hg.get hi
 have e2:(q1++q::q2).getD q1.length IR0=q:=by simp[List.getD]
 rw[e2] at hql
 have hq:q.l.length≤1024:=by rw[hql];have:=tl_len n (g q1.length);omega
 have hset:∀q':IR,((q1++q::q2).map IR.val).set q1.length q'.val=(q1++q'::q2).map IR.val:=fun q'=>by
  rw[List.map_append,List.map_cons,List.map_append,List.map_cons,List.set_append_right _ _ Si]
  simp
 have hva:((q1++q::q2).map IR.val)[q1.length]?=some q.val:=by simp
 have hvl:((q1++q::q2).map IR.val).length=n:=by simpa using hlen
 have k1:=(hW.front 2 rfl rfl).unbunch
 generalize (q1++q::q2).map IR.val=vs at*
 have k2:=Wd.fwd (A:=q.row) (l1:=q1.map IR.row) (l2:=q2.map IR.row++.blk b3 T3 [.slice (some ⟨bg,0,none⟩) n n]::.blk bg TG vs::es) (by simpa using k1)
 have k3:=Wd.fwd (A:=.blk bg TG vs) (l1:=q.row::(q1.map IR.row++q2.map IR.row++[.blk b3 T3 [.slice (some ⟨bg,0,none⟩) n n]])) (l2:=es) (by simpa using k2)
 have k4':=Wd.fwd (A:=.blk b3 T3 [.slice (some ⟨bg,0,none⟩) n n]) (l1:=.blk bg TG vs::q.row::(q1.map IR.row++q2.map IR.row)) (l2:=es) (by simpa using k3)
 have k4:Wd w0 NoB ([.blk b3 T3 [.slice (some ⟨bg,0,none⟩) n n],.blk bg TG vs,q.row]++(q1.map IR.row++q2.map IR.row++es)) w:=k4'
 obtain⟨X,hL,-,hback⟩:=Wd.lend _ k4
 refine(lead_in (b:=(b:Int)) hL hva hvl hi hq).mono fun e w' ⟨q',he,hl,hN⟩=>?_
 refine⟨q1++q'::q2,he,graph_set hg hb hl,?_⟩
 have j1:=hback _ _ hN
 rw[hset q'] at j1
 have j2:=Wd.back (A:=.blk b3 T3 [.slice (some ⟨bg,0,none⟩) n n]) (l1:=[.blk bg TG ((q1++q'::q2).map IR.val),q'.row]++(q1.map IR.row++q2.map IR.row)) (l2:=es) (by simpa using j1)
 have j3:=Wd.back (A:=.blk bg TG ((q1++q'::q2).map IR.val)) (l1:=q'.row::(q1.map IR.row++q2.map IR.row)) (l2:=.blk b3 T3 [.slice (some ⟨bg,0,none⟩) n n]::es) (by simpa using j2)
 have j4:=Wd.back (A:=q'.row) (l1:=q1.map IR.row) (l2:=q2.map IR.row++.blk bg TG ((q1++q'::q2).map IR.val)::.blk b3 T3 [.slice (some ⟨bg,0,none⟩) n n]::es) (by simpa using j3)
 have j5:=Wd.bunch ((q1++q'::q2).map IR.row) (es:=.blk bg TG ((q1++q'::q2).map IR.val)::.blk b3 T3 [.slice (some ⟨bg,0,none⟩) n n]::es) (by simpa using j4)
 exact(j5.front 1 rfl rfl).front 2 rfl rfl
theorem Wd.nil_bunch{w0 w:World}{X:Nat→Prop}{es:List Asn}(hW:Wd w0 X es w)(n:Nat):Wd w0 X (.bunch ((List.replicate n IR0).map IR.row)::es) w:=by
 refine hW.add (F:=fun _=>False) (Below.refl _ _) ?_ fun _ hk=>hk.elim
 show Own w _ _
 generalize (fun k=>¬(fun _:Nat=>False) k)=G
 induction n generalizing G with
 |zero=>exact trivial
 |succ n ih=>exact⟨fun _=>False,⟨World.ownsRow_nil _ _ _ _,fun k hk=>by cases hk⟩,fun _ hk=>hk.elim,ih _⟩
theorem graph0(n:Nat):GraphIs n (leadsB []) (List.replicate n IR0):=by
 unfold GraphIs
 refine List.ext_getElem Si fun k h1 h2=>?_
 simp[IR0,tl,leadsB]
theorem edge_eq{kd:Int}{f t x y:Nat}:edgeB ⟨kd,f,t⟩ x y=((x==f&&y==t)||(kd==2&&(x==t&&y==f))):=by
 unfold edgeB
 have e1:((f:Int)==(x:Int))=(x==f):=by rw[Bool.eq_iff_iff];simp;omega
 have e2:((t:Int)==(y:Int))=(y==t):=by rw[Bool.eq_iff_iff];simp;omega
 have e3:((f:Int)==(y:Int))=(y==f):=by rw[Bool.eq_iff_iff];simp;omega
 have e4:((t:Int)==(x:Int))=(x==t):=by rw[Bool.eq_iff_iff];simp;omega
 simp only[e1,e2,e3,e4,Bool.and_comm]
theorem graph_next{n:Nat}{cs:List Chn}{k:Nat}{qs:List IR}{kd:Int}{f t:Nat}(hk:k<cs.length)(hz:cs.getD k C0=⟨kd,f,t⟩)(h2:kd≠2)(h:GraphIs n (fun x y=>leadsB (cs.take k) x y||(x==f&&y==t)) qs):GraphIs n (leadsB (cs.take (k+1))) qs:=by
 have e:leadsB (cs.take (k+1))=fun x y=>leadsB (cs.take k) x y||(x==f&&y==t):=by
  funext x y
  rw[leads_snoc hk,hz,edge_eq,show(kd==2)=false from by simpa using h2,Bool.false_and,Bool.or_false]
 rw[e]
 exact h
theorem graph_next2{n:Nat}{cs:List Chn}{k:Nat}{qs:List IR}{kd:Int}{f t:Nat}(hk:k<cs.length)(hz:cs.getD k C0=⟨kd,f,t⟩)(h2:kd=2)(h:GraphIs n (fun x y=>(leadsB (cs.take k) x y||(x==f&&y==t))||(x==t&&y==f)) qs):GraphIs n (leadsB (cs.take (k+1))) qs:=by
 have e:leadsB (cs.take (k+1))=fun x y=>(leadsB (cs.take k) x y||(x==f&&y==t))||(x==t&&y==f):=by
  funext x y
  rw[leads_snoc hk,hz,edge_eq]
  simp[h2,Bool.or_assoc]
 rw[e]
 exact h
def GraphBack(w:World)(x:SysD)(e:Ending)(w':World):Prop:=∃(qs:List IR) (A:Option Addr),e=.returned (.slice A x.parts.length x.parts.length)∧GraphIs x.parts.length (leadsB x.chans) qs∧Below w.heap.size w w'∧
 OwnRes w w' (fun u=>Flat IR.cells 1 u (.slice A x.parts.length x.parts.length) qs∧∀q,q∈qs→q.At u)
theorem ir_rep(n:Nat):(List.replicate n [Value.slice none 0 0]).flatten=(List.replicate n IR0).map IR.val:=by
 induction n with
 |zero=>rfl
 |succ n ih=>rw[List.replicate_succ,List.replicate_succ,List.flatten_cons,List.map_cons,ih];rfl
set_option maxHeartbeats 2000000 in
theorem flowOf_any{x:SysD}{w:World}(hx:x.At w)(hk:chkSys x.sys=0):Calls Tryz.prog 83 #[x.val] w (GraphBack w x):=by
 obtain⟨⟨hp1,hp2⟩,hc6,-⟩:=sizes_get (chkSys_zero hk).1
 have hcn:=fun k (h:k<x.chans.length)=>List.all_eq_true.1 (chkSys_zero hk).2.2.2.1 _ (mem_getD (l:=x.chans) C0 h)
 rw[x.val_eq]
 refine enter Tryz.func83 rfl Tryz.ntmps83 rfl fun a hF=>?_
 have hW:=Wd.start w NoB
 refine c_sr<|pe<|e_box hF hW rfl rfl rfl rfl fun b1 a wc hF hW=>pq 1 hF rfl fun a hF=>lts<|pq 1 hF rfl fun a hF=>pv hF hW (y_loadOwn hF rfl 0 rfl rfl Tryz.underlying35 rfl) fun a hF=>pq 1 hF rfl fun a hF=>pe<|e_makeSlice hF hW rfl rfl Tryz.underlying169 inf_41 rfl rfl Om (by unfold maxLen;omega) rfl rfl fun b2 a wc hF hW=>pe<|e_alloc hF hW ze_169 rfl rfl rfl fun b3 a wc hF hW=>pe<|e_store rfl hF hW rfl rfl 0 rfl rfl rfl sz_169 fun wc hW=>lts<|pv hF hW (y_makeFunc hF rfl) fun a hF=>pq 1 hF rfl fun a hF=>l_nil<|t_n<|c_s<|c_sr<|pq 1 hF rfl fun a hF=>pv hF hW (y_loadOwn hF rfl 2 rfl rfl Tryz.underlying36 rfl) fun a hF=>pq 2 hF rfl fun a hF=>l_nil<|t_n<|wp_block ?_;replace hW:=hW.nil_bunch x.parts.length;replace hW:=hW.fs [2,2] rfl;replace hW:=hW.cast 1 _ rfl (ir_rep x.parts.length);refine c_loop (G:=Nat×List IR) (fun⟨k,qs⟩=>[(15,.int .i64 (k:Int))]) (fun⟨k,qs⟩=>[.blk b3 169 [.slice (some ⟨b2,0,none⟩) x.parts.length x.parts.length],.blk b2 41 (qs.map IR.val),.bunch (qs.map IR.row)]) (fun⟨k,qs⟩=>k≤x.chans.length∧GraphIs x.parts.length (leadsB (x.chans.take k)) qs) (fun⟨k,qs⟩=>x.chans.length - k) (0,List.replicate x.parts.length IR0) (hF.ks [0,1,2,3,4,13,14] rfl) (Fr.cons hF (t:=15) rfl Rg (Fr.nil hF)) (hW) ?_ ?_
 exact⟨by omega,graph0 _⟩
 clear hF hW
 try clear a
 intro gq a wc hC hF hW
 obtain⟨k,qs⟩:=gq
 dsimp only at hC
 obtain⟨hkc,hg⟩:=hC
 refine c_sr<|pq 1 hF rfl fun a hF=>?_;refine Fr.splitD hF (fun h4 hF=>?_) (fun h4 hF=>?_);refine l_nil<|t_n<|c_s<|c_t hF rfl<|wp_skip<|t_n<|c_s<|wp_block ?_
 have hcn':=hcn k Om
 obtain⟨z,hz⟩:∃q,x.chans.getD k C0=q:=⟨_,rfl⟩
 rw[hz] at hcn'
 obtain⟨kd,f,t⟩:=z
 simp only[chnOk,partOk,SysD.sys,List.length_map,Bool.and_eq_true,decide_eq_true_eq] at hcn'
 obtain⟨f,rfl⟩:=Int.eq_ofNat_of_zero_le hcn'.1.1
 obtain⟨t,rfl⟩:=Int.eq_ofNat_of_zero_le hcn'.2.1.1
 have hf1:f<x.parts.length:=Om
 have ht1:t<x.parts.length:=Om
 refine c_sr<|pv hF hW (y_indexS hF rfl rfl Od Tryz.underlying36 sz_121 (fun w h=>(hx.chansR).wd h)) fun a hF=>pv hF hW (y_loadRowW hF rfl (fun w h=>(hx.chansR).wd h) Od Tryz.underlying121 rfl (by rw[hz];exact sz_121)) fun a hF=>?_;replace hF:=Fr.cast (v':=.agg #[.int .i64 kd,.int .i64 (f:Int),.int .i64 (t:Int)]) (by rw[hz];rfl) hF;refine pe<|e_alloc hF hW ze_121 rfl rfl rfl fun b5 a wc hF hW=>pe<|e_storeAll rfl hF hW rfl rfl 0 rfl rfl rfl Kr sz_121 fun wc hW=>lts<|pq 2 hF rfl fun a hF=>pv hF hW (y_loadOwn hF rfl 0 rfl rfl Tryz.underlying3 rfl) fun a hF=>pq 1 hF rfl fun a hF=>pv hF hW (y_loadOwn hF rfl 0 rfl rfl Tryz.underlying3 rfl) fun a hF=>?_;refine pe (e_callA hF rfl rfl en_126 Rl (lead_call (((hW.front 3 rfl rfl).front 3 rfl rfl).front 3 rfl rfl) hg hf1 ht1 Om) ?_);rintro e w1 ⟨qs1,rfl,hg1,hN⟩;replace hW:=hN;refine⟨_,rfl,fun a hF=>?_⟩;refine lts<|pq 1 hF rfl fun a hF=>pv hF hW (y_loadOwn hF rfl 3 rfl rfl Tryz.underlying3 rfl) fun a hF=>pq 1 hF rfl fun a hF=>?_;refine Fr.splitD hF (fun h6 hF=>?_) (fun h6 hF=>?_);refine l_nil<|t_n<|c_t hF rfl<|c_r<|pq 2 hF rfl fun a hF=>pv hF hW (y_loadOwn hF rfl 3 rfl rfl Tryz.underlying3 rfl) fun a hF=>pq 1 hF rfl fun a hF=>pv hF hW (y_loadOwn hF rfl 3 rfl rfl Tryz.underlying3 rfl) fun a hF=>?_;refine pe (e_callA hF rfl rfl en_126 Rl (lead_call hW hg1 ht1 hf1 Om) ?_);rintro e w1 ⟨qs2,rfl,hg2,hN⟩;replace hW:=hN;refine⟨_,rfl,fun a hF=>?_⟩;refine l_nil ?_;replace hF:=hF.ks [0,1,2,3,4,6,13,14,15,16,27] rfl;refine b_n<|t_n<|c_r<|pv hF hW (y_add hF rfl rfl (IntWalk.i64_in _ Om)) fun a hF=>pq 1 hF rfl fun a hF=>l_nil ?_;replace hW:=hW.del 3 rfl;refine t_n ?_;refine⟨(k+1,qs2),?_,?_,?_,?_⟩
 exact⟨by omega,graph_next2 Om hz Am hg2⟩
 first|omega|(dsimp only;omega)
 exact hF.a1 rfl rfl
 exact hW
 refine l_nil<|t_n<|c_f hF rfl<|wp_skip<|b_n<|t_n<|c_r<|pv hF hW (y_add hF rfl rfl (IntWalk.i64_in _ Om)) fun a hF=>pq 1 hF rfl fun a hF=>l_nil ?_;replace hW:=hW.del 3 rfl;refine t_n ?_;refine⟨(k+1,qs1),?_,?_,?_,?_⟩
 exact⟨by omega,graph_next Om hz Am hg1⟩
 first|omega|(dsimp only;omega)
 exact hF.a1 rfl rfl
 exact hW
 refine l_nil<|t_n<|c_s<|c_f hF rfl<|wp_exit<|t_x<|t_x<|b_h<|t_n<|c_sr<|pv hF hW (y_loadOwn hF rfl 0 rfl rfl Tryz.underlying169 rfl) fun a hF=>pq 1 hF rfl fun a hF=>l_nil<|t_n<|wp_ret<|ret1 Tryz.results83 hF (rv_t hF rfl) ?_;replace hW:=hW.ds [0,2] rfl
 obtain rfl:k=x.chans.length:=Om
 rw[List.take_of_length_le (Nat.le_refl _)] at hg
 have hlen:=hg.len
 replace hW:=(hW.front 1 rfl rfl).bunch_res (R:=fun q u=>q.At u) (fun q w F h u hu=>Ints.of_own ((Asn.row _ _ _ _ _).loc w u F h hu).1) qs;refine⟨qs,_,rfl,hg,hW.below,(((hW.front 1 rfl rfl).blk_res 0 rfl).res2 fun u h1 h2=>⟨?_,h2⟩).res_res 0 rfl⟩
 exact flat_blk h1 hlen.symm (ir_flat qs) (by simp[hlen]) (by unfold maxLen;omega)
end Go.Proofs.YtndcjmopebcdgaaGreatDoor
