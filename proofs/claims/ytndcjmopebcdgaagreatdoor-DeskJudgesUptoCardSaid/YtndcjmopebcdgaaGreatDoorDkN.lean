/- cert.order: how edges are ordered. cert.Check: what its OK says. flow.Edges. The reference's EdgesOf and PathOf. -/
import Derived.Test.YtndcjmopebcdgaaGreatDoorTys
import Derived.Test.YtndcjmopebcdgaaGreatDoorConfD1
import Derived.Test.YtndcjmopebcdgaaGreatDoorFlowA
import Derived.Test.YtndcjmopebcdgaaGreatDoorPathPl
import Derived.Test.YtndcjmopebcdgaaGreatDoorDkM
set_option linter.unusedSimpArgs false
set_option linter.unusedVariables false
namespace Go.Proofs.YtndcjmopebcdgaaGreatDoor
section
open Go.ChangeShapes Go.WideShapes Go.ChangeAt Go.RowKit
theorem bs_CertA_41_2_0_1(x0:Int)(x1:Int)(w:World):(Instr.buildSlice 41 2 #[(0,(.int .i64 x0)),(1,(.int .i64 x1))]).run Tryz.prog w=.ok (.slice (some ⟨w.heap.size,0,none⟩) 2 2) (w.alloc (.cells #[(.int .i64 x0),(.int .i64 x1)] 3)):=by kernel_rfl
set_option maxRecDepth 100000
def cmpI(m n:Int):Int:=if m<n then -1 else if n<m then 1 else 0
theorem isNaN_any(m:Int)(w:World):Calls Tryz.prog 80 #[.int .i64 m] w fun e w'=>e=.returned (.bool false)∧Below w.heap.size w w':=by
 refine enter Tryz.func80 rfl Tryz.ntmps80 rfl fun a hF=>?_
 have hW:=Wd.start w NoB
 refine c_sr<|pq 1 hF rfl fun a hF=>lts<|pq 3 hF rfl fun a hF=>?_;refine Fr.splitD hF (fun h1 hF=>?_) (fun h1 hF=>?_);refine pq 1 hF rfl fun a hF=>l_nil<|t_n<|wp_ret<|ret1 Tryz.results80 hF (rv_t hF rfl) ?_
 first|exact⟨rfl,hW.below⟩|(exfalso;omega)
 refine pq 1 hF rfl fun a hF=>l_nil<|t_n<|wp_ret<|ret1 Tryz.results80 hF (rv_t hF rfl) ?_
 first|exact⟨rfl,hW.below⟩|(exfalso;omega)
theorem compare_any(m n:Int)(w:World):Calls Tryz.prog 31 #[.int .i64 m,.int .i64 n] w fun e w'=>e=.returned (.int .i64 (cmpI m n))∧Below w.heap.size w w':=by
 refine enter Tryz.func31 rfl Tryz.ntmps31 rfl fun a hF=>?_
 have hW:=Wd.start w NoB
 refine c_sr<|pq 1 hF rfl fun a hF=>lts<|pq 1 hF rfl fun a hF=>pe<|e_callK hF hW rfl rfl en_80 Rl (isNaN_any _ _) fun a w1 hW hF=>pq 1 hF rfl fun a hF=>lts<|pq 1 hF rfl fun a hF=>pe<|e_callK hF hW rfl rfl en_80 Rl (isNaN_any _ _) fun a w1 hW hF=>pq 1 hF rfl fun a hF=>l_nil<|t_n<|c_s<|c_sr<|pq 1 hF rfl fun a hF=>l_nil<|t_n<|c_f hF rfl<|wp_skip<|t_n<|c_s<|c_sr<|pq 1 hF rfl fun a hF=>l_nil<|t_n<|c_f hF rfl<|wp_skip<|t_n<|c_s<|c_sr<|pq 3 hF rfl fun a hF=>?_;refine Fr.splitD hF (fun h1 hF=>?_) (fun h1 hF=>?_);refine l_nil<|t_n<|c_t hF rfl<|c_sr<|pq 1 hF rfl fun a hF=>l_nil<|t_n<|wp_ret<|t_r<|ret1 Tryz.results31 hF (rv_t hF rfl) ?_
 first
 |exact⟨by rw[show cmpI m n= -1 by unfold cmpI;rw[if_pos Om]],hW.below⟩
 |exact⟨by rw[show cmpI m n=1 by unfold cmpI;rw[if_neg Om,if_pos Om]],hW.below⟩
 |exact⟨by rw[show cmpI m n=0 by unfold cmpI;rw[if_neg Om,if_neg Om]],hW.below⟩
 refine l_nil<|t_n<|c_f hF rfl<|wp_skip<|t_n<|c_s<|c_sr<|pq 3 hF rfl fun a hF=>?_;refine Fr.splitD hF (fun h2 hF=>?_) (fun h2 hF=>?_);refine l_nil<|t_n<|c_t hF rfl<|c_sr<|pq 1 hF rfl fun a hF=>l_nil<|t_n<|wp_ret<|t_r<|ret1 Tryz.results31 hF (rv_t hF rfl) ?_
 first
 |exact⟨by rw[show cmpI m n= -1 by unfold cmpI;rw[if_pos Om]],hW.below⟩
 |exact⟨by rw[show cmpI m n=1 by unfold cmpI;rw[if_neg Om,if_pos Om]],hW.below⟩
 |exact⟨by rw[show cmpI m n=0 by unfold cmpI;rw[if_neg Om,if_neg Om]],hW.below⟩
 refine l_nil<|t_n<|c_f hF rfl<|wp_skip<|t_n<|c_sr<|pq 1 hF rfl fun a hF=>l_nil<|t_n<|wp_ret<|ret1 Tryz.results31 hF (rv_t hF rfl) ?_
 first
 |exact⟨by rw[show cmpI m n= -1 by unfold cmpI;rw[if_pos Om]],hW.below⟩
 |exact⟨by rw[show cmpI m n=1 by unfold cmpI;rw[if_neg Om,if_pos Om]],hW.below⟩
 |exact⟨by rw[show cmpI m n=0 by unfold cmpI;rw[if_neg Om,if_neg Om]],hW.below⟩
def orI(m n:Int):Int:=if m≠0 then m else n
theorem or_two{w:World}{b:Nat}{T:TypeId}{m n:Int}(hB:Blk w b T [.int .i64 m,.int .i64 n]):Calls Tryz.prog 30 #[.slice (some ⟨b,0,none⟩) 2 2] w fun e w'=>e=.returned (.int .i64 (orI m n))∧Below w.heap.size w w':=by
 have hI:RF w (some ⟨b,0,none⟩) 2 1 (fun i=>[.int .i64 ([m,n].getD i 0)]):=by
  obtain⟨A,c,e,_,_,h⟩:=RF.of_ints (ints_blk hB (xs:=[m,n]) rfl rfl (by show 2≤maxLen;decide))
  simp only[Value.slice.injEq] at e
  rw[e.1]
  exact h
 refine enter Tryz.func30 rfl Tryz.ntmps30 rfl fun a hF=>?_
 have hW:=Wd.start w NoB
 refine c_sr<|pq 1 hF rfl fun a hF=>lts<|pq 1 hF rfl fun a hF=>l_nil<|t_n<|c_s<|c_sr<|pq 3 hF rfl fun a hF=>l_nil<|t_n<|wp_block ?_;refine c_loop (G:=Nat) (fun k:Nat=>[(8,.int .i64 (k:Int))]) (fun k:Nat=>[]) (fun k:Nat=>k≤2∧∀i,i<k→[m,n].getD i 0=0) (fun k:Nat=>2 - k) 0 (hF.ks [0,3,6,7] rfl) (Fr.cons hF (t:=8) rfl Rg (Fr.nil hF)) (hW) ?_ ?_
 exact⟨by omega,fun i hi=>by omega⟩
 clear hF hW
 try clear a
 intro k a wc hC hF hW
 obtain⟨hk,hz⟩:=hC
 refine c_sr<|pq 1 hF rfl fun a hF=>?_;refine Fr.splitD hF (fun h1 hF=>?_) (fun h1 hF=>?_);refine l_nil<|t_n<|c_s<|c_t hF rfl<|wp_skip<|t_n<|c_s<|wp_block<|c_sr<|pv hF hW (y_indexS hF rfl rfl Od Tryz.underlying41 sz_3 (fun w h=>(hI).wd h)) fun a hF=>pv hF hW (y_loadRow hF rfl (fun w h=>(hI).wd h) Od rfl Tryz.underlying3 rfl) fun a hF=>pq 1 hF rfl fun a hF=>lts<|pq 3 hF rfl fun a hF=>?_;refine Fr.splitD hF (fun h2 hF=>?_) (fun h2 hF=>?_);refine l_nil<|t_n<|c_t hF rfl<|c_sr<|pq 2 hF rfl fun a hF=>l_nil<|t_n<|wp_ret<|b_r<|t_r<|t_r<|b_r<|t_r<|ret1 Tryz.results30 hF (rv_t hF rfl) ?_
 first
 |(have hk2:k=0∨k=1:=Om;rcases hk2 with rfl|rfl;exact⟨by rw[show orI m n=m from if_pos (by simpa using ‹¬[m,n].getD 0 0=0›)];rfl,hW.below⟩;exact⟨by rw[show orI m n=n from if_neg (by simpa using hz 0 Om)];rfl,hW.below⟩)
 |(have h0:=hz 0 Om;have h1:=hz 1 Om;exact⟨by rw[show orI m n=n from if_neg (by simpa using h0),show n=0 from h1],hW.below⟩)
 refine l_nil<|t_n<|c_f hF rfl<|wp_skip<|b_n<|t_n<|c_r<|pv hF hW (y_add hF rfl rfl (IntWalk.i64_in _ Om)) fun a hF=>pq 1 hF rfl fun a hF=>l_nil<|t_n ?_;refine⟨(k+1),?_,?_,?_,?_⟩
 exact⟨by omega,fun i hi=>by rcases Nat.lt_or_ge i k with h|h;exact hz i h;(have:i=k:=by omega);subst this;omega⟩
 first|omega|(dsimp only;omega)
 exact hF.a1 rfl rfl
 exact hW
 refine l_nil<|t_n<|c_s<|c_f hF rfl<|wp_exit<|t_x<|t_x<|b_h<|t_n<|c_sr<|pq 2 hF rfl fun a hF=>l_nil<|t_n<|wp_ret<|ret1 Tryz.results30 hF (rv_t hF rfl) ?_
 first
 |(have hk2:k=0∨k=1:=Om;rcases hk2 with rfl|rfl;exact⟨by rw[show orI m n=m from if_pos (by simpa using ‹¬[m,n].getD 0 0=0›)];rfl,hW.below⟩;exact⟨by rw[show orI m n=n from if_neg (by simpa using hz 0 Om)];rfl,hW.below⟩)
 |(have h0:=hz 0 Om;have h1:=hz 1 Om;exact⟨by rw[show orI m n=n from if_neg (by simpa using h0),show n=0 from h1],hW.below⟩)
structure Edg where
 from_:Int
 to_:Int
def Edg.cells(e:Edg):List Value:=[.int .i64 e.from_,.int .i64 e.to_]
def orderI(x y:Edg):Int:=orI (cmpI x.from_ y.from_) (cmpI x.to_ y.to_)
theorem order_any(x y:Edg)(w:World):Calls Tryz.prog 82 #[.agg x.cells.toArray,.agg y.cells.toArray] w fun e w'=>e=.returned (.int .i64 (orderI x y))∧Below w.heap.size w w':=by
 obtain⟨xf,xt⟩:=x
 obtain⟨yf,yt⟩:=y
 change Calls _ _ #[.agg #[.int .i64 xf,.int .i64 xt],.agg #[.int .i64 yf,.int .i64 yt]] _ _
 refine enter Tryz.func82 rfl Tryz.ntmps82 rfl fun a hF=>?_
 have hW:=Wd.start w NoB
 refine c_sr<|pe<|e_box hF hW rfl rfl rfl rfl fun b1 a wc hF hW=>pe<|e_box hF hW rfl rfl rfl rfl fun b2 a wc hF hW=>pq 1 hF rfl fun a hF=>l_nil<|t_n<|c_sd mixed_ok hW (hW) ?_
 clear hW;intro wc hW hS
 refine dq 1 [0] hF hS rfl fun a hF=>dv 1 rfl hF hS (y_loadOwn hF rfl 1 rfl rfl Tryz.underlying3 rfl) fun a hF=>dq 1 [2] hF hS rfl fun a hF=>dv 3 rfl hF hS (y_loadOwn hF rfl 0 rfl rfl Tryz.underlying3 rfl) fun a hF=>dq 1 [5] hF hS rfl fun a hF=>dv 6 rfl hF hS (y_loadOwn hF rfl 1 rfl rfl Tryz.underlying3 rfl) fun a hF=>dq 1 [7] hF hS rfl fun a hF=>dv 8 rfl hF hS (y_loadOwn hF rfl 0 rfl rfl Tryz.underlying3 rfl) fun a hF=>d_1 4 Kr<|d_op rfl rfl<|e_callK hF hW rfl rfl en_31 Rl (compare_any _ _ _) fun a w1 hW hF=>ai hW fun hS=>d_1 9 Kr<|d_op rfl rfl<|e_callK hF hW rfl rfl en_31 Rl (compare_any _ _ _) fun a w1 hW hF=>ai hW fun hS=>d_1 10 Kr<|d_op rfl rfl<|e_buildSlice hF hW rfl (fun w=>bs_CertA_41_2_0_1 _ _ w) rfl rfl rfl fun b3 a wc hF hW=>ai (hW.del 0 rfl) fun hS=>d_1 11 Kr<|d_op rfl rfl<|e_callK hF hW rfl rfl en_30 Rl (or_two (hW.blk 0 rfl)) fun a w1 hW hF=>ai (hW.del 0 rfl) fun hS=>dq 1 [12] hF hS rfl fun a hF=>?_;clear hS;refine d_nil Kr<|t_n<|wp_ret<|ret1 Tryz.results82 hF (rv_t hF rfl) ?_
 exact⟨rfl,hW.below⟩
end
section
open Go.ChangeShapes Go.WideShapes Go.ChangeAt Go.RowKit
set_option maxRecDepth 100000
def E0:Edg:=⟨0,0⟩
theorem Edg.cells_len(e:Edg):e.cells.length=2:=rfl
def May_(w:World)(A:Option Addr)(c:Nat)(l:List Edg):Prop:=Flat Edg.cells 2 w (.slice A l.length c) l
end
section
open Go.ChangeShapes Go.WideShapes Go.ChangeAt Go.RowKit
set_option maxRecDepth 100000
theorem irRF{q:IR}{w:World}(h:q.At w):RF w q.a q.l.length 1 (fun i=>[.int .i64 (q.l.getD i 0)]):=by
 obtain⟨A,c,e,_,_,h⟩:=RF.of_ints (show Ints w (.slice q.a q.l.length q.k) q.l from h)
 simp only[Value.slice.injEq] at e
 rw[e.1]
 exact h
end
section
open Go.ChangeShapes Go.WideShapes Go.ChangeAt Go.RowKit
theorem bs_FlowE_41_1_0(x0:Int)(w:World):(Instr.buildSlice 41 1 #[(0,(.int .i64 x0))]).run Tryz.prog w=.ok (.slice (some ⟨w.heap.size,0,none⟩) 1 1) (w.alloc (.cells #[(.int .i64 x0)] 3)):=by kernel_rfl
set_option maxRecDepth 100000
theorem tl_yes{j:Nat}{P:Nat→Bool}(h:P j=true):tl (j+1) P=tl j P++[(j:Int)]:=by
 unfold tl
 rw[List.range_succ,List.filter_append]
 simp[h]
theorem tl_no{j:Nat}{P:Nat→Bool}(h:P j=false):tl (j+1) P=tl j P:=by
 unfold tl
 rw[List.range_succ,List.filter_append]
 simp[h]
theorem greedy_at{cs:List Chn}{n b m:Nat}(h:Least cs n b m b):greedy cs n b m b=[b]:=by
 cases m with
 |zero=>rfl
 |succ m=>exact absurd rfl h.ne
theorem greedy_next{cs:List Chn}{n b m y c:Nat}(h:Least cs n b (m+1) y)(hc:(leadsB cs y c&&rchBy cs n m c b)=true)(hcn:c<n)(hno:∀j,j<c→(leadsB cs y j&&rchBy cs n m j b)=false):Least cs n b m c∧greedy cs n b (m+1) y=y::greedy cs n b m c:=by
 obtain⟨c0,h1,h2,h3,h4,h5⟩:=h.next
 have e:c=c0:=by
  rcases Nat.lt_trichotomy c c0 with h6|h6|h6
  ·rw[h5 c h6] at hc;cases hc
  ·exact h6
  ·have h7:=hno c0 h6
   rw[h2,h4.1] at h7
   cases h7
 subst e
 exact⟨h4,by rw[greedy,h1]⟩
theorem pathOf_first{cs:List Chn}{n f t k:Nat}(hk:k<n)(h:rchBy cs n k f t=true)(hno:∀j,j<k→rchBy cs n j f t=false):pathOf cs n f t=some (greedy cs n t k f):=by
 unfold pathOf
 rw[(List.find?_range_eq_some (p:=fun k=>rchBy cs n k f t)).2 ⟨h,List.mem_range.2 hk,fun j hj=>by rw[hno j hj];rfl⟩]
 rfl
theorem pathOf_never{cs:List Chn}{n f t:Nat}(hno:∀j,j<n→rchBy cs n j f t=false):pathOf cs n f t=none:=by
 unfold pathOf
 rw[(List.find?_eq_none (p:=fun k=>rchBy cs n k f t)).2 fun j hj=>by rw[hno j (List.mem_range.1 hj)];simp]
 rfl
set_option maxHeartbeats 8000000 in
theorem pathOfR_any{x:SysD}{w:World}(hx:x.At w)(hk:chkSys x.sys=0){f t:Nat}:Calls Tryz.prog 73 #[x.val,.int .i64 f,.int .i64 t] w fun e w'=>∃(L:List Int) (A:Option Addr) (c:Nat),e=.returned (.tuple #[.slice A L.length c,.bool (pathOf x.chans x.parts.length f t).isSome])∧
  L=((pathOf x.chans x.parts.length f t).getD []).map Int.ofNat∧Below w.heap.size w w'∧OwnRes w w' (fun u=>Ints u (.slice A L.length c) L):=by
 obtain⟨⟨hp1,hp2⟩,hc6,-⟩:=sizes_get (chkSys_zero hk).1
 have hld:=fun w1 (hb:Below w.heap.size w w1) (u v:Nat)=>leadsR_any (hx.below hb) u v Om
 have hrb:=fun w1 (hb:Below w.heap.size w w1) (u m:Nat) (hm:m≤1024)=>reachesBy_any hx t Om Om m hm u w1 hb
 rw[x.val_eq] at*
 refine enter Tryz.func73 rfl Tryz.ntmps73 rfl fun a hF=>?_
 have hW:=Wd.start w NoB
 refine c_sr<|pe<|e_box hF hW rfl rfl rfl rfl fun b1 a wc hF hW=>pq 2 hF rfl fun a hF=>l_nil<|t_n<|c_s<|c_sr<|pq 1 hF rfl fun a hF=>l_nil<|t_n<|wp_block ?_;refine c_loop (G:=Nat) (fun k:Nat=>[(8,.int .i64 (k:Int))]) (fun k:Nat=>[]) (fun k:Nat=>k≤x.parts.length∧∀j,j<k→rchBy x.chans x.parts.length j f t=false) (fun k:Nat=>x.parts.length - k) 0 (hF.ks [0,1,2,3] rfl) (Fr.cons hF (t:=8) rfl Rg (Fr.nil hF)) (hW) ?_ ?_
 ·exact⟨by omega,fun j hj=>by omega⟩
 clear hF hW
 try clear a
 intro k a wc hC hF hW
 obtain⟨hkp,hno⟩:=hC
 refine c_s<|c_sr<|pq 2 hF rfl fun a hF=>pv hF hW (y_loadOwn hF rfl 0 rfl rfl Tryz.underlying35 rfl) fun a hF=>pq 2 hF rfl fun a hF=>?_;refine Fr.splitD hF (fun h2 hF=>?_) (fun h2 hF=>?_)
 ·refine l_nil<|t_n<|c_t hF rfl<|wp_skip<|t_n<|c_s<|wp_block<|c_sr<|pv hF hW (y_loadAll hF rfl 0 rfl Tryz.underlying39 rfl sz_39) fun a hF=>pq 3 hF rfl fun a hF=>pe<|e_callK hF hW rfl rfl en_112 Rl (hrb _ hW.below f k Om) fun a w1 hW hF=>?_;refine Fr.splitB hF (fun h3 hF=>?_) (fun h3 hF=>?_)
  ·refine l_nil<|t_n<|c_t hF rfl ?_
   have hkn:k<x.parts.length:=Om
   have hpo:=pathOf_first hkn Am hno
   have hls:Least x.chans x.parts.length t k f:=⟨by assumption,hno⟩
   have hgl:=(greedy_road hls).2
   refine c_sr<|pq 1 hF rfl fun a hF=>pe<|e_buildSlice hF hW rfl (fun w=>bs_FlowE_41_1_0 _ w) rfl rfl rfl fun b4 a wc hF hW=>pq 1 hF rfl fun a hF=>l_nil<|t_n<|c_s<|c_sr<|pq 2 hF rfl fun a hF=>l_nil<|t_n<|wp_block ?_;replace hW:=hW.blk_row 0 rfl 1 1 rfl Dc;refine c_loop (G:=Nat×Nat×List Nat×List Nat×Option Addr×Nat) (fun⟨y,m,Lp,L,A,c⟩=>[(10,.int .i64 (y:Int)),(8,.int .i64 (m:Int)),(9,.slice A L.length c)]) (fun⟨y,m,Lp,L,A,c⟩=>[.row 3 1 (.slice A L.length c) L.length ((L.map Int.ofNat).map (.int .i64))]) (fun⟨y,m,Lp,L,A,c⟩=>Least x.chans x.parts.length t m y∧L=Lp++[y]∧greedy x.chans x.parts.length t k f=Lp++greedy x.chans x.parts.length t m y) (fun⟨y,m,Lp,L,A,c⟩=>m) (f,k,[],[f],some ⟨b4,0,none⟩,1) (hF.ks [0,1,2,3,16,23] rfl) (Fr.cons hF (t:=10) rfl Rg (Fr.cons hF (t:=8) rfl Rg (Fr.cons hF (t:=9) rfl Rg (Fr.nil hF)))) (hW) ?_ ?_
   ·exact⟨hls,rfl,rfl⟩
   clear hF hW
   try clear a
   intro gq a wc hC hF hW
   obtain⟨y,m,Lp,L,A,c⟩:=gq
   dsimp only at hC
   obtain⟨hl,hL,hgr⟩:=hC
   refine c_s<|c_sr<|pq 3 hF rfl fun a hF=>?_;refine Fr.splitD hF (fun h5 hF=>?_) (fun h5 hF=>?_)
   ·refine l_nil<|t_n<|c_t hF rfl<|wp_skip<|t_n<|c_s<|wp_block ?_
    have hyt:y≠t:=Om
    obtain⟨m,rfl⟩:∃q,m=q+1:=(by cases m with|zero=>exact absurd hl.zero hyt|succ q=>exact⟨q,rfl⟩)
    have hlen:=congrArg List.length hgr
    rw[hgl,List.length_append,(greedy_road hl).2] at hlen
    refine c_sr<|pq 1 hF rfl fun a hF=>l_nil<|t_n<|wp_block ?_;refine c_loop (G:=Nat) (fun v:Nat=>[(11,.int .i64 (v:Int)),(10,.int .i64 (y:Int)),(9,.slice A L.length c)]) (fun v:Nat=>[]) (fun v:Nat=>v≤x.parts.length∧∀j,j<v→(leadsB x.chans y j&&rchBy x.chans x.parts.length m j t)=false) (fun v:Nat=>x.parts.length - v) 0 (hF.ks [0,1,2,3,8,16,23,29] rfl) (Fr.cons hF (t:=11) rfl Rg (Fr.cons hF (t:=10) rfl Rg (Fr.cons hF (t:=9) rfl Rg (Fr.nil hF)))) (hW) ?_ ?_
    ·exact⟨by omega,fun j hj=>by omega⟩
    clear hF hW
    try clear a
    intro v a wc hC hF hW
    obtain⟨hvp,hnv⟩:=hC
    refine c_s<|c_sr<|pq 2 hF rfl fun a hF=>pv hF hW (y_loadOwn hF rfl 1 rfl rfl Tryz.underlying35 rfl) fun a hF=>pq 2 hF rfl fun a hF=>?_;refine Fr.splitD hF (fun h6 hF=>?_) (fun h6 hF=>?_)
    ·refine l_nil<|t_n<|c_t hF rfl<|wp_skip<|t_n<|c_s<|wp_block<|c_sr<|pv hF hW (y_loadAll hF rfl 1 rfl Tryz.underlying39 rfl sz_39) fun a hF=>pq 2 hF rfl fun a hF=>pe<|e_callK hF hW rfl rfl en_113 Rl (hld _ hW.below y v) fun a w1 hW hF=>?_;refine Fr.splitB hF (fun h7 hF=>?_) (fun h7 hF=>?_)
     ·refine pq 1 hF rfl fun a hF=>pvg hF hW (y_loadAll hF rfl 1 rfl Tryz.underlying39 rfl sz_39) (ws hF rfl rfl) fun a hF=>pq 3 hF rfl fun a hF=>pvg hF hW (y_sub hF rfl rfl (IntWalk.i64_in _ Om)) (ws hF rfl rfl) fun a hF=>?_;replace hF:=Fr.cast (v':=.int .i64 (m:Int)) (by congr 1;omega) hF;refine pe (e_callK hF hW rfl rfl en_112 Rl (hrb _ hW.below v m Om) ?_) (ws hF rfl rfl);intro a w1 hW hF;refine Fr.splitB hF (fun h8 hF=>?_) (fun h8 hF=>?_)
      ·refine pq 1 hF rfl fun a hF=>l_nil ?_;replace hF:=hF.ks [0,1,2,3,8,9,10,11,16,23,29,36,50] rfl;refine t_n<|c_t hF rfl<|c_sr<|pq 2 hF rfl fun a hF=>l_nil<|t_n ?_
       have hvv:(leadsB x.chans y v&&rchBy x.chans x.parts.length m v t)=true:=(by simp_all)
       have hLl:L.length≤4:=(by rw[hL,List.length_append];simp only[List.length_cons,List.length_nil];omega)
       refine c_sr<|pq 2 hF rfl fun a hF=>pe<|e_buildSlice hF hW rfl (fun w=>bs_FlowE_41_1_0 _ w) rfl rfl rfl fun b9 a wc hF hW=>pe<|e_append hF hW 1 rfl rfl rfl Tryz.underlying41 inf_3 rfl Dc (rowAt_blk (hW.blk 0 rfl) 1 1 rfl) Oc (show _=(L++[v]).length by simp) (show _=((L++[v]).map Int.ofNat).map (.int .i64) by simp) Ox Ml rfl rfl fun A10 c11 a wc hF hW=>pq 1 hF rfl fun a hF=>l_nil<|t_n<|wp_exit<|b_m rfl<|t_x<|t_x<|b_h<|b_n<|t_n<|c_r<|pq 1 hF rfl fun a hF=>pv hF hW (y_sub hF rfl rfl (IntWalk.i64_in _ Om)) fun a hF=>pq 1 hF rfl fun a hF=>l_nil ?_;replace hW:=hW.del 0 rfl;refine t_n ?_;refine⟨(v,m,Lp++[y],L++[v],A10,c11),?_,?_,?_,?_⟩
       ·exact⟨(greedy_next hl hvv Om hnv).1,by rw[hL],by rw[hgr,(greedy_next hl hvv Om hnv).2,List.append_assoc];rfl⟩
       ·first|omega|(dsimp only;omega)
       ·exact Fr.app (Fr.cons hF (t:=10) rfl (by first|rfl|((congr 1;omega))|(simp;done)|omega) (Fr.cons hF (t:=8) rfl (by first|rfl|((congr 1;omega))|(simp;done)|omega) (Fr.cons hF (t:=9) rfl (by first|rfl|((congr 1;omega))|(simp;done)|omega) (Fr.nil hF)))) (hF.ks [0,1,2,3,16,23] rfl)
       ·exact hW
      ·refine pq 1 hF rfl fun a hF=>l_nil ?_;replace hF:=hF.ks [0,1,2,3,8,9,10,11,16,23,29,36,50] rfl;refine t_n<|c_f hF rfl<|wp_skip<|b_n<|t_n<|c_r<|pq 1 hF rfl fun a hF=>pv hF hW (y_add hF rfl rfl (IntWalk.i64_in _ Om)) fun a hF=>pq 1 hF rfl fun a hF=>l_nil<|t_n ?_;refine⟨v+1,?_,?_,?_,?_⟩
       ·exact⟨by omega,fun j hj=>by rcases Nat.lt_or_ge j v with h|h;exact hnv j h;(have:j=v:=by omega);subst this;simp_all⟩
       ·first|omega|(dsimp only;omega)
       ·exact Fr.app (Fr.cons hF (t:=11) rfl Rf (Fr.cons hF (t:=10) rfl Rf (Fr.cons hF (t:=9) rfl Rf (Fr.nil hF)))) (hF.ks [0,1,2,3,8,16,23,29] rfl)
       ·exact hW
     ·refine pq 8 hF rfl fun a hF=>l_nil ?_;replace hF:=hF.ks [0,1,2,3,8,9,10,11,16,23,29,36,50] rfl;refine t_n<|c_f hF rfl<|wp_skip<|b_n<|t_n<|c_r<|pq 1 hF rfl fun a hF=>pv hF hW (y_add hF rfl rfl (IntWalk.i64_in _ Om)) fun a hF=>pq 1 hF rfl fun a hF=>l_nil<|t_n ?_;refine⟨v+1,?_,?_,?_,?_⟩
      ·exact⟨by omega,fun j hj=>by rcases Nat.lt_or_ge j v with h|h;exact hnv j h;(have:j=v:=by omega);subst this;simp_all⟩
      ·first|omega|(dsimp only;omega)
      ·exact Fr.app (Fr.cons hF (t:=11) rfl Rf (Fr.cons hF (t:=10) rfl Rf (Fr.cons hF (t:=9) rfl Rf (Fr.nil hF)))) (hF.ks [0,1,2,3,8,16,23,29] rfl)
      ·exact hW
    ·exfalso
     (obtain⟨c0,-,g2,g3,g4,-⟩:=hl.next;have g5:=hnv c0 Om;rw[g2,g4.1] at g5;cases g5)
   ·refine l_nil<|t_n<|c_f hF rfl<|wp_exit<|t_x<|t_x<|b_h<|t_n<|c_sr<|pq 3 hF rfl fun a hF=>l_nil<|t_n<|wp_ret<|b_r<|t_r<|t_r<|b_r<|t_r<|ret2 Tryz.results73 hF (rv_t hF rfl) (rv_t hF rfl) ?_;replace hW:=hW.del 1 rfl
    obtain rfl:y=t:=Om
    have hLg:L=greedy x.chans x.parts.length y k f:=(by rw[hgr,greedy_at hl,hL])
    exact⟨L.map Int.ofNat,A,c,by rw[hpo,List.length_map];rfl,by rw[hpo,hLg];rfl,hW.below,((hW.row_res 0 rfl).res_res 0 rfl).mono fun u h=>by rw[List.length_map];exact Ints.of_own (by simpa using h)⟩
  ·refine l_nil<|t_n<|c_f hF rfl<|wp_skip<|b_n<|t_n<|c_r<|pq 1 hF rfl fun a hF=>pv hF hW (y_add hF rfl rfl (IntWalk.i64_in _ Om)) fun a hF=>pq 1 hF rfl fun a hF=>l_nil<|t_n ?_;refine⟨(k+1),?_,?_,?_,?_⟩
   ·exact⟨by omega,fun j hj=>by rcases Nat.lt_or_ge j k with h|h;exact hno j h;(have:j=k:=by omega);subst this;first|assumption|(simp_all;done)⟩
   ·first|omega|(dsimp only;omega)
   ·exact hF.a1 rfl rfl
   ·exact hW
 ·refine l_nil<|t_n<|c_f hF rfl<|wp_exit<|t_x<|t_x<|b_h<|t_n<|c_sr<|pq 2 hF rfl fun a hF=>l_nil<|t_n<|wp_ret<|ret2 Tryz.results73 hF (rv_t hF rfl) (rv_t hF rfl) ?_;replace hW:=hW.del 0 rfl
  have hpn:=pathOf_never fun j hj=>hno j Om
  exact⟨[],none,0,by rw[hpn];rfl,by rw[hpn];rfl,hW.below,fun _ _=>Ints.nil_⟩
end
end Go.Proofs.YtndcjmopebcdgaaGreatDoor
