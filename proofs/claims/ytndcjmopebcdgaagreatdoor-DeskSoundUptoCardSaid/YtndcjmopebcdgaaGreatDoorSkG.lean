/- cert.order: how edges are ordered. cert.Check: what its OK says. flow.Edges. The reference's leads, reachesBy, Reaches. The reference's EdgesOf and PathOf. -/
import Derived.Test.YtndcjmopebcdgaaGreatDoorTys
import Derived.Test.YtndcjmopebcdgaaGreatDoorConfD1
import Derived.Test.YtndcjmopebcdgaaGreatDoorFlowA
import Derived.Test.YtndcjmopebcdgaaGreatDoorFlowPl
import Derived.Test.YtndcjmopebcdgaaGreatDoorConfC1
import Derived.Test.YtndcjmopebcdgaaGreatDoorPathPl
set_option linter.unusedSimpArgs false
set_option linter.unusedVariables false
namespace Go.Proofs.YtndcjmopebcdgaaGreatDoor
section
open Go.ChangeShapes Go.WideShapes Go.ChangeAt Go.RowKit
theorem bs_CertA_41_2_0_1(x0:Int)(x1:Int)(w:World):(Instr.buildSlice 41 2 #[(0,(.int .i64 x0)),(1,(.int .i64 x1))]).run Tryz.prog w=.ok (.slice (some ⟨w.heap.size,0,none⟩) 2 2) (w.alloc (.cells #[(.int .i64 x0),(.int .i64 x1)] 3)):=by kernel_rfl
set_option maxRecDepth 100000
def cmpI(m n:Int):Int:=if m<n then -1 else if n<m then 1 else 0
theorem isNaN_any(m:Int)(w:World):Calls Tryz.prog 80 #[.int .i64 m] w fun e w'=>e=.returned (.bool false)∧Below w.heap.size w w':=by
 refine enter Tryz.func80 rfl Tryz.ntmps80 rfl fun a hF=>?_
 have hW:=Wd.start w NoB
 refine c_sr<|pq 1 hF rfl fun a hF=>lts<|pq 3 hF rfl fun a hF=>?_;refine Fr.splitD hF (fun h1 hF=>?_) (fun h1 hF=>?_);refine pq 1 hF rfl fun a hF=>l_nil<|t_n<|wp_ret<|ret1 Tryz.results80 hF (rv_t hF rfl) ?_
 first|exact⟨rfl,hW.below⟩|(exfalso;omega)
 refine pq 1 hF rfl fun a hF=>l_nil<|t_n<|wp_ret<|ret1 Tryz.results80 hF (rv_t hF rfl) ?_
 first|exact⟨rfl,hW.below⟩|(exfalso;omega)
theorem compare_any(m n:Int)(w:World):Calls Tryz.prog 31 #[.int .i64 m,.int .i64 n] w fun e w'=>e=.returned (.int .i64 (cmpI m n))∧Below w.heap.size w w':=by
 refine enter Tryz.func31 rfl Tryz.ntmps31 rfl fun a hF=>?_
 have hW:=Wd.start w NoB
 refine c_sr<|pq 1 hF rfl fun a hF=>lts<|pq 1 hF rfl fun a hF=>pe<|e_callK hF hW rfl rfl en_80 Rl (isNaN_any _ _) fun a w1 hW hF=>pq 1 hF rfl fun a hF=>lts<|pq 1 hF rfl fun a hF=>pe<|e_callK hF hW rfl rfl en_80 Rl (isNaN_any _ _) fun a w1 hW hF=>pq 1 hF rfl fun a hF=>l_nil<|t_n<|c_s<|c_sr<|pq 1 hF rfl fun a hF=>l_nil<|t_n<|c_f hF rfl<|wp_skip<|t_n<|c_s<|c_sr<|pq 1 hF rfl fun a hF=>l_nil<|t_n<|c_f hF rfl<|wp_skip<|t_n<|c_s<|c_sr<|pq 3 hF rfl fun a hF=>?_;refine Fr.splitD hF (fun h1 hF=>?_) (fun h1 hF=>?_);refine l_nil<|t_n<|c_t hF rfl<|c_sr<|pq 1 hF rfl fun a hF=>l_nil<|t_n<|wp_ret<|t_r<|ret1 Tryz.results31 hF (rv_t hF rfl) ?_
 first
 |exact⟨by rw[show cmpI m n= -1 by unfold cmpI;rw[if_pos Om]],hW.below⟩
 |exact⟨by rw[show cmpI m n=1 by unfold cmpI;rw[if_neg Om,if_pos Om]],hW.below⟩
 |exact⟨by rw[show cmpI m n=0 by unfold cmpI;rw[if_neg Om,if_neg Om]],hW.below⟩
 refine l_nil<|t_n<|c_f hF rfl<|wp_skip<|t_n<|c_s<|c_sr<|pq 3 hF rfl fun a hF=>?_;refine Fr.splitD hF (fun h2 hF=>?_) (fun h2 hF=>?_);refine l_nil<|t_n<|c_t hF rfl<|c_sr<|pq 1 hF rfl fun a hF=>l_nil<|t_n<|wp_ret<|t_r<|ret1 Tryz.results31 hF (rv_t hF rfl) ?_
 first
 |exact⟨by rw[show cmpI m n= -1 by unfold cmpI;rw[if_pos Om]],hW.below⟩
 |exact⟨by rw[show cmpI m n=1 by unfold cmpI;rw[if_neg Om,if_pos Om]],hW.below⟩
 |exact⟨by rw[show cmpI m n=0 by unfold cmpI;rw[if_neg Om,if_neg Om]],hW.below⟩
 refine l_nil<|t_n<|c_f hF rfl<|wp_skip<|t_n<|c_sr<|pq 1 hF rfl fun a hF=>l_nil<|t_n<|wp_ret<|ret1 Tryz.results31 hF (rv_t hF rfl) ?_
 first
 |exact⟨by rw[show cmpI m n= -1 by unfold cmpI;rw[if_pos Om]],hW.below⟩
 |exact⟨by rw[show cmpI m n=1 by unfold cmpI;rw[if_neg Om,if_pos Om]],hW.below⟩
 |exact⟨by rw[show cmpI m n=0 by unfold cmpI;rw[if_neg Om,if_neg Om]],hW.below⟩
def orI(m n:Int):Int:=if m≠0 then m else n
theorem or_two{w:World}{b:Nat}{T:TypeId}{m n:Int}(hB:Blk w b T [.int .i64 m,.int .i64 n]):Calls Tryz.prog 30 #[.slice (some ⟨b,0,none⟩) 2 2] w fun e w'=>e=.returned (.int .i64 (orI m n))∧Below w.heap.size w w':=by
 have hI:RF w (some ⟨b,0,none⟩) 2 1 (fun i=>[.int .i64 ([m,n].getD i 0)]):=by
  obtain⟨A,c,e,_,_,h⟩:=RF.of_ints (ints_blk hB (xs:=[m,n]) rfl rfl (by show 2≤maxLen;decide))
  simp only[Value.slice.injEq] at e
  rw[e.1]
  exact h
 refine enter Tryz.func30 rfl Tryz.ntmps30 rfl fun a hF=>?_
 have hW:=Wd.start w NoB
 refine c_sr<|pq 1 hF rfl fun a hF=>lts<|pq 1 hF rfl fun a hF=>l_nil<|t_n<|c_s<|c_sr<|pq 3 hF rfl fun a hF=>l_nil<|t_n<|wp_block ?_;refine c_loop (G:=Nat) (fun k:Nat=>[(8,.int .i64 (k:Int))]) (fun k:Nat=>[]) (fun k:Nat=>k≤2∧∀i,i<k→[m,n].getD i 0=0) (fun k:Nat=>2 - k) 0 (hF.ks [0,3,6,7] rfl) (Fr.cons hF (t:=8) rfl Rg (Fr.nil hF)) (hW) ?_ ?_
 exact⟨by omega,fun i hi=>by omega⟩
 clear hF hW
 try clear a
 intro k a wc hC hF hW
 obtain⟨hk,hz⟩:=hC
 refine c_sr<|pq 1 hF rfl fun a hF=>?_;refine Fr.splitD hF (fun h1 hF=>?_) (fun h1 hF=>?_);refine l_nil<|t_n<|c_s<|c_t hF rfl<|wp_skip<|t_n<|c_s<|wp_block<|c_sr<|pv hF hW (y_indexS hF rfl rfl Od Tryz.underlying41 sz_3 (fun w h=>(hI).wd h)) fun a hF=>pv hF hW (y_loadRow hF rfl (fun w h=>(hI).wd h) Od rfl Tryz.underlying3 rfl) fun a hF=>pq 1 hF rfl fun a hF=>lts<|pq 3 hF rfl fun a hF=>?_;refine Fr.splitD hF (fun h2 hF=>?_) (fun h2 hF=>?_);refine l_nil<|t_n<|c_t hF rfl<|c_sr<|pq 2 hF rfl fun a hF=>l_nil<|t_n<|wp_ret<|b_r<|t_r<|t_r<|b_r<|t_r<|ret1 Tryz.results30 hF (rv_t hF rfl) ?_
 first
 |(have hk2:k=0∨k=1:=Om;rcases hk2 with rfl|rfl;exact⟨by rw[show orI m n=m from if_pos (by simpa using ‹¬[m,n].getD 0 0=0›)];rfl,hW.below⟩;exact⟨by rw[show orI m n=n from if_neg (by simpa using hz 0 Om)];rfl,hW.below⟩)
 |(have h0:=hz 0 Om;have h1:=hz 1 Om;exact⟨by rw[show orI m n=n from if_neg (by simpa using h0),show n=0 from h1],hW.below⟩)
 refine l_nil<|t_n<|c_f hF rfl<|wp_skip<|b_n<|t_n<|c_r<|pv hF hW (y_add hF rfl rfl (IntWalk.i64_in _ Om)) fun a hF=>pq 1 hF rfl fun a hF=>l_nil<|t_n ?_;refine⟨(k+1),?_,?_,?_,?_⟩
 exact⟨by omega,fun i hi=>by rcases Nat.lt_or_ge i k with h|h;exact hz i h;(have:i=k:=by omega);subst this;omega⟩
 first|omega|(dsimp only;omega)
 exact hF.a1 rfl rfl
 exact hW
 refine l_nil<|t_n<|c_s<|c_f hF rfl<|wp_exit<|t_x<|t_x<|b_h<|t_n<|c_sr<|pq 2 hF rfl fun a hF=>l_nil<|t_n<|wp_ret<|ret1 Tryz.results30 hF (rv_t hF rfl) ?_
 first
 |(have hk2:k=0∨k=1:=Om;rcases hk2 with rfl|rfl;exact⟨by rw[show orI m n=m from if_pos (by simpa using ‹¬[m,n].getD 0 0=0›)];rfl,hW.below⟩;exact⟨by rw[show orI m n=n from if_neg (by simpa using hz 0 Om)];rfl,hW.below⟩)
 |(have h0:=hz 0 Om;have h1:=hz 1 Om;exact⟨by rw[show orI m n=n from if_neg (by simpa using h0),show n=0 from h1],hW.below⟩)
structure Edg where
 from_:Int
 to_:Int
def Edg.cells(e:Edg):List Value:=[.int .i64 e.from_,.int .i64 e.to_]
def orderI(x y:Edg):Int:=orI (cmpI x.from_ y.from_) (cmpI x.to_ y.to_)
theorem order_any(x y:Edg)(w:World):Calls Tryz.prog 82 #[.agg x.cells.toArray,.agg y.cells.toArray] w fun e w'=>e=.returned (.int .i64 (orderI x y))∧Below w.heap.size w w':=by
 obtain⟨xf,xt⟩:=x
 obtain⟨yf,yt⟩:=y
 change Calls _ _ #[.agg #[.int .i64 xf,.int .i64 xt],.agg #[.int .i64 yf,.int .i64 yt]] _ _
 refine enter Tryz.func82 rfl Tryz.ntmps82 rfl fun a hF=>?_
 have hW:=Wd.start w NoB
 refine c_sr<|pe<|e_box hF hW rfl rfl rfl rfl fun b1 a wc hF hW=>pe<|e_box hF hW rfl rfl rfl rfl fun b2 a wc hF hW=>pq 1 hF rfl fun a hF=>l_nil<|t_n<|c_sd mixed_ok hW (hW) ?_
 clear hW;intro wc hW hS
 refine dq 1 [0] hF hS rfl fun a hF=>dv 1 rfl hF hS (y_loadOwn hF rfl 1 rfl rfl Tryz.underlying3 rfl) fun a hF=>dq 1 [2] hF hS rfl fun a hF=>dv 3 rfl hF hS (y_loadOwn hF rfl 0 rfl rfl Tryz.underlying3 rfl) fun a hF=>dq 1 [5] hF hS rfl fun a hF=>dv 6 rfl hF hS (y_loadOwn hF rfl 1 rfl rfl Tryz.underlying3 rfl) fun a hF=>dq 1 [7] hF hS rfl fun a hF=>dv 8 rfl hF hS (y_loadOwn hF rfl 0 rfl rfl Tryz.underlying3 rfl) fun a hF=>d_1 4 Kr<|d_op rfl rfl<|e_callK hF hW rfl rfl en_31 Rl (compare_any _ _ _) fun a w1 hW hF=>ai hW fun hS=>d_1 9 Kr<|d_op rfl rfl<|e_callK hF hW rfl rfl en_31 Rl (compare_any _ _ _) fun a w1 hW hF=>ai hW fun hS=>d_1 10 Kr<|d_op rfl rfl<|e_buildSlice hF hW rfl (fun w=>bs_CertA_41_2_0_1 _ _ w) rfl rfl rfl fun b3 a wc hF hW=>ai (hW.del 0 rfl) fun hS=>d_1 11 Kr<|d_op rfl rfl<|e_callK hF hW rfl rfl en_30 Rl (or_two (hW.blk 0 rfl)) fun a w1 hW hF=>ai (hW.del 0 rfl) fun hS=>dq 1 [12] hF hS rfl fun a hF=>?_;clear hS;refine d_nil Kr<|t_n<|wp_ret<|ret1 Tryz.results82 hF (rv_t hF rfl) ?_
 exact⟨rfl,hW.below⟩
end
section
open Go.ChangeShapes Go.WideShapes Go.ChangeAt Go.RowKit
set_option maxRecDepth 100000
def E0:Edg:=⟨0,0⟩
theorem Edg.cells_len(e:Edg):e.cells.length=2:=rfl
def May_(w:World)(A:Option Addr)(c:Nat)(l:List Edg):Prop:=Flat Edg.cells 2 w (.slice A l.length c) l
end
section
open Go.ChangeShapes Go.WideShapes Go.ChangeAt Go.RowKit
set_option maxRecDepth 100000
theorem irRF{q:IR}{w:World}(h:q.At w):RF w q.a q.l.length 1 (fun i=>[.int .i64 (q.l.getD i 0)]):=by
 obtain⟨A,c,e,_,_,h⟩:=RF.of_ints (show Ints w (.slice q.a q.l.length q.k) q.l from h)
 simp only[Value.slice.injEq] at e
 rw[e.1]
 exact h
end
section
open Go.ChangeShapes Go.WideShapes Go.ChangeAt Go.RowKit
set_option maxRecDepth 100000
end
section
open Go.ChangeShapes Go.WideShapes Go.ChangeAt Go.RowKit
set_option maxRecDepth 100000
end
end Go.Proofs.YtndcjmopebcdgaaGreatDoor
