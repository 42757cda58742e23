/- slices.IndexFunc, slices.ContainsFunc and conf.some at the four types at hand: is it so of one of them? The tests that conf.Check hands to some: what each tells. -/
import Derived.Test.YtndcjmopebcdgaaGreatDoorEng
import Derived.Test.YtndcjmopebcdgaaGreatDoorTys
import Derived.Test.YtndcjmopebcdgaaGreatDoorSysB
set_option linter.unusedSimpArgs false
set_option linter.unusedVariables false
namespace Go.Proofs.YtndcjmopebcdgaaGreatDoor
section
open Go.ChangeShapes Go.WideShapes Go.ChangeAt Go.RowKit
set_option maxRecDepth 100000
theorem any_true{n k:Nat}{P:Nat→Bool}(hk:k<n)(h:P k=true):(List.range n).any P=true:=List.any_eq_true.2 ⟨k,List.mem_range.2 hk,h⟩
theorem any_false{n:Nat}{P:Nat→Bool}(h:∀i,i<n→P i=false):(List.range n).any P=false:=by
 cases ha:(List.range n).any P
 ·rfl
 ·obtain⟨k,hk,hp⟩:=List.any_eq_true.1 ha
  rw[h k (List.mem_range.1 hk)] at hp;cases hp
def Tells(w:World)(n:Nat)(el:Nat→Value)(g:FuncId)(cap:Array Value)(P:Nat→Bool):Prop:=
 ∀k w1,k<n→Below w.heap.size w w1→Calls Tryz.prog g (#[el k]++cap) w1 fun e w'=>e=.returned (.bool (P k))∧Below w1.heap.size w1 w'
theorem Tells.on{w w1:World}{n:Nat}{el:Nat→Value}{g:FuncId}{cap:Array Value}{P:Nat→Bool}(h:Tells w n el g cap P)(hb:Below w.heap.size w w1):Tells w1 n el g cap P:=
 fun k _ hk hb2=>h k _ hk (Below.on hb hb2)
theorem idx_part{A:Option Addr}{n c:Nat}{f:Nat→List Value}{g:FuncId}{cap:Array Value}{P:Nat→Bool}{w:World}(hn:n≤maxLen)(hR:RF w A n 2 f)(hlen:∀k,(f k).length=2)(hen:Enters Tryz.prog g)(hcall:Tells w n (fun k=>.agg (f k).toArray) g cap P):
  Calls Tryz.prog 164 #[.slice A n c,.func (.func g) #[] cap] w fun e w'=>∃r:Int,e=.returned (.int .i64 r)∧decide (0≤r)=(List.range n).any P∧Below w.heap.size w w':=by
 unfold maxLen at hn
 refine enter Tryz.func164 rfl Tryz.ntmps164 rfl fun a hF=>?_
 have hW:=Wd.start w NoB
 refine c_sr<|pq 1 hF rfl fun a hF=>l_nil<|t_n<|c_s<|c_sr<|pq 3 hF rfl fun a hF=>l_nil<|t_n<|wp_block ?_;refine c_loop (G:=Nat) (fun k:Nat=>[(8,.int .i64 (k:Int))]) (fun k:Nat=>[]) (fun k:Nat=>k≤n∧∀i,i<k→P i=false) (fun k:Nat=>n - k) 0 (hF.ks [0,1,7] rfl) (Fr.cons hF (t:=8) rfl Rg (Fr.nil hF)) (hW) ?_ ?_
 exact⟨by omega,fun i hi=>by omega⟩
 clear hF hW
 try clear a
 intro k a wc hC hF hW
 obtain⟨hk,hno⟩:=hC
 refine c_sr<|pq 1 hF rfl fun a hF=>?_;refine Fr.splitD hF (fun h1 hF=>?_) (fun h1 hF=>?_);refine l_nil<|t_n<|c_s<|c_t hF rfl<|wp_skip<|t_n<|c_s<|wp_block<|c_sr<|pq 2 hF rfl fun a hF=>lts<|pq 3 hF rfl fun a hF=>pv hF hW (y_indexS hF rfl rfl Od Tryz.underlying35 sz_43 (fun w h=>(hR).wd h)) fun a hF=>pv hF hW (y_loadRowW hF rfl (fun w h=>(hR).wd h) Od Tryz.underlying43 rfl (by rw[hlen];exact sz_43)) fun a hF=>pe<|e_callK hF hW rfl rfl hen Rl (hcall k _ Om hW.below) fun a w1 hW hF=>?_;refine Fr.splitB hF (fun h2 hF=>?_) (fun h2 hF=>?_);refine l_nil<|t_n<|c_t hF rfl<|c_sr<|pq 2 hF rfl fun a hF=>l_nil<|t_n<|wp_ret<|b_r<|t_r<|t_r<|b_r<|t_r<|ret1 Tryz.results164 hF (rv_t hF rfl) ?_
 exact⟨_,rfl,by rw[any_true (k:=k) Om Am];exact decide_eq_true Om,hW.below⟩
 refine l_nil<|t_n<|c_f hF rfl<|wp_skip<|b_n<|t_n<|c_r<|pv hF hW (y_add hF rfl rfl (IntWalk.i64_in _ Om)) fun a hF=>pq 1 hF rfl fun a hF=>l_nil<|t_n ?_;refine⟨(k+1),?_,?_,?_,?_⟩
 exact⟨by omega,fun i hi=>by rcases Nat.lt_or_ge i k with h|h;exact hno i h;(have hik:i=k:=by omega);rw[hik];assumption⟩
 first|omega|(dsimp only;omega)
 exact hF.a1 rfl rfl
 exact hW
 refine l_nil<|t_n<|c_s<|c_f hF rfl<|wp_exit<|t_x<|t_x<|b_h<|t_n<|c_sr<|pq 1 hF rfl fun a hF=>l_nil<|t_n<|wp_ret<|ret1 Tryz.results164 hF (rv_t hF rfl) ?_
 exact⟨_,rfl,by rw[any_false fun i hi=>hno i Om];rfl,hW.below⟩
theorem has_part{A:Option Addr}{n c:Nat}{f:Nat→List Value}{g:FuncId}{cap:Array Value}{P:Nat→Bool}{w:World}(hn:n≤maxLen)(hR:RF w A n 2 f)(hlen:∀k,(f k).length=2)(hen:Enters Tryz.prog g)(hcall:Tells w n (fun k=>.agg (f k).toArray) g cap P):
  Calls Tryz.prog 129 #[.slice A n c,.func (.func g) #[] cap] w fun e w'=>e=.returned (.bool ((List.range n).any P))∧Below w.heap.size w w':=by
 refine enter Tryz.func129 rfl Tryz.ntmps129 rfl fun a hF=>?_
 have hW:=Wd.start w NoB
 refine c_sr<|pq 1 hF rfl fun a hF=>lts<|pq 2 hF rfl fun a hF=>?_;refine pe (e_callA hF rfl rfl en_164 Rl (idx_part hn (hR.wd hW) hlen hen (hcall.on hW.below)) ?_);rintro e w1 ⟨r,rfl,hr,hb⟩;replace hW:=hW.kept hb;clear hb;refine⟨_,rfl,fun a hF=>?_⟩;refine pq 2 hF rfl fun a hF=>l_nil<|t_n<|wp_ret<|ret1 Tryz.results129 hF (rv_t hF rfl) ?_
 exact⟨by rw[←hr],hW.below⟩
theorem some_part{A:Option Addr}{n c:Nat}{f:Nat→List Value}{g:FuncId}{cap:Array Value}{P:Nat→Bool}{w:World}(hn:n≤maxLen)(hR:RF w A n 2 f)(hlen:∀k,(f k).length=2)(hen:Enters Tryz.prog g)(hcall:Tells w n (fun k=>.agg (f k).toArray) g cap P):
  Calls Tryz.prog 88 #[.slice A n c,.func (.func g) #[] cap] w fun e w'=>e=.returned (.bool ((List.range n).any P))∧Below w.heap.size w w':=by
 refine enter Tryz.func88 rfl Tryz.ntmps88 rfl fun a hF=>?_
 have hW:=Wd.start w NoB
 refine c_sr<|pq 1 hF rfl fun a hF=>lts<|pq 2 hF rfl fun a hF=>pe<|e_callK hF hW rfl rfl en_129 Rl (has_part hn (hR.wd hW) hlen hen (hcall.on hW.below)) fun a w1 hW hF=>pq 1 hF rfl fun a hF=>l_nil<|t_n<|wp_ret<|ret1 Tryz.results88 hF (rv_t hF rfl) ?_
 exact⟨rfl,hW.below⟩
theorem idx_chan{A:Option Addr}{n c:Nat}{f:Nat→List Value}{g:FuncId}{cap:Array Value}{P:Nat→Bool}{w:World}(hn:n≤maxLen)(hR:RF w A n 3 f)(hlen:∀k,(f k).length=3)(hen:Enters Tryz.prog g)(hcall:Tells w n (fun k=>.agg (f k).toArray) g cap P):
  Calls Tryz.prog 168 #[.slice A n c,.func (.func g) #[] cap] w fun e w'=>∃r:Int,e=.returned (.int .i64 r)∧decide (0≤r)=(List.range n).any P∧Below w.heap.size w w':=by
 unfold maxLen at hn
 refine enter Tryz.func168 rfl Tryz.ntmps168 rfl fun a hF=>?_
 have hW:=Wd.start w NoB
 refine c_sr<|pq 1 hF rfl fun a hF=>l_nil<|t_n<|c_s<|c_sr<|pq 3 hF rfl fun a hF=>l_nil<|t_n<|wp_block ?_;refine c_loop (G:=Nat) (fun k:Nat=>[(8,.int .i64 (k:Int))]) (fun k:Nat=>[]) (fun k:Nat=>k≤n∧∀i,i<k→P i=false) (fun k:Nat=>n - k) 0 (hF.ks [0,1,7] rfl) (Fr.cons hF (t:=8) rfl Rg (Fr.nil hF)) (hW) ?_ ?_
 exact⟨by omega,fun i hi=>by omega⟩
 clear hF hW
 try clear a
 intro k a wc hC hF hW
 obtain⟨hk,hno⟩:=hC
 refine c_sr<|pq 1 hF rfl fun a hF=>?_;refine Fr.splitD hF (fun h1 hF=>?_) (fun h1 hF=>?_);refine l_nil<|t_n<|c_s<|c_t hF rfl<|wp_skip<|t_n<|c_s<|wp_block<|c_sr<|pq 2 hF rfl fun a hF=>lts<|pq 3 hF rfl fun a hF=>pv hF hW (y_indexS hF rfl rfl Od Tryz.underlying36 sz_121 (fun w h=>(hR).wd h)) fun a hF=>pv hF hW (y_loadRowW hF rfl (fun w h=>(hR).wd h) Od Tryz.underlying121 rfl (by rw[hlen];exact sz_121)) fun a hF=>pe<|e_callK hF hW rfl rfl hen Rl (hcall k _ Om hW.below) fun a w1 hW hF=>?_;refine Fr.splitB hF (fun h2 hF=>?_) (fun h2 hF=>?_);refine l_nil<|t_n<|c_t hF rfl<|c_sr<|pq 2 hF rfl fun a hF=>l_nil<|t_n<|wp_ret<|b_r<|t_r<|t_r<|b_r<|t_r<|ret1 Tryz.results168 hF (rv_t hF rfl) ?_
 exact⟨_,rfl,by rw[any_true (k:=k) Om Am];exact decide_eq_true Om,hW.below⟩
 refine l_nil<|t_n<|c_f hF rfl<|wp_skip<|b_n<|t_n<|c_r<|pv hF hW (y_add hF rfl rfl (IntWalk.i64_in _ Om)) fun a hF=>pq 1 hF rfl fun a hF=>l_nil<|t_n ?_;refine⟨(k+1),?_,?_,?_,?_⟩
 exact⟨by omega,fun i hi=>by rcases Nat.lt_or_ge i k with h|h;exact hno i h;(have hik:i=k:=by omega);rw[hik];assumption⟩
 first|omega|(dsimp only;omega)
 exact hF.a1 rfl rfl
 exact hW
 refine l_nil<|t_n<|c_s<|c_f hF rfl<|wp_exit<|t_x<|t_x<|b_h<|t_n<|c_sr<|pq 1 hF rfl fun a hF=>l_nil<|t_n<|wp_ret<|ret1 Tryz.results168 hF (rv_t hF rfl) ?_
 exact⟨_,rfl,by rw[any_false fun i hi=>hno i Om];rfl,hW.below⟩
theorem has_chan{A:Option Addr}{n c:Nat}{f:Nat→List Value}{g:FuncId}{cap:Array Value}{P:Nat→Bool}{w:World}(hn:n≤maxLen)(hR:RF w A n 3 f)(hlen:∀k,(f k).length=3)(hen:Enters Tryz.prog g)(hcall:Tells w n (fun k=>.agg (f k).toArray) g cap P):
  Calls Tryz.prog 131 #[.slice A n c,.func (.func g) #[] cap] w fun e w'=>e=.returned (.bool ((List.range n).any P))∧Below w.heap.size w w':=by
 refine enter Tryz.func131 rfl Tryz.ntmps131 rfl fun a hF=>?_
 have hW:=Wd.start w NoB
 refine c_sr<|pq 1 hF rfl fun a hF=>lts<|pq 2 hF rfl fun a hF=>?_;refine pe (e_callA hF rfl rfl en_168 Rl (idx_chan hn (hR.wd hW) hlen hen (hcall.on hW.below)) ?_);rintro e w1 ⟨r,rfl,hr,hb⟩;replace hW:=hW.kept hb;clear hb;refine⟨_,rfl,fun a hF=>?_⟩;refine pq 2 hF rfl fun a hF=>l_nil<|t_n<|wp_ret<|ret1 Tryz.results131 hF (rv_t hF rfl) ?_
 exact⟨by rw[←hr],hW.below⟩
theorem some_chan{A:Option Addr}{n c:Nat}{f:Nat→List Value}{g:FuncId}{cap:Array Value}{P:Nat→Bool}{w:World}(hn:n≤maxLen)(hR:RF w A n 3 f)(hlen:∀k,(f k).length=3)(hen:Enters Tryz.prog g)(hcall:Tells w n (fun k=>.agg (f k).toArray) g cap P):
  Calls Tryz.prog 92 #[.slice A n c,.func (.func g) #[] cap] w fun e w'=>e=.returned (.bool ((List.range n).any P))∧Below w.heap.size w w':=by
 refine enter Tryz.func92 rfl Tryz.ntmps92 rfl fun a hF=>?_
 have hW:=Wd.start w NoB
 refine c_sr<|pq 1 hF rfl fun a hF=>lts<|pq 2 hF rfl fun a hF=>pe<|e_callK hF hW rfl rfl en_131 Rl (has_chan hn (hR.wd hW) hlen hen (hcall.on hW.below)) fun a w1 hW hF=>pq 1 hF rfl fun a hF=>l_nil<|t_n<|wp_ret<|ret1 Tryz.results92 hF (rv_t hF rfl) ?_
 exact⟨rfl,hW.below⟩
theorem idx_slot{A:Option Addr}{n c:Nat}{f:Nat→List Value}{g:FuncId}{cap:Array Value}{P:Nat→Bool}{w:World}(hn:n≤maxLen)(hR:RF w A n 2 f)(hlen:∀k,(f k).length=2)(hen:Enters Tryz.prog g)(hcall:Tells w n (fun k=>.agg (f k).toArray) g cap P):
  Calls Tryz.prog 169 #[.slice A n c,.func (.func g) #[] cap] w fun e w'=>∃r:Int,e=.returned (.int .i64 r)∧decide (0≤r)=(List.range n).any P∧Below w.heap.size w w':=by
 unfold maxLen at hn
 refine enter Tryz.func169 rfl Tryz.ntmps169 rfl fun a hF=>?_
 have hW:=Wd.start w NoB
 refine c_sr<|pq 1 hF rfl fun a hF=>l_nil<|t_n<|c_s<|c_sr<|pq 3 hF rfl fun a hF=>l_nil<|t_n<|wp_block ?_;refine c_loop (G:=Nat) (fun k:Nat=>[(8,.int .i64 (k:Int))]) (fun k:Nat=>[]) (fun k:Nat=>k≤n∧∀i,i<k→P i=false) (fun k:Nat=>n - k) 0 (hF.ks [0,1,7] rfl) (Fr.cons hF (t:=8) rfl Rg (Fr.nil hF)) (hW) ?_ ?_
 exact⟨by omega,fun i hi=>by omega⟩
 clear hF hW
 try clear a
 intro k a wc hC hF hW
 obtain⟨hk,hno⟩:=hC
 refine c_sr<|pq 1 hF rfl fun a hF=>?_;refine Fr.splitD hF (fun h1 hF=>?_) (fun h1 hF=>?_);refine l_nil<|t_n<|c_s<|c_t hF rfl<|wp_skip<|t_n<|c_s<|wp_block<|c_sr<|pq 2 hF rfl fun a hF=>lts<|pq 3 hF rfl fun a hF=>pv hF hW (y_indexS hF rfl rfl Od Tryz.underlying37 sz_123 (fun w h=>(hR).wd h)) fun a hF=>pv hF hW (y_loadRowW hF rfl (fun w h=>(hR).wd h) Od Tryz.underlying123 rfl (by rw[hlen];exact sz_123)) fun a hF=>pe<|e_callK hF hW rfl rfl hen Rl (hcall k _ Om hW.below) fun a w1 hW hF=>?_;refine Fr.splitB hF (fun h2 hF=>?_) (fun h2 hF=>?_);refine l_nil<|t_n<|c_t hF rfl<|c_sr<|pq 2 hF rfl fun a hF=>l_nil<|t_n<|wp_ret<|b_r<|t_r<|t_r<|b_r<|t_r<|ret1 Tryz.results169 hF (rv_t hF rfl) ?_
 exact⟨_,rfl,by rw[any_true (k:=k) Om Am];exact decide_eq_true Om,hW.below⟩
 refine l_nil<|t_n<|c_f hF rfl<|wp_skip<|b_n<|t_n<|c_r<|pv hF hW (y_add hF rfl rfl (IntWalk.i64_in _ Om)) fun a hF=>pq 1 hF rfl fun a hF=>l_nil<|t_n ?_;refine⟨(k+1),?_,?_,?_,?_⟩
 exact⟨by omega,fun i hi=>by rcases Nat.lt_or_ge i k with h|h;exact hno i h;(have hik:i=k:=by omega);rw[hik];assumption⟩
 first|omega|(dsimp only;omega)
 exact hF.a1 rfl rfl
 exact hW
 refine l_nil<|t_n<|c_s<|c_f hF rfl<|wp_exit<|t_x<|t_x<|b_h<|t_n<|c_sr<|pq 1 hF rfl fun a hF=>l_nil<|t_n<|wp_ret<|ret1 Tryz.results169 hF (rv_t hF rfl) ?_
 exact⟨_,rfl,by rw[any_false fun i hi=>hno i Om];rfl,hW.below⟩
theorem has_slot{A:Option Addr}{n c:Nat}{f:Nat→List Value}{g:FuncId}{cap:Array Value}{P:Nat→Bool}{w:World}(hn:n≤maxLen)(hR:RF w A n 2 f)(hlen:∀k,(f k).length=2)(hen:Enters Tryz.prog g)(hcall:Tells w n (fun k=>.agg (f k).toArray) g cap P):
  Calls Tryz.prog 132 #[.slice A n c,.func (.func g) #[] cap] w fun e w'=>e=.returned (.bool ((List.range n).any P))∧Below w.heap.size w w':=by
 refine enter Tryz.func132 rfl Tryz.ntmps132 rfl fun a hF=>?_
 have hW:=Wd.start w NoB
 refine c_sr<|pq 1 hF rfl fun a hF=>lts<|pq 2 hF rfl fun a hF=>?_;refine pe (e_callA hF rfl rfl en_169 Rl (idx_slot hn (hR.wd hW) hlen hen (hcall.on hW.below)) ?_);rintro e w1 ⟨r,rfl,hr,hb⟩;replace hW:=hW.kept hb;clear hb;refine⟨_,rfl,fun a hF=>?_⟩;refine pq 2 hF rfl fun a hF=>l_nil<|t_n<|wp_ret<|ret1 Tryz.results132 hF (rv_t hF rfl) ?_
 exact⟨by rw[←hr],hW.below⟩
theorem some_slot{A:Option Addr}{n c:Nat}{f:Nat→List Value}{g:FuncId}{cap:Array Value}{P:Nat→Bool}{w:World}(hn:n≤maxLen)(hR:RF w A n 2 f)(hlen:∀k,(f k).length=2)(hen:Enters Tryz.prog g)(hcall:Tells w n (fun k=>.agg (f k).toArray) g cap P):
  Calls Tryz.prog 95 #[.slice A n c,.func (.func g) #[] cap] w fun e w'=>e=.returned (.bool ((List.range n).any P))∧Below w.heap.size w w':=by
 refine enter Tryz.func95 rfl Tryz.ntmps95 rfl fun a hF=>?_
 have hW:=Wd.start w NoB
 refine c_sr<|pq 1 hF rfl fun a hF=>lts<|pq 2 hF rfl fun a hF=>pe<|e_callK hF hW rfl rfl en_132 Rl (has_slot hn (hR.wd hW) hlen hen (hcall.on hW.below)) fun a w1 hW hF=>pq 1 hF rfl fun a hF=>l_nil<|t_n<|wp_ret<|ret1 Tryz.results95 hF (rv_t hF rfl) ?_
 exact⟨rfl,hW.below⟩
theorem idx_int{A:Option Addr}{n c:Nat}{f:Nat→Int}{g:FuncId}{cap:Array Value}{P:Nat→Bool}{w:World}(hn:n≤maxLen)(hR:RF w A n 1 (fun k=>[.int .i64 (f k)]))(hen:Enters Tryz.prog g)(hcall:Tells w n (fun k=>.int .i64 (f k)) g cap P):
  Calls Tryz.prog 170 #[.slice A n c,.func (.func g) #[] cap] w fun e w'=>∃r:Int,e=.returned (.int .i64 r)∧decide (0≤r)=(List.range n).any P∧Below w.heap.size w w':=by
 unfold maxLen at hn
 refine enter Tryz.func170 rfl Tryz.ntmps170 rfl fun a hF=>?_
 have hW:=Wd.start w NoB
 refine c_sr<|pq 1 hF rfl fun a hF=>l_nil<|t_n<|c_s<|c_sr<|pq 3 hF rfl fun a hF=>l_nil<|t_n<|wp_block ?_;refine c_loop (G:=Nat) (fun k:Nat=>[(8,.int .i64 (k:Int))]) (fun k:Nat=>[]) (fun k:Nat=>k≤n∧∀i,i<k→P i=false) (fun k:Nat=>n - k) 0 (hF.ks [0,1,7] rfl) (Fr.cons hF (t:=8) rfl Rg (Fr.nil hF)) (hW) ?_ ?_
 exact⟨by omega,fun i hi=>by omega⟩
 clear hF hW
 try clear a
 intro k a wc hC hF hW
 obtain⟨hk,hno⟩:=hC
 refine c_sr<|pq 1 hF rfl fun a hF=>?_;refine Fr.splitD hF (fun h1 hF=>?_) (fun h1 hF=>?_);refine l_nil<|t_n<|c_s<|c_t hF rfl<|wp_skip<|t_n<|c_s<|wp_block<|c_sr<|pq 2 hF rfl fun a hF=>lts<|pq 3 hF rfl fun a hF=>pv hF hW (y_indexS hF rfl rfl Od Tryz.underlying41 sz_3 (fun w h=>(hR).wd h)) fun a hF=>pv hF hW (y_loadRow hF rfl (fun w h=>(hR).wd h) Od rfl Tryz.underlying3 rfl) fun a hF=>pe<|e_callK hF hW rfl rfl hen Rl (hcall k _ Om hW.below) fun a w1 hW hF=>?_;refine Fr.splitB hF (fun h2 hF=>?_) (fun h2 hF=>?_);refine l_nil<|t_n<|c_t hF rfl<|c_sr<|pq 2 hF rfl fun a hF=>l_nil<|t_n<|wp_ret<|b_r<|t_r<|t_r<|b_r<|t_r<|ret1 Tryz.results170 hF (rv_t hF rfl) ?_
 exact⟨_,rfl,by rw[any_true (k:=k) Om Am];exact decide_eq_true Om,hW.below⟩
 refine l_nil<|t_n<|c_f hF rfl<|wp_skip<|b_n<|t_n<|c_r<|pv hF hW (y_add hF rfl rfl (IntWalk.i64_in _ Om)) fun a hF=>pq 1 hF rfl fun a hF=>l_nil<|t_n ?_;refine⟨(k+1),?_,?_,?_,?_⟩
 exact⟨by omega,fun i hi=>by rcases Nat.lt_or_ge i k with h|h;exact hno i h;(have hik:i=k:=by omega);rw[hik];assumption⟩
 first|omega|(dsimp only;omega)
 exact hF.a1 rfl rfl
 exact hW
 refine l_nil<|t_n<|c_s<|c_f hF rfl<|wp_exit<|t_x<|t_x<|b_h<|t_n<|c_sr<|pq 1 hF rfl fun a hF=>l_nil<|t_n<|wp_ret<|ret1 Tryz.results170 hF (rv_t hF rfl) ?_
 exact⟨_,rfl,by rw[any_false fun i hi=>hno i Om];rfl,hW.below⟩
theorem has_int{A:Option Addr}{n c:Nat}{f:Nat→Int}{g:FuncId}{cap:Array Value}{P:Nat→Bool}{w:World}(hn:n≤maxLen)(hR:RF w A n 1 (fun k=>[.int .i64 (f k)]))(hen:Enters Tryz.prog g)(hcall:Tells w n (fun k=>.int .i64 (f k)) g cap P):
  Calls Tryz.prog 134 #[.slice A n c,.func (.func g) #[] cap] w fun e w'=>e=.returned (.bool ((List.range n).any P))∧Below w.heap.size w w':=by
 refine enter Tryz.func134 rfl Tryz.ntmps134 rfl fun a hF=>?_
 have hW:=Wd.start w NoB
 refine c_sr<|pq 1 hF rfl fun a hF=>lts<|pq 2 hF rfl fun a hF=>?_;refine pe (e_callA hF rfl rfl en_170 Rl (idx_int hn (hR.wd hW) hen (hcall.on hW.below)) ?_);rintro e w1 ⟨r,rfl,hr,hb⟩;replace hW:=hW.kept hb;clear hb;refine⟨_,rfl,fun a hF=>?_⟩;refine pq 2 hF rfl fun a hF=>l_nil<|t_n<|wp_ret<|ret1 Tryz.results134 hF (rv_t hF rfl) ?_
 exact⟨by rw[←hr],hW.below⟩
theorem some_int{A:Option Addr}{n c:Nat}{f:Nat→Int}{g:FuncId}{cap:Array Value}{P:Nat→Bool}{w:World}(hn:n≤maxLen)(hR:RF w A n 1 (fun k=>[.int .i64 (f k)]))(hen:Enters Tryz.prog g)(hcall:Tells w n (fun k=>.int .i64 (f k)) g cap P):
  Calls Tryz.prog 99 #[.slice A n c,.func (.func g) #[] cap] w fun e w'=>e=.returned (.bool ((List.range n).any P))∧Below w.heap.size w w':=by
 refine enter Tryz.func99 rfl Tryz.ntmps99 rfl fun a hF=>?_
 have hW:=Wd.start w NoB
 refine c_sr<|pq 1 hF rfl fun a hF=>lts<|pq 2 hF rfl fun a hF=>pe<|e_callK hF hW rfl rfl en_134 Rl (has_int hn (hR.wd hW) hen (hcall.on hW.below)) fun a w1 hW hF=>pq 1 hF rfl fun a hF=>l_nil<|t_n<|wp_ret<|ret1 Tryz.results99 hF (rv_t hF rfl) ?_
 exact⟨rfl,hW.below⟩
end
section
open Go.ChangeShapes Go.WideShapes Go.ChangeAt Go.RowKit
set_option maxRecDepth 100000
theorem any_getD{α:Type}(d:α)(f:α→Bool)(l:List α):(List.range l.length).any (fun k=>f (l.getD k d))=l.any f:=by
 cases h:l.any f
 ·refine any_false fun k hk=>?_
  cases hf:f (l.getD k d)
  ·rfl
  ·rw[List.any_eq_true.2 ⟨_,mem_getD d hk,hf⟩] at h;cases h
 ·obtain⟨y,hy,hf⟩:=List.any_eq_true.1 h
  obtain⟨k,hk,rfl⟩:=List.mem_iff_getElem.1 hy
  refine any_true hk ?_
  rwa [List.getD,List.getElem?_eq_getElem hk]
theorem any_not{α:Type}(f:α→Bool)(l:List α):l.any (fun y=> !f y)= !l.all f:=by
 induction l with
 |nil=>rfl
 |cons y r ih=>simp[ih]
def badPut(cs:List Chn)(p:Nat)(m:Int):Bool:=decide ((cs.length:Int)≤m)||(cs.getD m.toNat C0).from_ != p
def badGet(cs:List Chn)(p:Nat)(m:Int):Bool:=decide ((cs.length:Int)≤m)||(cs.getD m.toNat C0).to_ != p
theorem ck1_any{v:Value}{A:Option Addr}{n c:Nat}{w:World}:
  Calls Tryz.prog 89 #[.agg #[v,.slice A n c]] w fun e w'=>e=.returned (.bool (decide (12<n)))∧Below w.heap.size w w':=by
 refine enter Tryz.func89 rfl Tryz.ntmps89 rfl fun a hF=>?_
 have hW:=Wd.start w NoB
 refine c_sr<|pe<|e_box hF hW rfl rfl rfl rfl fun b1 a wc hF hW=>pq 1 hF rfl fun a hF=>lts<|pq 1 hF rfl fun a hF=>pv hF hW (y_loadOwn hF rfl 0 rfl rfl Tryz.underlying41 rfl) fun a hF=>pq 3 hF rfl fun a hF=>l_nil<|t_n<|wp_ret<|ret1 Tryz.results89 hF (rv_t hF rfl) ?_
 exact⟨by simp only[show((12:Int)<(n:Int))=(12<n) from propext Om],hW.below⟩
section
variable {x:SysD} {w:World} {b1:Nat} {T1:TypeId}
theorem ck2_any{n:Int}(hB:Blk w b1 T1 [.slice x.pa x.parts.length x.pc,.slice x.ha x.chans.length x.hc,.slice x.sa x.slots.length x.sc]):
  Calls Tryz.prog 91 #[.int .i64 n,.pointer (some ⟨b1,0,none⟩)] w fun e w'=>e=.returned (.bool (partOk x.parts.length n))∧Below w.heap.size w w':=by
 refine enter Tryz.func91 rfl Tryz.ntmps91 rfl fun a hF=>?_
 have hW:=Wd.start w NoB
 refine c_sr<|pq 1 hF rfl fun a hF=>lts<|pq 2 hF rfl fun a hF=>?_;refine Fr.splitD hF (fun h1 hF=>?_) (fun h1 hF=>?_);refine pq 3 hF rfl fun a hF=>pvg hF hW (y_loadB hF rfl (hB) rfl Tryz.underlying35 rfl) (ws hF rfl rfl) fun a hF=>pq 2 hF rfl fun a hF=>?_;refine Fr.splitD hF (fun h2 hF=>?_) (fun h2 hF=>?_);refine pq 2 hF rfl fun a hF=>l_nil<|t_n<|wp_ret<|ret1 Tryz.results91 hF (rv_t hF rfl) ?_
 exact⟨by simp[partOk, *],hW.below⟩
 refine pq 2 hF rfl fun a hF=>l_nil<|t_n<|wp_ret<|ret1 Tryz.results91 hF (rv_t hF rfl) ?_
 exact⟨by simp[partOk, *],hW.below⟩
 refine pq 8 hF rfl fun a hF=>l_nil<|t_n<|wp_ret<|ret1 Tryz.results91 hF (rv_t hF rfl) ?_
 exact⟨by simp[partOk, *],hW.below⟩
theorem ck3_any{c:Chn}:
  Calls Tryz.prog 93 #[.agg c.cells.toArray] w fun e w'=>e=.returned (.bool (!kindOk c.kind))∧Below w.heap.size w w':=by
 change Calls _ _ #[.agg #[.int .i64 c.kind,.int .i64 c.from_,.int .i64 c.to_]] _ _
 refine enter Tryz.func93 rfl Tryz.ntmps93 rfl fun a hF=>?_
 have hW:=Wd.start w NoB
 refine c_sr<|pe<|e_box hF hW rfl rfl rfl rfl fun b1 a wc hF hW=>pq 1 hF rfl fun a hF=>lts<|pq 1 hF rfl fun a hF=>pv hF hW (y_loadOwn hF rfl 0 rfl rfl Tryz.underlying3 rfl) fun a hF=>pq 1 hF rfl fun a hF=>?_;refine Fr.splitD hF (fun h2 hF=>?_) (fun h2 hF=>?_);refine pq 2 hF rfl fun a hF=>pvg hF hW (y_loadOwn hF rfl 0 rfl rfl Tryz.underlying3 rfl) (ws hF rfl rfl) fun a hF=>pq 1 hF rfl fun a hF=>?_;refine Fr.splitD hF (fun h3 hF=>?_) (fun h3 hF=>?_);refine pq 2 hF rfl fun a hF=>l_nil<|t_n<|wp_ret<|ret1 Tryz.results93 hF (rv_t hF rfl) ?_
 exact⟨by simp[kindOk];simp_all,hW.below⟩
 refine pq 2 hF rfl fun a hF=>l_nil<|t_n<|wp_ret<|ret1 Tryz.results93 hF (rv_t hF rfl) ?_
 exact⟨by simp[kindOk];simp_all,hW.below⟩
 refine pq 6 hF rfl fun a hF=>l_nil<|t_n<|wp_ret<|ret1 Tryz.results93 hF (rv_t hF rfl) ?_
 exact⟨by simp[kindOk];simp_all,hW.below⟩
theorem ck4_any{c:Chn}{b6:Nat}{T6:TypeId}(hB:Blk w b1 T1 [.slice x.pa x.parts.length x.pc,.slice x.ha x.chans.length x.hc,.slice x.sa x.slots.length x.sc])(h6:Blk w b6 T6 [.func (.func 91) #[] #[.pointer (some ⟨b1,0,none⟩)]]):
  Calls Tryz.prog 94 #[.agg c.cells.toArray,.pointer (some ⟨b6,0,none⟩)] w fun e w'=>e=.returned (.bool (!chnOk x.parts.length c))∧Below w.heap.size w w':=by
 change Calls _ _ #[.agg #[.int .i64 c.kind,.int .i64 c.from_,.int .i64 c.to_],_] _ _
 refine enter Tryz.func94 rfl Tryz.ntmps94 rfl fun a hF=>?_
 have hW:=Wd.start w NoB
 refine c_sr<|pe<|e_box hF hW rfl rfl rfl rfl fun b1 a wc hF hW=>pq 1 hF rfl fun a hF=>lts<|pv hF hW (y_loadB hF rfl (h6) rfl Tryz.underlying166 rfl) fun a hF=>pq 1 hF rfl fun a hF=>pv hF hW (y_loadOwn hF rfl 0 rfl rfl Tryz.underlying3 rfl) fun a hF=>pe<|e_callK hF hW rfl rfl en_91 Rl (ck2_any (hB.kept hW.below)) fun a w1 hW hF=>?_;refine Fr.splitB hF (fun h2 hF=>?_) (fun h2 hF=>?_);refine pq 2 hF rfl fun a hF=>?_;replace hF:=hF.ff;refine pvg hF hW (y_loadB hF rfl (h6) rfl Tryz.underlying166 rfl) (ws hF rfl rfl) fun a hF=>pq 1 hF rfl fun a hF=>pvg hF hW (y_loadOwn hF rfl 0 rfl rfl Tryz.underlying3 rfl) (ws hF rfl rfl) fun a hF=>?_;refine pe (e_callK hF hW rfl rfl en_91 Rl (ck2_any (hB.kept hW.below)) ?_) (ws hF rfl rfl);intro a w1 hW hF;refine Fr.splitB hF (fun h3 hF=>?_) (fun h3 hF=>?_);refine pq 2 hF rfl fun a hF=>?_;replace hF:=hF.ff;refine pq 1 hF rfl fun a hF=>?_;replace hF:=hF.ff;refine pq 1 hF rfl fun a hF=>pvg hF hW (y_loadOwn hF rfl 0 rfl rfl Tryz.underlying3 rfl) (ws hF rfl rfl) fun a hF=>pq 1 hF rfl fun a hF=>pvg hF hW (y_loadOwn hF rfl 0 rfl rfl Tryz.underlying3 rfl) (ws hF rfl rfl) fun a hF=>pq 1 hF rfl fun a hF=>?_;refine Fr.splitD hF (fun h4 hF=>?_) (fun h4 hF=>?_);refine pq 2 hF rfl fun a hF=>l_nil ?_;replace hF:=hF.ks [0,1,2,3] rfl;refine t_n<|wp_ret<|ret1 Tryz.results94 hF (rv_t hF rfl) ?_
 exact⟨by simp[chnOk, *],hW.below⟩
 refine pq 2 hF rfl fun a hF=>l_nil ?_;replace hF:=hF.ks [0,1,2,3] rfl;refine t_n<|wp_ret<|ret1 Tryz.results94 hF (rv_t hF rfl) ?_
 exact⟨by simp[chnOk, *],hW.below⟩
 refine pq 2 hF rfl fun a hF=>?_;replace hF:=hF.tt;refine pq 1 hF rfl fun a hF=>?_;replace hF:=hF.tt;refine pq 7 hF rfl fun a hF=>l_nil ?_;replace hF:=hF.ks [0,1,2,3] rfl;refine t_n<|wp_ret<|ret1 Tryz.results94 hF (rv_t hF rfl) ?_
 exact⟨by simp[chnOk, *],hW.below⟩
 refine pq 2 hF rfl fun a hF=>?_;replace hF:=hF.tt;refine pq 14 hF rfl fun a hF=>l_nil ?_;replace hF:=hF.ks [0,1,2,3] rfl;refine t_n<|wp_ret<|ret1 Tryz.results94 hF (rv_t hF rfl) ?_
 exact⟨by simp[chnOk, *],hW.below⟩
theorem ck5_any{c:Slt}{b6:Nat}{T6:TypeId}(hB:Blk w b1 T1 [.slice x.pa x.parts.length x.pc,.slice x.ha x.chans.length x.hc,.slice x.sa x.slots.length x.sc])(h6:Blk w b6 T6 [.func (.func 91) #[] #[.pointer (some ⟨b1,0,none⟩)]]):
  Calls Tryz.prog 96 #[.agg c.cells.toArray,.pointer (some ⟨b6,0,none⟩)] w fun e w'=>e=.returned (.bool (!sltOk x.parts.length c))∧Below w.heap.size w w':=by
 change Calls _ _ #[.agg #[.int .i64 c.part,.int .i64 c.ticks],_] _ _
 refine enter Tryz.func96 rfl Tryz.ntmps96 rfl fun a hF=>?_
 have hW:=Wd.start w NoB
 refine c_sr<|pe<|e_box hF hW rfl rfl rfl rfl fun b1 a wc hF hW=>pq 1 hF rfl fun a hF=>lts<|pv hF hW (y_loadB hF rfl (h6) rfl Tryz.underlying166 rfl) fun a hF=>pq 1 hF rfl fun a hF=>pv hF hW (y_loadOwn hF rfl 0 rfl rfl Tryz.underlying3 rfl) fun a hF=>pe<|e_callK hF hW rfl rfl en_91 Rl (ck2_any (hB.kept hW.below)) fun a w1 hW hF=>?_;refine Fr.splitB hF (fun h2 hF=>?_) (fun h2 hF=>?_);refine pq 2 hF rfl fun a hF=>?_;replace hF:=hF.ff;refine pq 1 hF rfl fun a hF=>pvg hF hW (y_loadOwn hF rfl 0 rfl rfl Tryz.underlying3 rfl) (ws hF rfl rfl) fun a hF=>pq 1 hF rfl fun a hF=>?_;refine Fr.splitD hF (fun h3 hF=>?_) (fun h3 hF=>?_);refine pq 7 hF rfl fun a hF=>l_nil ?_;replace hF:=hF.ks [0,1,2,3] rfl;refine t_n<|wp_ret<|ret1 Tryz.results96 hF (rv_t hF rfl) ?_
 focus
  exact⟨by first|(simp[sltOk, *];done)|(simp[sltOk, *];omega),hW.below⟩
 refine pq 3 hF rfl fun a hF=>pvg hF hW (y_loadOwn hF rfl 0 rfl rfl Tryz.underlying3 rfl) (ws hF rfl rfl) fun a hF=>pq 1 hF rfl fun a hF=>?_;refine Fr.splitD hF (fun h4 hF=>?_) (fun h4 hF=>?_);refine pq 2 hF rfl fun a hF=>l_nil ?_;replace hF:=hF.ks [0,1,2,3] rfl;refine t_n<|wp_ret<|ret1 Tryz.results96 hF (rv_t hF rfl) ?_
 focus
  exact⟨by first|(simp[sltOk, *];done)|(simp[sltOk, *];omega),hW.below⟩
 refine pq 2 hF rfl fun a hF=>l_nil ?_;replace hF:=hF.ks [0,1,2,3] rfl;refine t_n<|wp_ret<|ret1 Tryz.results96 hF (rv_t hF rfl) ?_
 focus
  exact⟨by first|(simp[sltOk, *];done)|(simp[sltOk, *];omega),hW.below⟩
 refine pq 2 hF rfl fun a hF=>?_;replace hF:=hF.tt;refine pq 10 hF rfl fun a hF=>l_nil ?_;replace hF:=hF.ks [0,1,2,3] rfl;refine t_n<|wp_ret<|ret1 Tryz.results96 hF (rv_t hF rfl) ?_
 focus
  exact⟨by first|(simp[sltOk, *];done)|(simp[sltOk, *];omega),hW.below⟩
theorem ck6_any{b7 p m:Nat}{T7:TypeId}(hx:x.At w)(hB:Blk w b1 T1 [.slice x.pa x.parts.length x.pc,.slice x.ha x.chans.length x.hc,.slice x.sa x.slots.length x.sc])(h7:Blk w b7 T7 [.int .i64 p]):
  Calls Tryz.prog 100 #[.int .i64 m,.pointer (some ⟨b1,0,none⟩),.pointer (some ⟨b7,0,none⟩)] w fun e w'=>e=.returned (.bool (badPut x.chans p m))∧Below w.heap.size w w':=by
 refine enter Tryz.func100 rfl Tryz.ntmps100 rfl fun a hF=>?_
 have hW:=Wd.start w NoB
 refine c_sr<|pq 1 hF rfl fun a hF=>l_nil<|t_n<|c_sd mixed_ok hW (hW) ?_
 clear hW;intro wc hW hS
 refine dq 2 [0,1] hF hS rfl fun a hF=>dv 2 rfl hF hS (y_loadB hF rfl (hB) rfl Tryz.underlying36 rfl) fun a hF=>dq 2 [3,4] hF hS rfl fun a hF=>?_;refine Fr.splitD hF (fun h1 hF=>?_) (fun h1 hF=>?_);refine dq 11 [5,6,7,8,9,10,11,12,13,14,15] hF hS rfl fun a hF=>?_;clear hS;refine d_nil Kr ?_;replace hF:=hF.ks [0,1,2,4] rfl;refine t_n<|wp_ret<|ret1 Tryz.results100 hF (rv_t hF rfl) ?_
 exact⟨by unfold badPut;rw[Int.toNat_natCast];first|(rw[decide_eq_true Om];rfl)|(rw[decide_eq_false Om];simp_all),hW.below⟩
 refine dq 2 [5,6] hF hS rfl fun a hF=>dvg 7 rfl hF hS (y_loadB hF rfl (hB) rfl Tryz.underlying36 rfl) (ws hF rfl rfl) fun a hF=>dq 1 [8] hF hS rfl fun a hF=>dvg 9 rfl hF hS (y_indexS hF rfl rfl Od Tryz.underlying36 sz_121 (fun w h=>(hx.chansR).wd h)) (ws hF rfl rfl) fun a hF=>dvg 10 rfl hF hS (y_fieldRow hF rfl fa_121_1) (ws hF rfl rfl) fun a hF=>dvg 11 rfl hF hS (y_loadRow hF rfl (fun w h=>(hx.chansR).wd h) Od rfl Tryz.underlying3 rfl) (ws hF rfl rfl) fun a hF=>dvg 12 rfl hF hS (y_loadB hF rfl (h7) rfl Tryz.underlying3 rfl) (ws hF rfl rfl) fun a hF=>dq 1 [13] hF hS rfl fun a hF=>?_;refine Fr.splitD hF (fun h2 hF=>?_) (fun h2 hF=>?_);refine dq 2 [14,15] hF hS rfl fun a hF=>?_;clear hS;refine d_nil Kr ?_;replace hF:=hF.ks [0,1,2,4] rfl;refine t_n<|wp_ret<|ret1 Tryz.results100 hF (rv_t hF rfl) ?_
 exact⟨by unfold badPut;rw[Int.toNat_natCast];first|(rw[decide_eq_true Om];rfl)|(rw[decide_eq_false Om];simp_all),hW.below⟩
 refine dq 2 [14,15] hF hS rfl fun a hF=>?_;clear hS;refine d_nil Kr ?_;replace hF:=hF.ks [0,1,2,4] rfl;refine t_n<|wp_ret<|ret1 Tryz.results100 hF (rv_t hF rfl) ?_
 exact⟨by unfold badPut;rw[Int.toNat_natCast];first|(rw[decide_eq_true Om];rfl)|(rw[decide_eq_false Om];simp_all),hW.below⟩
theorem ck7_any{b7 p m:Nat}{T7:TypeId}(hx:x.At w)(hB:Blk w b1 T1 [.slice x.pa x.parts.length x.pc,.slice x.ha x.chans.length x.hc,.slice x.sa x.slots.length x.sc])(h7:Blk w b7 T7 [.int .i64 p]):
  Calls Tryz.prog 101 #[.int .i64 m,.pointer (some ⟨b1,0,none⟩),.pointer (some ⟨b7,0,none⟩)] w fun e w'=>e=.returned (.bool (badGet x.chans p m))∧Below w.heap.size w w':=by
 refine enter Tryz.func101 rfl Tryz.ntmps101 rfl fun a hF=>?_
 have hW:=Wd.start w NoB
 refine c_sr<|pq 1 hF rfl fun a hF=>l_nil<|t_n<|c_sd mixed_ok hW (hW) ?_
 clear hW;intro wc hW hS
 refine dq 2 [0,1] hF hS rfl fun a hF=>dv 2 rfl hF hS (y_loadB hF rfl (hB) rfl Tryz.underlying36 rfl) fun a hF=>dq 2 [3,4] hF hS rfl fun a hF=>?_;refine Fr.splitD hF (fun h1 hF=>?_) (fun h1 hF=>?_);refine dq 11 [5,6,7,8,9,10,11,12,13,14,15] hF hS rfl fun a hF=>?_;clear hS;refine d_nil Kr ?_;replace hF:=hF.ks [0,1,2,4] rfl;refine t_n<|wp_ret<|ret1 Tryz.results101 hF (rv_t hF rfl) ?_
 exact⟨by unfold badGet;rw[Int.toNat_natCast];first|(rw[decide_eq_true Om];rfl)|(rw[decide_eq_false Om];simp_all),hW.below⟩
 refine dq 2 [5,6] hF hS rfl fun a hF=>dvg 7 rfl hF hS (y_loadB hF rfl (hB) rfl Tryz.underlying36 rfl) (ws hF rfl rfl) fun a hF=>dq 1 [8] hF hS rfl fun a hF=>dvg 9 rfl hF hS (y_indexS hF rfl rfl Od Tryz.underlying36 sz_121 (fun w h=>(hx.chansR).wd h)) (ws hF rfl rfl) fun a hF=>dvg 10 rfl hF hS (y_fieldRow hF rfl fa_121_2) (ws hF rfl rfl) fun a hF=>dvg 11 rfl hF hS (y_loadRow hF rfl (fun w h=>(hx.chansR).wd h) Od rfl Tryz.underlying3 rfl) (ws hF rfl rfl) fun a hF=>dvg 12 rfl hF hS (y_loadB hF rfl (h7) rfl Tryz.underlying3 rfl) (ws hF rfl rfl) fun a hF=>dq 1 [13] hF hS rfl fun a hF=>?_;refine Fr.splitD hF (fun h2 hF=>?_) (fun h2 hF=>?_);refine dq 2 [14,15] hF hS rfl fun a hF=>?_;clear hS;refine d_nil Kr ?_;replace hF:=hF.ks [0,1,2,4] rfl;refine t_n<|wp_ret<|ret1 Tryz.results101 hF (rv_t hF rfl) ?_
 exact⟨by unfold badGet;rw[Int.toNat_natCast];first|(rw[decide_eq_true Om];rfl)|(rw[decide_eq_false Om];simp_all),hW.below⟩
 refine dq 2 [14,15] hF hS rfl fun a hF=>?_;clear hS;refine d_nil Kr ?_;replace hF:=hF.ks [0,1,2,4] rfl;refine t_n<|wp_ret<|ret1 Tryz.results101 hF (rv_t hF rfl) ?_
 exact⟨by unfold badGet;rw[Int.toNat_natCast];first|(rw[decide_eq_true Om];rfl)|(rw[decide_eq_false Om];simp_all),hW.below⟩
theorem tells1:Tells w x.parts.length (fun k=>.agg (encP (x.parts.getD k P0)).toArray) 89 #[] (fun k=>(fun q:PP=>decide (12<q.1.inp.length)) (x.parts.getD k P0)):=fun _ _ _ _=>ck1_any
theorem tells3:Tells w x.chans.length (fun k=>.agg (Chn.cells (x.chans.getD k C0)).toArray) 93 #[] (fun k=>(fun c:Chn=> !kindOk c.kind) (x.chans.getD k C0)):=fun _ _ _ _=>ck3_any
theorem tells4{b6:Nat}{T6:TypeId}(hB:Blk w b1 T1 [.slice x.pa x.parts.length x.pc,.slice x.ha x.chans.length x.hc,.slice x.sa x.slots.length x.sc])(h6:Blk w b6 T6 [.func (.func 91) #[] #[.pointer (some ⟨b1,0,none⟩)]]):
  Tells w x.chans.length (fun k=>.agg (Chn.cells (x.chans.getD k C0)).toArray) 94 #[.pointer (some ⟨b6,0,none⟩)] (fun k=>(fun c:Chn=> !chnOk x.parts.length c) (x.chans.getD k C0)):=fun _ _ _ hb=>ck4_any (hB.kept hb) (h6.kept hb)
theorem tells5{b6:Nat}{T6:TypeId}(hB:Blk w b1 T1 [.slice x.pa x.parts.length x.pc,.slice x.ha x.chans.length x.hc,.slice x.sa x.slots.length x.sc])(h6:Blk w b6 T6 [.func (.func 91) #[] #[.pointer (some ⟨b1,0,none⟩)]]):
  Tells w x.slots.length (fun k=>.agg (Slt.cells (x.slots.getD k S0)).toArray) 96 #[.pointer (some ⟨b6,0,none⟩)] (fun k=>(fun c:Slt=> !sltOk x.parts.length c) (x.slots.getD k S0)):=fun _ _ _ hb=>ck5_any (hB.kept hb) (h6.kept hb)
theorem tells6{b7 p:Nat}{T7:TypeId}{l:List Int}(hl:∀m,m∈l→0≤m)(hx:x.At w)(hB:Blk w b1 T1 [.slice x.pa x.parts.length x.pc,.slice x.ha x.chans.length x.hc,.slice x.sa x.slots.length x.sc])(h7:Blk w b7 T7 [.int .i64 p]):
  Tells w l.length (fun k=>.int .i64 (l.getD k 0)) 100 #[.pointer (some ⟨b1,0,none⟩),.pointer (some ⟨b7,0,none⟩)] (fun k=>badPut x.chans p (l.getD k 0)):=fun k w1 hk hb=>by
 obtain⟨m,hm⟩:∃m:Nat,l.getD k 0=m:=⟨_,(Int.toNat_of_nonneg (hl _ (mem_getD 0 hk))).symm⟩
 dsimp only
 rw[hm]
 exact ck6_any (hx.below hb) (hB.kept hb) (h7.kept hb)
theorem tells7{b7 p:Nat}{T7:TypeId}{l:List Int}(hl:∀m,m∈l→0≤m)(hx:x.At w)(hB:Blk w b1 T1 [.slice x.pa x.parts.length x.pc,.slice x.ha x.chans.length x.hc,.slice x.sa x.slots.length x.sc])(h7:Blk w b7 T7 [.int .i64 p]):
  Tells w l.length (fun k=>.int .i64 (l.getD k 0)) 101 #[.pointer (some ⟨b1,0,none⟩),.pointer (some ⟨b7,0,none⟩)] (fun k=>badGet x.chans p (l.getD k 0)):=fun k w1 hk hb=>by
 obtain⟨m,hm⟩:∃m:Nat,l.getD k 0=m:=⟨_,(Int.toNat_of_nonneg (hl _ (mem_getD 0 hk))).symm⟩
 dsimp only
 rw[hm]
 exact ck7_any (hx.below hb) (hB.kept hb) (h7.kept hb)
end
end
end Go.Proofs.YtndcjmopebcdgaaGreatDoor
