/- slices.IndexFunc, slices.ContainsFunc and conf.some at the four types at hand: is it so of one of them? The tests that conf.Check hands to some: what each tells. -/
import Derived.Test.YtndcjmopebcdgaaGreatEng
import Derived.Test.YtndcjmopebcdgaaGreatTys
import Derived.Test.YtndcjmopebcdgaaGreatSysB
set_option linter.unusedSimpArgs false
set_option linter.unusedVariables false
namespace Go.Proofs.YtndcjmopebcdgaaGreat
section
open Go.ChangeShapes Go.WideShapes Go.ChangeAt Go.RowKit
set_option maxRecDepth 100000
theorem any_true{n k:Nat}{P:Nat→Bool}(hk:k<n)(h:P k=true):(List.range n).any P=true:=List.any_eq_true.2 ⟨k,List.mem_range.2 hk,h⟩
theorem any_false{n:Nat}{P:Nat→Bool}(h:∀i,i<n→P i=false):(List.range n).any P=false:=by
 cases ha:(List.range n).any P
 ·rfl
 ·obtain⟨k,hk,hp⟩:=List.any_eq_true.1 ha
  rw[h k (List.mem_range.1 hk)] at hp;cases hp
def Tells(w:World)(n:Nat)(el:Nat→Value)(g:FuncId)(cap:Array Value)(P:Nat→Bool):Prop:=
 ∀k w1,k<n→Below w.heap.size w w1→Calls Tryz.prog g (#[el k]++cap) w1 fun e w'=>e=.returned (.bool (P k))∧Below w1.heap.size w1 w'
theorem Tells.on{w w1:World}{n:Nat}{el:Nat→Value}{g:FuncId}{cap:Array Value}{P:Nat→Bool}(h:Tells w n el g cap P)(hb:Below w.heap.size w w1):Tells w1 n el g cap P:=
 fun k _ hk hb2=>h k _ hk (Below.on hb hb2)
theorem idx_part{A:Option Addr}{n c:Nat}{f:Nat→List Value}{g:FuncId}{cap:Array Value}{P:Nat→Bool}{w:World}(hn:n≤maxLen)(hR:RF w A n 2 f)(hlen:∀k,(f k).length=2)(hen:Enters Tryz.prog g)(hcall:Tells w n (fun k=>.agg (f k).toArray) g cap P):
  Calls Tryz.prog 104 #[.slice A n c,.func (.func g) #[] cap] w fun e w'=>∃r:Int,e=.returned (.int .i64 r)∧decide (0≤r)=(List.range n).any P∧Below w.heap.size w w':=by
 unfold maxLen at hn
 refine enter Tryz.func104 rfl Tryz.ntmps104 rfl fun a hF=>?_
 have hW:=Wd.start w NoB
 refine c_sr<|pv hF hW (y_assign hF rfl) fun a hF=>l_nil<|t_n<|c_s<|c_sr<|pv hF hW (y_move hF rfl) fun a hF=>pv hF hW (y_len hF rfl Tryz.underlying22) fun a hF=>pv hF hW (y_move hF rfl) fun a hF=>l_nil ?_;replace hF:=hF.ks [0,1,4,7,8] rfl;refine t_n<|wp_block ?_;refine c_loop (G:=Nat) (fun k:Nat=>[(8,.int .i64 (k:Int))]) (fun k:Nat=>[]) (fun k:Nat=>k≤n∧∀i,i<k→P i=false) (fun k:Nat=>n - k) 0 (hF.ks [0,1,7] rfl) (Fr.cons hF (t:=8) rfl Rg (Fr.nil hF)) (hW) ?_ ?_
 ·exact⟨by omega,fun i hi=>by omega⟩
 clear hF hW
 try clear a
 intro k a wc hC hF hW
 obtain⟨hk,hno⟩:=hC
 refine c_sr<|pv hF hW (y_lss hF rfl rfl) fun a hF=>?_;refine Fr.splitD hF ?_ ?_
 ·intro h1 hF;refine l_nil<|t_n<|c_s<|c_t hF rfl<|wp_skip<|t_n<|c_s<|wp_block<|c_sr<|pv hF hW (y_move hF rfl) fun a hF=>pv hF hW (y_assign hF rfl) fun a hF=>l_nil ?_;replace hF:=hF.ks [0,1,5,7,8,9] rfl;refine t_n<|c_sr<|pv hF hW (y_move hF rfl) fun a hF=>pv hF hW (y_move hF rfl) fun a hF=>pv hF hW (y_move hF rfl) fun a hF=>pv hF hW (y_indexS hF rfl rfl Od Tryz.underlying22 sz_49 (fun w h=>(hR).wd h)) fun a hF=>pv hF hW (y_loadRowW hF rfl (fun w h=>(hR).wd h) Od Tryz.underlying49 rfl (by rw[hlen];exact sz_49)) fun a hF=>?_;refine pe (e_call hF rfl rfl hen Rl rfl rfl (hcall k _ Om hW.below) ?_);rintro e w1 ⟨rfl,hb⟩;replace hW:=hW.kept hb;clear hb;refine⟨_,rfl,fun a hF=>?_⟩;refine Fr.splitB hF ?_ ?_
  ·intro h2 hF;refine l_nil ?_;replace hF:=hF.ks [0,1,5,7,8,9,16] rfl;refine t_n<|c_t hF rfl<|c_sr<|pv hF hW (y_move hF rfl) fun a hF=>pv hF hW (y_assign hF rfl) fun a hF=>l_nil ?_;replace hF:=hF.ks [0,1,4,5,7,8,9,16] rfl;refine t_n<|wp_ret<|b_r<|t_r<|t_r<|b_r<|t_r<|ret1 Tryz.results104 hF (rv_t hF rfl) ?_
   exact⟨_,rfl,by rw[any_true (k:=k) Om Am];exact decide_eq_true Om,hW.below⟩
  ·intro h2 hF;refine l_nil ?_;replace hF:=hF.ks [0,1,5,7,8,9,16] rfl;refine t_n<|c_f hF rfl<|wp_skip<|b_n<|t_n<|c_r<|pv hF hW (y_add hF rfl rfl (IntWalk.i64_in _ Om)) fun a hF=>?_;replace hF:=hF.drop 8;refine pv hF hW (y_move hF rfl) fun a hF=>l_nil ?_;replace hF:=hF.ks [0,1,5,7,8,9,16] rfl;refine t_n ?_;refine⟨(k+1),?_,?_,?_,?_⟩
   ·exact⟨by omega,fun i hi=>by rcases Nat.lt_or_ge i k with h|h;exact hno i h;(have hik:i=k:=by omega);rw[hik];assumption⟩
   ·first|omega|(dsimp only;omega)
   ·exact Fr.app (Fr.cons hF (t:=8) rfl Rf (Fr.nil hF)) (hF.ks [0,1,7] rfl)
   ·exact hW
 ·intro h1 hF;refine l_nil<|t_n<|c_s<|c_f hF rfl<|wp_exit<|t_x<|t_x<|b_h<|t_n<|c_sr<|pv hF hW (y_assign hF rfl) fun a hF=>l_nil<|t_n<|wp_ret<|ret1 Tryz.results104 hF (rv_t hF rfl) ?_
  exact⟨_,rfl,by rw[any_false fun i hi=>hno i Om];rfl,hW.below⟩
theorem has_part{A:Option Addr}{n c:Nat}{f:Nat→List Value}{g:FuncId}{cap:Array Value}{P:Nat→Bool}{w:World}(hn:n≤maxLen)(hR:RF w A n 2 f)(hlen:∀k,(f k).length=2)(hen:Enters Tryz.prog g)(hcall:Tells w n (fun k=>.agg (f k).toArray) g cap P):
  Calls Tryz.prog 92 #[.slice A n c,.func (.func g) #[] cap] w fun e w'=>e=.returned (.bool ((List.range n).any P))∧Below w.heap.size w w':=by
 refine enter Tryz.func92 rfl Tryz.ntmps92 rfl fun a hF=>?_
 have hW:=Wd.start w NoB
 refine c_sr<|pv hF hW (y_assign hF rfl) fun a hF=>l_nil<|t_n<|c_sr<|pv hF hW (y_move hF rfl) fun a hF=>pv hF hW (y_move hF rfl) fun a hF=>?_;refine pe (e_call hF rfl rfl en_104 Rl rfl rfl (idx_part hn (hR.wd hW) hlen hen (hcall.on hW.below)) ?_);rintro e w1 ⟨r,rfl,hr,hb⟩;replace hW:=hW.kept hb;clear hb;refine⟨_,rfl,fun a hF=>?_⟩;refine pv hF hW (y_geq hF rfl rfl) fun a hF=>?_;replace hF:=hF.drop 4;refine pv hF hW (y_assign hF rfl) fun a hF=>l_nil ?_;replace hF:=hF.ks [0,1,4] rfl;refine t_n<|wp_ret<|ret1 Tryz.results92 hF (rv_t hF rfl) ?_
 exact⟨by rw[←hr],hW.below⟩
theorem some_part{A:Option Addr}{n c:Nat}{f:Nat→List Value}{g:FuncId}{cap:Array Value}{P:Nat→Bool}{w:World}(hn:n≤maxLen)(hR:RF w A n 2 f)(hlen:∀k,(f k).length=2)(hen:Enters Tryz.prog g)(hcall:Tells w n (fun k=>.agg (f k).toArray) g cap P):
  Calls Tryz.prog 66 #[.slice A n c,.func (.func g) #[] cap] w fun e w'=>e=.returned (.bool ((List.range n).any P))∧Below w.heap.size w w':=by
 refine enter Tryz.func66 rfl Tryz.ntmps66 rfl fun a hF=>?_
 have hW:=Wd.start w NoB
 refine c_sr<|pv hF hW (y_assign hF rfl) fun a hF=>l_nil<|t_n<|c_sr<|pv hF hW (y_move hF rfl) fun a hF=>pv hF hW (y_move hF rfl) fun a hF=>?_;refine pe (e_call hF rfl rfl en_92 Rl rfl rfl (has_part hn (hR.wd hW) hlen hen (hcall.on hW.below)) ?_);rintro e w1 ⟨rfl,hb⟩;replace hW:=hW.kept hb;clear hb;refine⟨_,rfl,fun a hF=>?_⟩;replace hF:=hF.drop 4;refine pv hF hW (y_assign hF rfl) fun a hF=>l_nil ?_;replace hF:=hF.ks [0,1,4] rfl;refine t_n<|wp_ret<|ret1 Tryz.results66 hF (rv_t hF rfl) ?_
 exact⟨rfl,hW.below⟩
theorem idx_chan{A:Option Addr}{n c:Nat}{f:Nat→List Value}{g:FuncId}{cap:Array Value}{P:Nat→Bool}{w:World}(hn:n≤maxLen)(hR:RF w A n 3 f)(hlen:∀k,(f k).length=3)(hen:Enters Tryz.prog g)(hcall:Tells w n (fun k=>.agg (f k).toArray) g cap P):
  Calls Tryz.prog 108 #[.slice A n c,.func (.func g) #[] cap] w fun e w'=>∃r:Int,e=.returned (.int .i64 r)∧decide (0≤r)=(List.range n).any P∧Below w.heap.size w w':=by
 unfold maxLen at hn
 refine enter Tryz.func108 rfl Tryz.ntmps108 rfl fun a hF=>?_
 have hW:=Wd.start w NoB
 refine c_sr<|pv hF hW (y_assign hF rfl) fun a hF=>l_nil<|t_n<|c_s<|c_sr<|pv hF hW (y_move hF rfl) fun a hF=>pv hF hW (y_len hF rfl Tryz.underlying23) fun a hF=>pv hF hW (y_move hF rfl) fun a hF=>l_nil ?_;replace hF:=hF.ks [0,1,4,7,8] rfl;refine t_n<|wp_block ?_;refine c_loop (G:=Nat) (fun k:Nat=>[(8,.int .i64 (k:Int))]) (fun k:Nat=>[]) (fun k:Nat=>k≤n∧∀i,i<k→P i=false) (fun k:Nat=>n - k) 0 (hF.ks [0,1,7] rfl) (Fr.cons hF (t:=8) rfl Rg (Fr.nil hF)) (hW) ?_ ?_
 ·exact⟨by omega,fun i hi=>by omega⟩
 clear hF hW
 try clear a
 intro k a wc hC hF hW
 obtain⟨hk,hno⟩:=hC
 refine c_sr<|pv hF hW (y_lss hF rfl rfl) fun a hF=>?_;refine Fr.splitD hF ?_ ?_
 ·intro h1 hF;refine l_nil<|t_n<|c_s<|c_t hF rfl<|wp_skip<|t_n<|c_s<|wp_block<|c_sr<|pv hF hW (y_move hF rfl) fun a hF=>pv hF hW (y_assign hF rfl) fun a hF=>l_nil ?_;replace hF:=hF.ks [0,1,5,7,8,9] rfl;refine t_n<|c_sr<|pv hF hW (y_move hF rfl) fun a hF=>pv hF hW (y_move hF rfl) fun a hF=>pv hF hW (y_move hF rfl) fun a hF=>pv hF hW (y_indexS hF rfl rfl Od Tryz.underlying23 sz_67 (fun w h=>(hR).wd h)) fun a hF=>pv hF hW (y_loadRowW hF rfl (fun w h=>(hR).wd h) Od Tryz.underlying67 rfl (by rw[hlen];exact sz_67)) fun a hF=>?_;refine pe (e_call hF rfl rfl hen Rl rfl rfl (hcall k _ Om hW.below) ?_);rintro e w1 ⟨rfl,hb⟩;replace hW:=hW.kept hb;clear hb;refine⟨_,rfl,fun a hF=>?_⟩;refine Fr.splitB hF ?_ ?_
  ·intro h2 hF;refine l_nil ?_;replace hF:=hF.ks [0,1,5,7,8,9,16] rfl;refine t_n<|c_t hF rfl<|c_sr<|pv hF hW (y_move hF rfl) fun a hF=>pv hF hW (y_assign hF rfl) fun a hF=>l_nil ?_;replace hF:=hF.ks [0,1,4,5,7,8,9,16] rfl;refine t_n<|wp_ret<|b_r<|t_r<|t_r<|b_r<|t_r<|ret1 Tryz.results108 hF (rv_t hF rfl) ?_
   exact⟨_,rfl,by rw[any_true (k:=k) Om Am];exact decide_eq_true Om,hW.below⟩
  ·intro h2 hF;refine l_nil ?_;replace hF:=hF.ks [0,1,5,7,8,9,16] rfl;refine t_n<|c_f hF rfl<|wp_skip<|b_n<|t_n<|c_r<|pv hF hW (y_add hF rfl rfl (IntWalk.i64_in _ Om)) fun a hF=>?_;replace hF:=hF.drop 8;refine pv hF hW (y_move hF rfl) fun a hF=>l_nil ?_;replace hF:=hF.ks [0,1,5,7,8,9,16] rfl;refine t_n ?_;refine⟨(k+1),?_,?_,?_,?_⟩
   ·exact⟨by omega,fun i hi=>by rcases Nat.lt_or_ge i k with h|h;exact hno i h;(have hik:i=k:=by omega);rw[hik];assumption⟩
   ·first|omega|(dsimp only;omega)
   ·exact Fr.app (Fr.cons hF (t:=8) rfl Rf (Fr.nil hF)) (hF.ks [0,1,7] rfl)
   ·exact hW
 ·intro h1 hF;refine l_nil<|t_n<|c_s<|c_f hF rfl<|wp_exit<|t_x<|t_x<|b_h<|t_n<|c_sr<|pv hF hW (y_assign hF rfl) fun a hF=>l_nil<|t_n<|wp_ret<|ret1 Tryz.results108 hF (rv_t hF rfl) ?_
  exact⟨_,rfl,by rw[any_false fun i hi=>hno i Om];rfl,hW.below⟩
theorem has_chan{A:Option Addr}{n c:Nat}{f:Nat→List Value}{g:FuncId}{cap:Array Value}{P:Nat→Bool}{w:World}(hn:n≤maxLen)(hR:RF w A n 3 f)(hlen:∀k,(f k).length=3)(hen:Enters Tryz.prog g)(hcall:Tells w n (fun k=>.agg (f k).toArray) g cap P):
  Calls Tryz.prog 94 #[.slice A n c,.func (.func g) #[] cap] w fun e w'=>e=.returned (.bool ((List.range n).any P))∧Below w.heap.size w w':=by
 refine enter Tryz.func94 rfl Tryz.ntmps94 rfl fun a hF=>?_
 have hW:=Wd.start w NoB
 refine c_sr<|pv hF hW (y_assign hF rfl) fun a hF=>l_nil<|t_n<|c_sr<|pv hF hW (y_move hF rfl) fun a hF=>pv hF hW (y_move hF rfl) fun a hF=>?_;refine pe (e_call hF rfl rfl en_108 Rl rfl rfl (idx_chan hn (hR.wd hW) hlen hen (hcall.on hW.below)) ?_);rintro e w1 ⟨r,rfl,hr,hb⟩;replace hW:=hW.kept hb;clear hb;refine⟨_,rfl,fun a hF=>?_⟩;refine pv hF hW (y_geq hF rfl rfl) fun a hF=>?_;replace hF:=hF.drop 4;refine pv hF hW (y_assign hF rfl) fun a hF=>l_nil ?_;replace hF:=hF.ks [0,1,4] rfl;refine t_n<|wp_ret<|ret1 Tryz.results94 hF (rv_t hF rfl) ?_
 exact⟨by rw[←hr],hW.below⟩
theorem some_chan{A:Option Addr}{n c:Nat}{f:Nat→List Value}{g:FuncId}{cap:Array Value}{P:Nat→Bool}{w:World}(hn:n≤maxLen)(hR:RF w A n 3 f)(hlen:∀k,(f k).length=3)(hen:Enters Tryz.prog g)(hcall:Tells w n (fun k=>.agg (f k).toArray) g cap P):
  Calls Tryz.prog 70 #[.slice A n c,.func (.func g) #[] cap] w fun e w'=>e=.returned (.bool ((List.range n).any P))∧Below w.heap.size w w':=by
 refine enter Tryz.func70 rfl Tryz.ntmps70 rfl fun a hF=>?_
 have hW:=Wd.start w NoB
 refine c_sr<|pv hF hW (y_assign hF rfl) fun a hF=>l_nil<|t_n<|c_sr<|pv hF hW (y_move hF rfl) fun a hF=>pv hF hW (y_move hF rfl) fun a hF=>?_;refine pe (e_call hF rfl rfl en_94 Rl rfl rfl (has_chan hn (hR.wd hW) hlen hen (hcall.on hW.below)) ?_);rintro e w1 ⟨rfl,hb⟩;replace hW:=hW.kept hb;clear hb;refine⟨_,rfl,fun a hF=>?_⟩;replace hF:=hF.drop 4;refine pv hF hW (y_assign hF rfl) fun a hF=>l_nil ?_;replace hF:=hF.ks [0,1,4] rfl;refine t_n<|wp_ret<|ret1 Tryz.results70 hF (rv_t hF rfl) ?_
 exact⟨rfl,hW.below⟩
theorem idx_slot{A:Option Addr}{n c:Nat}{f:Nat→List Value}{g:FuncId}{cap:Array Value}{P:Nat→Bool}{w:World}(hn:n≤maxLen)(hR:RF w A n 2 f)(hlen:∀k,(f k).length=2)(hen:Enters Tryz.prog g)(hcall:Tells w n (fun k=>.agg (f k).toArray) g cap P):
  Calls Tryz.prog 109 #[.slice A n c,.func (.func g) #[] cap] w fun e w'=>∃r:Int,e=.returned (.int .i64 r)∧decide (0≤r)=(List.range n).any P∧Below w.heap.size w w':=by
 unfold maxLen at hn
 refine enter Tryz.func109 rfl Tryz.ntmps109 rfl fun a hF=>?_
 have hW:=Wd.start w NoB
 refine c_sr<|pv hF hW (y_assign hF rfl) fun a hF=>l_nil<|t_n<|c_s<|c_sr<|pv hF hW (y_move hF rfl) fun a hF=>pv hF hW (y_len hF rfl Tryz.underlying24) fun a hF=>pv hF hW (y_move hF rfl) fun a hF=>l_nil ?_;replace hF:=hF.ks [0,1,4,7,8] rfl;refine t_n<|wp_block ?_;refine c_loop (G:=Nat) (fun k:Nat=>[(8,.int .i64 (k:Int))]) (fun k:Nat=>[]) (fun k:Nat=>k≤n∧∀i,i<k→P i=false) (fun k:Nat=>n - k) 0 (hF.ks [0,1,7] rfl) (Fr.cons hF (t:=8) rfl Rg (Fr.nil hF)) (hW) ?_ ?_
 ·exact⟨by omega,fun i hi=>by omega⟩
 clear hF hW
 try clear a
 intro k a wc hC hF hW
 obtain⟨hk,hno⟩:=hC
 refine c_sr<|pv hF hW (y_lss hF rfl rfl) fun a hF=>?_;refine Fr.splitD hF ?_ ?_
 ·intro h1 hF;refine l_nil<|t_n<|c_s<|c_t hF rfl<|wp_skip<|t_n<|c_s<|wp_block<|c_sr<|pv hF hW (y_move hF rfl) fun a hF=>pv hF hW (y_assign hF rfl) fun a hF=>l_nil ?_;replace hF:=hF.ks [0,1,5,7,8,9] rfl;refine t_n<|c_sr<|pv hF hW (y_move hF rfl) fun a hF=>pv hF hW (y_move hF rfl) fun a hF=>pv hF hW (y_move hF rfl) fun a hF=>pv hF hW (y_indexS hF rfl rfl Od Tryz.underlying24 sz_85 (fun w h=>(hR).wd h)) fun a hF=>pv hF hW (y_loadRowW hF rfl (fun w h=>(hR).wd h) Od Tryz.underlying85 rfl (by rw[hlen];exact sz_85)) fun a hF=>?_;refine pe (e_call hF rfl rfl hen Rl rfl rfl (hcall k _ Om hW.below) ?_);rintro e w1 ⟨rfl,hb⟩;replace hW:=hW.kept hb;clear hb;refine⟨_,rfl,fun a hF=>?_⟩;refine Fr.splitB hF ?_ ?_
  ·intro h2 hF;refine l_nil ?_;replace hF:=hF.ks [0,1,5,7,8,9,16] rfl;refine t_n<|c_t hF rfl<|c_sr<|pv hF hW (y_move hF rfl) fun a hF=>pv hF hW (y_assign hF rfl) fun a hF=>l_nil ?_;replace hF:=hF.ks [0,1,4,5,7,8,9,16] rfl;refine t_n<|wp_ret<|b_r<|t_r<|t_r<|b_r<|t_r<|ret1 Tryz.results109 hF (rv_t hF rfl) ?_
   exact⟨_,rfl,by rw[any_true (k:=k) Om Am];exact decide_eq_true Om,hW.below⟩
  ·intro h2 hF;refine l_nil ?_;replace hF:=hF.ks [0,1,5,7,8,9,16] rfl;refine t_n<|c_f hF rfl<|wp_skip<|b_n<|t_n<|c_r<|pv hF hW (y_add hF rfl rfl (IntWalk.i64_in _ Om)) fun a hF=>?_;replace hF:=hF.drop 8;refine pv hF hW (y_move hF rfl) fun a hF=>l_nil ?_;replace hF:=hF.ks [0,1,5,7,8,9,16] rfl;refine t_n ?_;refine⟨(k+1),?_,?_,?_,?_⟩
   ·exact⟨by omega,fun i hi=>by rcases Nat.lt_or_ge i k with h|h;exact hno i h;(have hik:i=k:=by omega);rw[hik];assumption⟩
   ·first|omega|(dsimp only;omega)
   ·exact Fr.app (Fr.cons hF (t:=8) rfl Rf (Fr.nil hF)) (hF.ks [0,1,7] rfl)
   ·exact hW
 ·intro h1 hF;refine l_nil<|t_n<|c_s<|c_f hF rfl<|wp_exit<|t_x<|t_x<|b_h<|t_n<|c_sr<|pv hF hW (y_assign hF rfl) fun a hF=>l_nil<|t_n<|wp_ret<|ret1 Tryz.results109 hF (rv_t hF rfl) ?_
  exact⟨_,rfl,by rw[any_false fun i hi=>hno i Om];rfl,hW.below⟩
theorem has_slot{A:Option Addr}{n c:Nat}{f:Nat→List Value}{g:FuncId}{cap:Array Value}{P:Nat→Bool}{w:World}(hn:n≤maxLen)(hR:RF w A n 2 f)(hlen:∀k,(f k).length=2)(hen:Enters Tryz.prog g)(hcall:Tells w n (fun k=>.agg (f k).toArray) g cap P):
  Calls Tryz.prog 95 #[.slice A n c,.func (.func g) #[] cap] w fun e w'=>e=.returned (.bool ((List.range n).any P))∧Below w.heap.size w w':=by
 refine enter Tryz.func95 rfl Tryz.ntmps95 rfl fun a hF=>?_
 have hW:=Wd.start w NoB
 refine c_sr<|pv hF hW (y_assign hF rfl) fun a hF=>l_nil<|t_n<|c_sr<|pv hF hW (y_move hF rfl) fun a hF=>pv hF hW (y_move hF rfl) fun a hF=>?_;refine pe (e_call hF rfl rfl en_109 Rl rfl rfl (idx_slot hn (hR.wd hW) hlen hen (hcall.on hW.below)) ?_);rintro e w1 ⟨r,rfl,hr,hb⟩;replace hW:=hW.kept hb;clear hb;refine⟨_,rfl,fun a hF=>?_⟩;refine pv hF hW (y_geq hF rfl rfl) fun a hF=>?_;replace hF:=hF.drop 4;refine pv hF hW (y_assign hF rfl) fun a hF=>l_nil ?_;replace hF:=hF.ks [0,1,4] rfl;refine t_n<|wp_ret<|ret1 Tryz.results95 hF (rv_t hF rfl) ?_
 exact⟨by rw[←hr],hW.below⟩
theorem some_slot{A:Option Addr}{n c:Nat}{f:Nat→List Value}{g:FuncId}{cap:Array Value}{P:Nat→Bool}{w:World}(hn:n≤maxLen)(hR:RF w A n 2 f)(hlen:∀k,(f k).length=2)(hen:Enters Tryz.prog g)(hcall:Tells w n (fun k=>.agg (f k).toArray) g cap P):
  Calls Tryz.prog 73 #[.slice A n c,.func (.func g) #[] cap] w fun e w'=>e=.returned (.bool ((List.range n).any P))∧Below w.heap.size w w':=by
 refine enter Tryz.func73 rfl Tryz.ntmps73 rfl fun a hF=>?_
 have hW:=Wd.start w NoB
 refine c_sr<|pv hF hW (y_assign hF rfl) fun a hF=>l_nil<|t_n<|c_sr<|pv hF hW (y_move hF rfl) fun a hF=>pv hF hW (y_move hF rfl) fun a hF=>?_;refine pe (e_call hF rfl rfl en_95 Rl rfl rfl (has_slot hn (hR.wd hW) hlen hen (hcall.on hW.below)) ?_);rintro e w1 ⟨rfl,hb⟩;replace hW:=hW.kept hb;clear hb;refine⟨_,rfl,fun a hF=>?_⟩;replace hF:=hF.drop 4;refine pv hF hW (y_assign hF rfl) fun a hF=>l_nil ?_;replace hF:=hF.ks [0,1,4] rfl;refine t_n<|wp_ret<|ret1 Tryz.results73 hF (rv_t hF rfl) ?_
 exact⟨rfl,hW.below⟩
theorem idx_int{A:Option Addr}{n c:Nat}{f:Nat→Int}{g:FuncId}{cap:Array Value}{P:Nat→Bool}{w:World}(hn:n≤maxLen)(hR:RF w A n 1 (fun k=>[.int .i64 (f k)]))(hen:Enters Tryz.prog g)(hcall:Tells w n (fun k=>.int .i64 (f k)) g cap P):
  Calls Tryz.prog 110 #[.slice A n c,.func (.func g) #[] cap] w fun e w'=>∃r:Int,e=.returned (.int .i64 r)∧decide (0≤r)=(List.range n).any P∧Below w.heap.size w w':=by
 unfold maxLen at hn
 refine enter Tryz.func110 rfl Tryz.ntmps110 rfl fun a hF=>?_
 have hW:=Wd.start w NoB
 refine c_sr<|pv hF hW (y_assign hF rfl) fun a hF=>l_nil<|t_n<|c_s<|c_sr<|pv hF hW (y_move hF rfl) fun a hF=>pv hF hW (y_len hF rfl Tryz.underlying40) fun a hF=>pv hF hW (y_move hF rfl) fun a hF=>l_nil ?_;replace hF:=hF.ks [0,1,4,7,8] rfl;refine t_n<|wp_block ?_;refine c_loop (G:=Nat) (fun k:Nat=>[(8,.int .i64 (k:Int))]) (fun k:Nat=>[]) (fun k:Nat=>k≤n∧∀i,i<k→P i=false) (fun k:Nat=>n - k) 0 (hF.ks [0,1,7] rfl) (Fr.cons hF (t:=8) rfl Rg (Fr.nil hF)) (hW) ?_ ?_
 ·exact⟨by omega,fun i hi=>by omega⟩
 clear hF hW
 try clear a
 intro k a wc hC hF hW
 obtain⟨hk,hno⟩:=hC
 refine c_sr<|pv hF hW (y_lss hF rfl rfl) fun a hF=>?_;refine Fr.splitD hF ?_ ?_
 ·intro h1 hF;refine l_nil<|t_n<|c_s<|c_t hF rfl<|wp_skip<|t_n<|c_s<|wp_block<|c_sr<|pv hF hW (y_move hF rfl) fun a hF=>pv hF hW (y_assign hF rfl) fun a hF=>l_nil ?_;replace hF:=hF.ks [0,1,5,7,8,9] rfl;refine t_n<|c_sr<|pv hF hW (y_move hF rfl) fun a hF=>pv hF hW (y_move hF rfl) fun a hF=>pv hF hW (y_move hF rfl) fun a hF=>pv hF hW (y_indexS hF rfl rfl Od Tryz.underlying40 sz_3 (fun w h=>(hR).wd h)) fun a hF=>pv hF hW (y_loadRow hF rfl (fun w h=>(hR).wd h) Od rfl Tryz.underlying3 rfl) fun a hF=>?_;refine pe (e_call hF rfl rfl hen Rl rfl rfl (hcall k _ Om hW.below) ?_);rintro e w1 ⟨rfl,hb⟩;replace hW:=hW.kept hb;clear hb;refine⟨_,rfl,fun a hF=>?_⟩;refine Fr.splitB hF ?_ ?_
  ·intro h2 hF;refine l_nil ?_;replace hF:=hF.ks [0,1,5,7,8,9,16] rfl;refine t_n<|c_t hF rfl<|c_sr<|pv hF hW (y_move hF rfl) fun a hF=>pv hF hW (y_assign hF rfl) fun a hF=>l_nil ?_;replace hF:=hF.ks [0,1,4,5,7,8,9,16] rfl;refine t_n<|wp_ret<|b_r<|t_r<|t_r<|b_r<|t_r<|ret1 Tryz.results110 hF (rv_t hF rfl) ?_
   exact⟨_,rfl,by rw[any_true (k:=k) Om Am];exact decide_eq_true Om,hW.below⟩
  ·intro h2 hF;refine l_nil ?_;replace hF:=hF.ks [0,1,5,7,8,9,16] rfl;refine t_n<|c_f hF rfl<|wp_skip<|b_n<|t_n<|c_r<|pv hF hW (y_add hF rfl rfl (IntWalk.i64_in _ Om)) fun a hF=>?_;replace hF:=hF.drop 8;refine pv hF hW (y_move hF rfl) fun a hF=>l_nil ?_;replace hF:=hF.ks [0,1,5,7,8,9,16] rfl;refine t_n ?_;refine⟨(k+1),?_,?_,?_,?_⟩
   ·exact⟨by omega,fun i hi=>by rcases Nat.lt_or_ge i k with h|h;exact hno i h;(have hik:i=k:=by omega);rw[hik];assumption⟩
   ·first|omega|(dsimp only;omega)
   ·exact Fr.app (Fr.cons hF (t:=8) rfl Rf (Fr.nil hF)) (hF.ks [0,1,7] rfl)
   ·exact hW
 ·intro h1 hF;refine l_nil<|t_n<|c_s<|c_f hF rfl<|wp_exit<|t_x<|t_x<|b_h<|t_n<|c_sr<|pv hF hW (y_assign hF rfl) fun a hF=>l_nil<|t_n<|wp_ret<|ret1 Tryz.results110 hF (rv_t hF rfl) ?_
  exact⟨_,rfl,by rw[any_false fun i hi=>hno i Om];rfl,hW.below⟩
theorem has_int{A:Option Addr}{n c:Nat}{f:Nat→Int}{g:FuncId}{cap:Array Value}{P:Nat→Bool}{w:World}(hn:n≤maxLen)(hR:RF w A n 1 (fun k=>[.int .i64 (f k)]))(hen:Enters Tryz.prog g)(hcall:Tells w n (fun k=>.int .i64 (f k)) g cap P):
  Calls Tryz.prog 97 #[.slice A n c,.func (.func g) #[] cap] w fun e w'=>e=.returned (.bool ((List.range n).any P))∧Below w.heap.size w w':=by
 refine enter Tryz.func97 rfl Tryz.ntmps97 rfl fun a hF=>?_
 have hW:=Wd.start w NoB
 refine c_sr<|pv hF hW (y_assign hF rfl) fun a hF=>l_nil<|t_n<|c_sr<|pv hF hW (y_move hF rfl) fun a hF=>pv hF hW (y_move hF rfl) fun a hF=>?_;refine pe (e_call hF rfl rfl en_110 Rl rfl rfl (idx_int hn (hR.wd hW) hen (hcall.on hW.below)) ?_);rintro e w1 ⟨r,rfl,hr,hb⟩;replace hW:=hW.kept hb;clear hb;refine⟨_,rfl,fun a hF=>?_⟩;refine pv hF hW (y_geq hF rfl rfl) fun a hF=>?_;replace hF:=hF.drop 4;refine pv hF hW (y_assign hF rfl) fun a hF=>l_nil ?_;replace hF:=hF.ks [0,1,4] rfl;refine t_n<|wp_ret<|ret1 Tryz.results97 hF (rv_t hF rfl) ?_
 exact⟨by rw[←hr],hW.below⟩
theorem some_int{A:Option Addr}{n c:Nat}{f:Nat→Int}{g:FuncId}{cap:Array Value}{P:Nat→Bool}{w:World}(hn:n≤maxLen)(hR:RF w A n 1 (fun k=>[.int .i64 (f k)]))(hen:Enters Tryz.prog g)(hcall:Tells w n (fun k=>.int .i64 (f k)) g cap P):
  Calls Tryz.prog 77 #[.slice A n c,.func (.func g) #[] cap] w fun e w'=>e=.returned (.bool ((List.range n).any P))∧Below w.heap.size w w':=by
 refine enter Tryz.func77 rfl Tryz.ntmps77 rfl fun a hF=>?_
 have hW:=Wd.start w NoB
 refine c_sr<|pv hF hW (y_assign hF rfl) fun a hF=>l_nil<|t_n<|c_sr<|pv hF hW (y_move hF rfl) fun a hF=>pv hF hW (y_move hF rfl) fun a hF=>?_;refine pe (e_call hF rfl rfl en_97 Rl rfl rfl (has_int hn (hR.wd hW) hen (hcall.on hW.below)) ?_);rintro e w1 ⟨rfl,hb⟩;replace hW:=hW.kept hb;clear hb;refine⟨_,rfl,fun a hF=>?_⟩;replace hF:=hF.drop 4;refine pv hF hW (y_assign hF rfl) fun a hF=>l_nil ?_;replace hF:=hF.ks [0,1,4] rfl;refine t_n<|wp_ret<|ret1 Tryz.results77 hF (rv_t hF rfl) ?_
 exact⟨rfl,hW.below⟩
end
section
open Go.ChangeShapes Go.WideShapes Go.ChangeAt Go.RowKit
set_option maxRecDepth 100000
theorem any_getD{α:Type}(d:α)(f:α→Bool)(l:List α):(List.range l.length).any (fun k=>f (l.getD k d))=l.any f:=by
 cases h:l.any f
 ·refine any_false fun k hk=>?_
  cases hf:f (l.getD k d)
  ·rfl
  ·rw[List.any_eq_true.2 ⟨_,mem_getD d hk,hf⟩] at h;cases h
 ·obtain⟨y,hy,hf⟩:=List.any_eq_true.1 h
  obtain⟨k,hk,rfl⟩:=List.mem_iff_getElem.1 hy
  refine any_true hk ?_
  rwa [List.getD,List.getElem?_eq_getElem hk]
theorem any_not{α:Type}(f:α→Bool)(l:List α):l.any (fun y=> !f y)= !l.all f:=by
 induction l with
 |nil=>rfl
 |cons y r ih=>simp[ih]
def badPut(cs:List Chn)(p:Nat)(m:Int):Bool:=decide ((cs.length:Int)≤m)||(cs.getD m.toNat C0).from_ != p
def badGet(cs:List Chn)(p:Nat)(m:Int):Bool:=decide ((cs.length:Int)≤m)||(cs.getD m.toNat C0).to_ != p
theorem ck1_any{v:Value}{A:Option Addr}{n c:Nat}{w:World}:
  Calls Tryz.prog 67 #[.agg #[v,.slice A n c]] w fun e w'=>e=.returned (.bool (decide (12<n)))∧Below w.heap.size w w':=by
 refine enter Tryz.func67 rfl Tryz.ntmps67 rfl fun a hF=>?_
 have hW:=Wd.start w NoB
 refine c_sr ?_;refine pe (e_box hF hW rfl rfl rfl rfl ?_);intro b1 a wc hF hW;refine pv hF hW (y_assign hF rfl) fun a hF=>l_nil<|t_n<|c_sr<|pv hF hW (y_fieldOwn hF rfl fa_49_1) fun a hF=>pv hF hW (y_loadOwn hF rfl 0 rfl rfl Tryz.underlying40 rfl) fun a hF=>pv hF hW (y_len hF rfl Tryz.underlying40) fun a hF=>pv hF hW (y_gtr hF rfl rfl) fun a hF=>?_;replace hF:=hF.drop 2;refine pv hF hW (y_assign hF rfl) fun a hF=>l_nil ?_;replace hF:=hF.ks [0,1,2] rfl;refine t_n<|wp_ret<|ret1 Tryz.results67 hF (rv_t hF rfl) ?_
 exact⟨by simp only[show((12:Int)<(n:Int))=(12<n) from propext Om],hW.below⟩
section
variable {x:SysD} {w:World} {b1:Nat} {T1:TypeId}
theorem ck2_any{n:Int}(hB:Blk w b1 T1 [.slice x.pa x.parts.length x.pc,.slice x.ha x.chans.length x.hc,.slice x.sa x.slots.length x.sc]):
  Calls Tryz.prog 69 #[.int .i64 n,.pointer (some ⟨b1,0,none⟩)] w fun e w'=>e=.returned (.bool (partOk x.parts.length n))∧Below w.heap.size w w':=by
 refine enter Tryz.func69 rfl Tryz.ntmps69 rfl fun a hF=>?_
 have hW:=Wd.start w NoB
 refine c_sr<|pv hF hW (y_assign hF rfl) fun a hF=>l_nil<|t_n<|c_sr<|pv hF hW (y_move hF rfl) fun a hF=>pv hF hW (y_geq hF rfl rfl) fun a hF=>?_;refine Fr.splitD hF ?_ ?_
 ·intro h1 hF;refine pv hF hW (y_move hF rfl) fun a hF=>pvg hF hW (y_move hF rfl) (ws hF rfl rfl) fun a hF=>pvg hF hW (y_fieldOwn hF rfl fa_26_0) (ws hF rfl rfl) fun a hF=>pvg hF hW (y_loadB hF rfl (hB) rfl Tryz.underlying22 rfl) (ws hF rfl rfl) fun a hF=>pvg hF hW (y_len hF rfl Tryz.underlying22) (ws hF rfl rfl) fun a hF=>pvg hF hW (y_lss hF rfl rfl) (ws hF rfl rfl) fun a hF=>?_;refine Fr.splitD hF ?_ ?_
  ·intro h2 hF;refine pv hF hW (y_pick hF rfl rfl) fun a hF=>?_;replace hF:=hF.drop 3;refine pv hF hW (y_assign hF rfl) fun a hF=>l_nil ?_;replace hF:=hF.ks [0,1,3] rfl;refine t_n<|wp_ret<|ret1 Tryz.results69 hF (rv_t hF rfl) ?_
   exact⟨by simp[partOk, *],hW.below⟩
  ·intro h2 hF;refine pv hF hW (y_pick hF rfl rfl) fun a hF=>?_;replace hF:=hF.drop 3;refine pv hF hW (y_assign hF rfl) fun a hF=>l_nil ?_;replace hF:=hF.ks [0,1,3] rfl;refine t_n<|wp_ret<|ret1 Tryz.results69 hF (rv_t hF rfl) ?_
   exact⟨by simp[partOk, *],hW.below⟩
 ·intro h1 hF;refine pv hF hW (y_move hF rfl) fun a hF=>pk hF (wn hF rfl rfl rfl) fun a hF=>pk hF (wn hF rfl rfl rfl) fun a hF=>pk hF (wn hF rfl rfl rfl) fun a hF=>pk hF (wn hF rfl rfl rfl) fun a hF=>pk hF (wn hF rfl rfl rfl) fun a hF=>pv hF hW (y_pick hF rfl rfl) fun a hF=>?_;replace hF:=hF.drop 3;refine pv hF hW (y_assign hF rfl) fun a hF=>l_nil ?_;replace hF:=hF.ks [0,1,3] rfl;refine t_n<|wp_ret<|ret1 Tryz.results69 hF (rv_t hF rfl) ?_
  exact⟨by simp[partOk, *],hW.below⟩
theorem ck3_any{c:Chn}:
  Calls Tryz.prog 71 #[.agg c.cells.toArray] w fun e w'=>e=.returned (.bool (!kindOk c.kind))∧Below w.heap.size w w':=by
 change Calls _ _ #[.agg #[.int .i64 c.kind,.int .i64 c.from_,.int .i64 c.to_]] _ _
 refine enter Tryz.func71 rfl Tryz.ntmps71 rfl fun a hF=>?_
 have hW:=Wd.start w NoB
 refine c_sr ?_;refine pe (e_box hF hW rfl rfl rfl rfl ?_);intro b1 a wc hF hW;refine pv hF hW (y_assign hF rfl) fun a hF=>l_nil<|t_n<|c_sr<|pv hF hW (y_fieldOwn hF rfl fa_67_0) fun a hF=>pv hF hW (y_loadOwn hF rfl 0 rfl rfl Tryz.underlying3 rfl) fun a hF=>pv hF hW (y_neq hF rfl rfl) fun a hF=>?_;refine Fr.splitD hF ?_ ?_
 ·intro h2 hF;refine pv hF hW (y_move hF rfl) fun a hF=>pvg hF hW (y_fieldOwn hF rfl fa_67_0) (ws hF rfl rfl) fun a hF=>pvg hF hW (y_loadOwn hF rfl 0 rfl rfl Tryz.underlying3 rfl) (ws hF rfl rfl) fun a hF=>pvg hF hW (y_neq hF rfl rfl) (ws hF rfl rfl) fun a hF=>?_;refine Fr.splitD hF ?_ ?_
  ·intro h3 hF;refine pv hF hW (y_pick hF rfl rfl) fun a hF=>?_;replace hF:=hF.drop 2;refine pv hF hW (y_assign hF rfl) fun a hF=>l_nil ?_;replace hF:=hF.ks [0,1,2] rfl;refine t_n<|wp_ret<|ret1 Tryz.results71 hF (rv_t hF rfl) ?_
   exact⟨by simp[kindOk];simp_all,hW.below⟩
  ·intro h3 hF;refine pv hF hW (y_pick hF rfl rfl) fun a hF=>?_;replace hF:=hF.drop 2;refine pv hF hW (y_assign hF rfl) fun a hF=>l_nil ?_;replace hF:=hF.ks [0,1,2] rfl;refine t_n<|wp_ret<|ret1 Tryz.results71 hF (rv_t hF rfl) ?_
   exact⟨by simp[kindOk];simp_all,hW.below⟩
 ·intro h2 hF;refine pv hF hW (y_move hF rfl) fun a hF=>pk hF (wn hF rfl rfl rfl) fun a hF=>pk hF (wn hF rfl rfl rfl) fun a hF=>pk hF (wn hF rfl rfl rfl) fun a hF=>pv hF hW (y_pick hF rfl rfl) fun a hF=>?_;replace hF:=hF.drop 2;refine pv hF hW (y_assign hF rfl) fun a hF=>l_nil ?_;replace hF:=hF.ks [0,1,2] rfl;refine t_n<|wp_ret<|ret1 Tryz.results71 hF (rv_t hF rfl) ?_
  exact⟨by simp[kindOk];simp_all,hW.below⟩
theorem ck4_any{c:Chn}{b6:Nat}{T6:TypeId}(hB:Blk w b1 T1 [.slice x.pa x.parts.length x.pc,.slice x.ha x.chans.length x.hc,.slice x.sa x.slots.length x.sc])(h6:Blk w b6 T6 [.func (.func 69) #[] #[.pointer (some ⟨b1,0,none⟩)]]):
  Calls Tryz.prog 72 #[.agg c.cells.toArray,.pointer (some ⟨b6,0,none⟩)] w fun e w'=>e=.returned (.bool (!chnOk x.parts.length c))∧Below w.heap.size w w':=by
 change Calls _ _ #[.agg #[.int .i64 c.kind,.int .i64 c.from_,.int .i64 c.to_],_] _ _
 refine enter Tryz.func72 rfl Tryz.ntmps72 rfl fun a hF=>?_
 have hW:=Wd.start w NoB
 refine c_sr ?_;refine pe (e_box hF hW rfl rfl rfl rfl ?_);intro b1 a wc hF hW;refine pv hF hW (y_assign hF rfl) fun a hF=>l_nil<|t_n<|c_sr<|pv hF hW (y_loadB hF rfl (h6) rfl Tryz.underlying100 rfl) fun a hF=>pv hF hW (y_fieldOwn hF rfl fa_67_1) fun a hF=>pv hF hW (y_loadOwn hF rfl 0 rfl rfl Tryz.underlying3 rfl) fun a hF=>?_;refine pe (e_call hF rfl rfl en_69 Rl rfl rfl (ck2_any (hB.kept hW.below)) ?_);rintro e w1 ⟨rfl,hb⟩;replace hW:=hW.kept hb;clear hb;refine⟨_,rfl,fun a hF=>?_⟩;refine Fr.splitB hF ?_ ?_
 ·intro h2 hF;refine pv hF hW (y_not hF rfl) fun a hF=>?_;replace hF:=hF.ff;refine pv hF hW (y_move hF rfl) fun a hF=>?_;replace hF:=hF.ff;refine pvg hF hW (y_loadB hF rfl (h6) rfl Tryz.underlying100 rfl) (ws hF rfl rfl) fun a hF=>pvg hF hW (y_fieldOwn hF rfl fa_67_2) (ws hF rfl rfl) fun a hF=>pvg hF hW (y_loadOwn hF rfl 0 rfl rfl Tryz.underlying3 rfl) (ws hF rfl rfl) fun a hF=>?_;refine pe (e_call hF rfl rfl en_69 Rl rfl rfl (ck2_any (hB.kept hW.below)) ?_) (ws hF rfl rfl);rintro e w1 ⟨rfl,hb⟩;replace hW:=hW.kept hb;clear hb;refine⟨_,rfl,fun a hF=>?_⟩;refine Fr.splitB hF ?_ ?_
  ·intro h3 hF;refine pvg hF hW (y_not hF rfl) (ws hF rfl rfl) fun a hF=>?_;replace hF:=hF.ff;refine pv hF hW (y_pick hF rfl rfl) fun a hF=>?_;replace hF:=hF.ff;refine pv hF hW (y_move hF rfl) fun a hF=>?_;replace hF:=hF.ff;refine pvg hF hW (y_fieldOwn hF rfl fa_67_1) (ws hF rfl rfl) fun a hF=>pvg hF hW (y_loadOwn hF rfl 0 rfl rfl Tryz.underlying3 rfl) (ws hF rfl rfl) fun a hF=>pvg hF hW (y_fieldOwn hF rfl fa_67_2) (ws hF rfl rfl) fun a hF=>pvg hF hW (y_loadOwn hF rfl 0 rfl rfl Tryz.underlying3 rfl) (ws hF rfl rfl) fun a hF=>pvg hF hW (y_eql hF rfl rfl) (ws hF rfl rfl) fun a hF=>?_;refine Fr.splitD hF ?_ ?_
   ·intro h4 hF;refine pv hF hW (y_pick hF rfl rfl) fun a hF=>?_;replace hF:=hF.drop 3;refine pv hF hW (y_assign hF rfl) fun a hF=>l_nil ?_;replace hF:=hF.ks [0,1,2,3] rfl;refine t_n<|wp_ret<|ret1 Tryz.results72 hF (rv_t hF rfl) ?_
    exact⟨by simp[chnOk, *],hW.below⟩
   ·intro h4 hF;refine pv hF hW (y_pick hF rfl rfl) fun a hF=>?_;replace hF:=hF.drop 3;refine pv hF hW (y_assign hF rfl) fun a hF=>l_nil ?_;replace hF:=hF.ks [0,1,2,3] rfl;refine t_n<|wp_ret<|ret1 Tryz.results72 hF (rv_t hF rfl) ?_
    exact⟨by simp[chnOk, *],hW.below⟩
  ·intro h3 hF;refine pvg hF hW (y_not hF rfl) (ws hF rfl rfl) fun a hF=>?_;replace hF:=hF.tt;refine pv hF hW (y_pick hF rfl rfl) fun a hF=>?_;replace hF:=hF.tt;refine pv hF hW (y_move hF rfl) fun a hF=>?_;replace hF:=hF.tt;refine pk hF (wn hF rfl rfl rfl) fun a hF=>pk hF (wn hF rfl rfl rfl) fun a hF=>pk hF (wn hF rfl rfl rfl) fun a hF=>pk hF (wn hF rfl rfl rfl) fun a hF=>pk hF (wn hF rfl rfl rfl) fun a hF=>pv hF hW (y_pick hF rfl rfl) fun a hF=>?_;replace hF:=hF.drop 3;refine pv hF hW (y_assign hF rfl) fun a hF=>l_nil ?_;replace hF:=hF.ks [0,1,2,3] rfl;refine t_n<|wp_ret<|ret1 Tryz.results72 hF (rv_t hF rfl) ?_
   exact⟨by simp[chnOk, *],hW.below⟩
 ·intro h2 hF;refine pv hF hW (y_not hF rfl) fun a hF=>?_;replace hF:=hF.tt;refine pv hF hW (y_move hF rfl) fun a hF=>?_;replace hF:=hF.tt;refine pk hF (wn hF rfl rfl rfl) fun a hF=>pk hF (wn hF rfl rfl rfl) fun a hF=>pk hF (wn hF rfl rfl rfl) fun a hF=>pk hF (wn hF rfl rfl rfl) fun a hF=>pk hF (wn hF rfl rfl rfl) fun a hF=>pv hF hW (y_pick hF rfl rfl) fun a hF=>pv hF hW (y_move hF rfl) fun a hF=>pk hF (wn hF rfl rfl rfl) fun a hF=>pk hF (wn hF rfl rfl rfl) fun a hF=>pk hF (wn hF rfl rfl rfl) fun a hF=>pk hF (wn hF rfl rfl rfl) fun a hF=>pk hF (wn hF rfl rfl rfl) fun a hF=>pv hF hW (y_pick hF rfl rfl) fun a hF=>?_;replace hF:=hF.drop 3;refine pv hF hW (y_assign hF rfl) fun a hF=>l_nil ?_;replace hF:=hF.ks [0,1,2,3] rfl;refine t_n<|wp_ret<|ret1 Tryz.results72 hF (rv_t hF rfl) ?_
  exact⟨by simp[chnOk, *],hW.below⟩
theorem ck5_any{c:Slt}{b6:Nat}{T6:TypeId}(hB:Blk w b1 T1 [.slice x.pa x.parts.length x.pc,.slice x.ha x.chans.length x.hc,.slice x.sa x.slots.length x.sc])(h6:Blk w b6 T6 [.func (.func 69) #[] #[.pointer (some ⟨b1,0,none⟩)]]):
  Calls Tryz.prog 74 #[.agg c.cells.toArray,.pointer (some ⟨b6,0,none⟩)] w fun e w'=>e=.returned (.bool (!sltOk x.parts.length c))∧Below w.heap.size w w':=by
 change Calls _ _ #[.agg #[.int .i64 c.part,.int .i64 c.ticks],_] _ _
 refine enter Tryz.func74 rfl Tryz.ntmps74 rfl fun a hF=>?_
 have hW:=Wd.start w NoB
 refine c_sr ?_;refine pe (e_box hF hW rfl rfl rfl rfl ?_);intro b1 a wc hF hW;refine pv hF hW (y_assign hF rfl) fun a hF=>l_nil<|t_n<|c_sr<|pv hF hW (y_loadB hF rfl (h6) rfl Tryz.underlying100 rfl) fun a hF=>pv hF hW (y_fieldOwn hF rfl fa_85_0) fun a hF=>pv hF hW (y_loadOwn hF rfl 0 rfl rfl Tryz.underlying3 rfl) fun a hF=>?_;refine pe (e_call hF rfl rfl en_69 Rl rfl rfl (ck2_any (hB.kept hW.below)) ?_);rintro e w1 ⟨rfl,hb⟩;replace hW:=hW.kept hb;clear hb;refine⟨_,rfl,fun a hF=>?_⟩;refine Fr.splitB hF ?_ ?_
 ·intro h2 hF;refine pv hF hW (y_not hF rfl) fun a hF=>?_;replace hF:=hF.ff;refine pv hF hW (y_move hF rfl) fun a hF=>?_;replace hF:=hF.ff;refine pvg hF hW (y_fieldOwn hF rfl fa_85_1) (ws hF rfl rfl) fun a hF=>pvg hF hW (y_loadOwn hF rfl 0 rfl rfl Tryz.underlying3 rfl) (ws hF rfl rfl) fun a hF=>pvg hF hW (y_lss hF rfl rfl) (ws hF rfl rfl) fun a hF=>?_;refine Fr.splitD hF ?_ ?_
  ·intro h3 hF;refine pv hF hW (y_pick hF rfl rfl) fun a hF=>pv hF hW (y_move hF rfl) fun a hF=>pk hF (wn hF rfl rfl rfl) fun a hF=>pk hF (wn hF rfl rfl rfl) fun a hF=>pk hF (wn hF rfl rfl rfl) fun a hF=>pv hF hW (y_pick hF rfl rfl) fun a hF=>?_;replace hF:=hF.drop 3;refine pv hF hW (y_assign hF rfl) fun a hF=>l_nil ?_;replace hF:=hF.ks [0,1,2,3] rfl;refine t_n<|wp_ret<|ret1 Tryz.results74 hF (rv_t hF rfl) ?_
   exact⟨by first|(simp[sltOk, *];done)|(simp[sltOk, *];omega),hW.below⟩
  ·intro h3 hF;refine pv hF hW (y_pick hF rfl rfl) fun a hF=>pv hF hW (y_move hF rfl) fun a hF=>pvg hF hW (y_fieldOwn hF rfl fa_85_1) (ws hF rfl rfl) fun a hF=>pvg hF hW (y_loadOwn hF rfl 0 rfl rfl Tryz.underlying3 rfl) (ws hF rfl rfl) fun a hF=>pvg hF hW (y_gtr hF rfl rfl) (ws hF rfl rfl) fun a hF=>?_;refine Fr.splitD hF ?_ ?_
   ·intro h4 hF;refine pv hF hW (y_pick hF rfl rfl) fun a hF=>?_;replace hF:=hF.drop 3;refine pv hF hW (y_assign hF rfl) fun a hF=>l_nil ?_;replace hF:=hF.ks [0,1,2,3] rfl;refine t_n<|wp_ret<|ret1 Tryz.results74 hF (rv_t hF rfl) ?_
    exact⟨by first|(simp[sltOk, *];done)|(simp[sltOk, *];omega),hW.below⟩
   ·intro h4 hF;refine pv hF hW (y_pick hF rfl rfl) fun a hF=>?_;replace hF:=hF.drop 3;refine pv hF hW (y_assign hF rfl) fun a hF=>l_nil ?_;replace hF:=hF.ks [0,1,2,3] rfl;refine t_n<|wp_ret<|ret1 Tryz.results74 hF (rv_t hF rfl) ?_
    exact⟨by first|(simp[sltOk, *];done)|(simp[sltOk, *];omega),hW.below⟩
 ·intro h2 hF;refine pv hF hW (y_not hF rfl) fun a hF=>?_;replace hF:=hF.tt;refine pv hF hW (y_move hF rfl) fun a hF=>?_;replace hF:=hF.tt;refine pk hF (wn hF rfl rfl rfl) fun a hF=>pk hF (wn hF rfl rfl rfl) fun a hF=>pk hF (wn hF rfl rfl rfl) fun a hF=>pv hF hW (y_pick hF rfl rfl) fun a hF=>pv hF hW (y_move hF rfl) fun a hF=>pk hF (wn hF rfl rfl rfl) fun a hF=>pk hF (wn hF rfl rfl rfl) fun a hF=>pk hF (wn hF rfl rfl rfl) fun a hF=>pv hF hW (y_pick hF rfl rfl) fun a hF=>?_;replace hF:=hF.drop 3;refine pv hF hW (y_assign hF rfl) fun a hF=>l_nil ?_;replace hF:=hF.ks [0,1,2,3] rfl;refine t_n<|wp_ret<|ret1 Tryz.results74 hF (rv_t hF rfl) ?_
  exact⟨by first|(simp[sltOk, *];done)|(simp[sltOk, *];omega),hW.below⟩
theorem ck6_any{b7 p m:Nat}{T7:TypeId}(hx:x.At w)(hB:Blk w b1 T1 [.slice x.pa x.parts.length x.pc,.slice x.ha x.chans.length x.hc,.slice x.sa x.slots.length x.sc])(h7:Blk w b7 T7 [.int .i64 p]):
  Calls Tryz.prog 78 #[.int .i64 m,.pointer (some ⟨b1,0,none⟩),.pointer (some ⟨b7,0,none⟩)] w fun e w'=>e=.returned (.bool (badPut x.chans p m))∧Below w.heap.size w w':=by
 refine enter Tryz.func78 rfl Tryz.ntmps78 rfl fun a hF=>?_
 have hW:=Wd.start w NoB
 refine c_sr<|pv hF hW (y_assign hF rfl) fun a hF=>l_nil<|t_n<|c_sd mixed_ok hW (hW) ?_
 clear hW;intro wc hW hS
 refine dv 0 rfl hF hS (y_move hF rfl) fun a hF=>dv 1 rfl hF hS (y_fieldOwn hF rfl fa_26_1) fun a hF=>dv 2 rfl hF hS (y_loadB hF rfl (hB) rfl Tryz.underlying23 rfl) fun a hF=>dv 3 rfl hF hS (y_len hF rfl Tryz.underlying23) fun a hF=>dv 4 rfl hF hS (y_geq hF rfl rfl) fun a hF=>?_;refine Fr.splitD hF ?_ ?_
 ·intro h1 hF;refine dv 5 rfl hF hS (y_move hF rfl) fun a hF=>dk 6 rfl hF (wn hF rfl rfl rfl) hS fun a hF=>dk 7 rfl hF (wn hF rfl rfl rfl) hS fun a hF=>dk 8 rfl hF (wn hF rfl rfl rfl) hS fun a hF=>dk 9 rfl hF (wn hF rfl rfl rfl) hS fun a hF=>dk 10 rfl hF (wn hF rfl rfl rfl) hS fun a hF=>dk 11 rfl hF (wn hF rfl rfl rfl) hS fun a hF=>dk 12 rfl hF (wn hF rfl rfl rfl) hS fun a hF=>dk 13 rfl hF (wn hF rfl rfl rfl) hS fun a hF=>dv 14 rfl hF hS (y_pick hF rfl rfl) fun a hF=>?_;replace hF:=hF.drop 4;refine dv 15 rfl hF hS (y_assign hF rfl) fun a hF=>?_;clear hS;refine d_nil Kr ?_;replace hF:=hF.ks [0,1,2,4] rfl;refine t_n<|wp_ret<|ret1 Tryz.results78 hF (rv_t hF rfl) ?_
  exact⟨by unfold badPut;rw[Int.toNat_natCast];first|(rw[decide_eq_true Om];rfl)|(rw[decide_eq_false Om];simp_all),hW.below⟩
 ·intro h1 hF;refine dv 5 rfl hF hS (y_move hF rfl) fun a hF=>dvg 6 rfl hF hS (y_fieldOwn hF rfl fa_26_1) (ws hF rfl rfl) fun a hF=>dvg 7 rfl hF hS (y_loadB hF rfl (hB) rfl Tryz.underlying23 rfl) (ws hF rfl rfl) fun a hF=>dvg 8 rfl hF hS (y_move hF rfl) (ws hF rfl rfl) fun a hF=>dvg 9 rfl hF hS (y_indexS hF rfl rfl Od Tryz.underlying23 sz_67 (fun w h=>(hx.chansR).wd h)) (ws hF rfl rfl) fun a hF=>dvg 10 rfl hF hS (y_fieldRow hF rfl fa_67_1) (ws hF rfl rfl) fun a hF=>dvg 11 rfl hF hS (y_loadRow hF rfl (fun w h=>(hx.chansR).wd h) Od rfl Tryz.underlying3 rfl) (ws hF rfl rfl) fun a hF=>dvg 12 rfl hF hS (y_loadB hF rfl (h7) rfl Tryz.underlying3 rfl) (ws hF rfl rfl) fun a hF=>dvg 13 rfl hF hS (y_neq hF rfl rfl) (ws hF rfl rfl) fun a hF=>?_;refine Fr.splitD hF ?_ ?_
  ·intro h2 hF;refine dv 14 rfl hF hS (y_pick hF rfl rfl) fun a hF=>?_;replace hF:=hF.drop 4;refine dv 15 rfl hF hS (y_assign hF rfl) fun a hF=>?_;clear hS;refine d_nil Kr ?_;replace hF:=hF.ks [0,1,2,4] rfl;refine t_n<|wp_ret<|ret1 Tryz.results78 hF (rv_t hF rfl) ?_
   exact⟨by unfold badPut;rw[Int.toNat_natCast];first|(rw[decide_eq_true Om];rfl)|(rw[decide_eq_false Om];simp_all),hW.below⟩
  ·intro h2 hF;refine dv 14 rfl hF hS (y_pick hF rfl rfl) fun a hF=>?_;replace hF:=hF.drop 4;refine dv 15 rfl hF hS (y_assign hF rfl) fun a hF=>?_;clear hS;refine d_nil Kr ?_;replace hF:=hF.ks [0,1,2,4] rfl;refine t_n<|wp_ret<|ret1 Tryz.results78 hF (rv_t hF rfl) ?_
   exact⟨by unfold badPut;rw[Int.toNat_natCast];first|(rw[decide_eq_true Om];rfl)|(rw[decide_eq_false Om];simp_all),hW.below⟩
theorem ck7_any{b7 p m:Nat}{T7:TypeId}(hx:x.At w)(hB:Blk w b1 T1 [.slice x.pa x.parts.length x.pc,.slice x.ha x.chans.length x.hc,.slice x.sa x.slots.length x.sc])(h7:Blk w b7 T7 [.int .i64 p]):
  Calls Tryz.prog 79 #[.int .i64 m,.pointer (some ⟨b1,0,none⟩),.pointer (some ⟨b7,0,none⟩)] w fun e w'=>e=.returned (.bool (badGet x.chans p m))∧Below w.heap.size w w':=by
 refine enter Tryz.func79 rfl Tryz.ntmps79 rfl fun a hF=>?_
 have hW:=Wd.start w NoB
 refine c_sr<|pv hF hW (y_assign hF rfl) fun a hF=>l_nil<|t_n<|c_sd mixed_ok hW (hW) ?_
 clear hW;intro wc hW hS
 refine dv 0 rfl hF hS (y_move hF rfl) fun a hF=>dv 1 rfl hF hS (y_fieldOwn hF rfl fa_26_1) fun a hF=>dv 2 rfl hF hS (y_loadB hF rfl (hB) rfl Tryz.underlying23 rfl) fun a hF=>dv 3 rfl hF hS (y_len hF rfl Tryz.underlying23) fun a hF=>dv 4 rfl hF hS (y_geq hF rfl rfl) fun a hF=>?_;refine Fr.splitD hF ?_ ?_
 ·intro h1 hF;refine dv 5 rfl hF hS (y_move hF rfl) fun a hF=>dk 6 rfl hF (wn hF rfl rfl rfl) hS fun a hF=>dk 7 rfl hF (wn hF rfl rfl rfl) hS fun a hF=>dk 8 rfl hF (wn hF rfl rfl rfl) hS fun a hF=>dk 9 rfl hF (wn hF rfl rfl rfl) hS fun a hF=>dk 10 rfl hF (wn hF rfl rfl rfl) hS fun a hF=>dk 11 rfl hF (wn hF rfl rfl rfl) hS fun a hF=>dk 12 rfl hF (wn hF rfl rfl rfl) hS fun a hF=>dk 13 rfl hF (wn hF rfl rfl rfl) hS fun a hF=>dv 14 rfl hF hS (y_pick hF rfl rfl) fun a hF=>?_;replace hF:=hF.drop 4;refine dv 15 rfl hF hS (y_assign hF rfl) fun a hF=>?_;clear hS;refine d_nil Kr ?_;replace hF:=hF.ks [0,1,2,4] rfl;refine t_n<|wp_ret<|ret1 Tryz.results79 hF (rv_t hF rfl) ?_
  exact⟨by unfold badGet;rw[Int.toNat_natCast];first|(rw[decide_eq_true Om];rfl)|(rw[decide_eq_false Om];simp_all),hW.below⟩
 ·intro h1 hF;refine dv 5 rfl hF hS (y_move hF rfl) fun a hF=>dvg 6 rfl hF hS (y_fieldOwn hF rfl fa_26_1) (ws hF rfl rfl) fun a hF=>dvg 7 rfl hF hS (y_loadB hF rfl (hB) rfl Tryz.underlying23 rfl) (ws hF rfl rfl) fun a hF=>dvg 8 rfl hF hS (y_move hF rfl) (ws hF rfl rfl) fun a hF=>dvg 9 rfl hF hS (y_indexS hF rfl rfl Od Tryz.underlying23 sz_67 (fun w h=>(hx.chansR).wd h)) (ws hF rfl rfl) fun a hF=>dvg 10 rfl hF hS (y_fieldRow hF rfl fa_67_2) (ws hF rfl rfl) fun a hF=>dvg 11 rfl hF hS (y_loadRow hF rfl (fun w h=>(hx.chansR).wd h) Od rfl Tryz.underlying3 rfl) (ws hF rfl rfl) fun a hF=>dvg 12 rfl hF hS (y_loadB hF rfl (h7) rfl Tryz.underlying3 rfl) (ws hF rfl rfl) fun a hF=>dvg 13 rfl hF hS (y_neq hF rfl rfl) (ws hF rfl rfl) fun a hF=>?_;refine Fr.splitD hF ?_ ?_
  ·intro h2 hF;refine dv 14 rfl hF hS (y_pick hF rfl rfl) fun a hF=>?_;replace hF:=hF.drop 4;refine dv 15 rfl hF hS (y_assign hF rfl) fun a hF=>?_;clear hS;refine d_nil Kr ?_;replace hF:=hF.ks [0,1,2,4] rfl;refine t_n<|wp_ret<|ret1 Tryz.results79 hF (rv_t hF rfl) ?_
   exact⟨by unfold badGet;rw[Int.toNat_natCast];first|(rw[decide_eq_true Om];rfl)|(rw[decide_eq_false Om];simp_all),hW.below⟩
  ·intro h2 hF;refine dv 14 rfl hF hS (y_pick hF rfl rfl) fun a hF=>?_;replace hF:=hF.drop 4;refine dv 15 rfl hF hS (y_assign hF rfl) fun a hF=>?_;clear hS;refine d_nil Kr ?_;replace hF:=hF.ks [0,1,2,4] rfl;refine t_n<|wp_ret<|ret1 Tryz.results79 hF (rv_t hF rfl) ?_
   exact⟨by unfold badGet;rw[Int.toNat_natCast];first|(rw[decide_eq_true Om];rfl)|(rw[decide_eq_false Om];simp_all),hW.below⟩
theorem tells1:Tells w x.parts.length (fun k=>.agg (encP (x.parts.getD k P0)).toArray) 67 #[] (fun k=>(fun q:PP=>decide (12<q.1.inp.length)) (x.parts.getD k P0)):=fun _ _ _ _=>ck1_any
theorem tells3:Tells w x.chans.length (fun k=>.agg (Chn.cells (x.chans.getD k C0)).toArray) 71 #[] (fun k=>(fun c:Chn=> !kindOk c.kind) (x.chans.getD k C0)):=fun _ _ _ _=>ck3_any
theorem tells4{b6:Nat}{T6:TypeId}(hB:Blk w b1 T1 [.slice x.pa x.parts.length x.pc,.slice x.ha x.chans.length x.hc,.slice x.sa x.slots.length x.sc])(h6:Blk w b6 T6 [.func (.func 69) #[] #[.pointer (some ⟨b1,0,none⟩)]]):
  Tells w x.chans.length (fun k=>.agg (Chn.cells (x.chans.getD k C0)).toArray) 72 #[.pointer (some ⟨b6,0,none⟩)] (fun k=>(fun c:Chn=> !chnOk x.parts.length c) (x.chans.getD k C0)):=fun _ _ _ hb=>ck4_any (hB.kept hb) (h6.kept hb)
theorem tells5{b6:Nat}{T6:TypeId}(hB:Blk w b1 T1 [.slice x.pa x.parts.length x.pc,.slice x.ha x.chans.length x.hc,.slice x.sa x.slots.length x.sc])(h6:Blk w b6 T6 [.func (.func 69) #[] #[.pointer (some ⟨b1,0,none⟩)]]):
  Tells w x.slots.length (fun k=>.agg (Slt.cells (x.slots.getD k S0)).toArray) 74 #[.pointer (some ⟨b6,0,none⟩)] (fun k=>(fun c:Slt=> !sltOk x.parts.length c) (x.slots.getD k S0)):=fun _ _ _ hb=>ck5_any (hB.kept hb) (h6.kept hb)
theorem tells6{b7 p:Nat}{T7:TypeId}{l:List Int}(hl:∀m,m∈l→0≤m)(hx:x.At w)(hB:Blk w b1 T1 [.slice x.pa x.parts.length x.pc,.slice x.ha x.chans.length x.hc,.slice x.sa x.slots.length x.sc])(h7:Blk w b7 T7 [.int .i64 p]):
  Tells w l.length (fun k=>.int .i64 (l.getD k 0)) 78 #[.pointer (some ⟨b1,0,none⟩),.pointer (some ⟨b7,0,none⟩)] (fun k=>badPut x.chans p (l.getD k 0)):=fun k w1 hk hb=>by
 obtain⟨m,hm⟩:∃m:Nat,l.getD k 0=m:=⟨_,(Int.toNat_of_nonneg (hl _ (mem_getD 0 hk))).symm⟩
 dsimp only
 rw[hm]
 exact ck6_any (hx.below hb) (hB.kept hb) (h7.kept hb)
theorem tells7{b7 p:Nat}{T7:TypeId}{l:List Int}(hl:∀m,m∈l→0≤m)(hx:x.At w)(hB:Blk w b1 T1 [.slice x.pa x.parts.length x.pc,.slice x.ha x.chans.length x.hc,.slice x.sa x.slots.length x.sc])(h7:Blk w b7 T7 [.int .i64 p]):
  Tells w l.length (fun k=>.int .i64 (l.getD k 0)) 79 #[.pointer (some ⟨b1,0,none⟩),.pointer (some ⟨b7,0,none⟩)] (fun k=>badGet x.chans p (l.getD k 0)):=fun k w1 hk hb=>by
 obtain⟨m,hm⟩:∃m:Nat,l.getD k 0=m:=⟨_,(Int.toNat_of_nonneg (hl _ (mem_getD 0 hk))).symm⟩
 dsimp only
 rw[hm]
 exact ck7_any (hx.below hb) (hB.kept hb) (h7.kept hb)
end
end
end Go.Proofs.YtndcjmopebcdgaaGreat
