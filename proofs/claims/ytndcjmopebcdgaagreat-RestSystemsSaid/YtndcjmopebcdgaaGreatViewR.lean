/- The reference's leads, reachesBy, Reaches. -/
import Derived.Test.YtndcjmopebcdgaaGreatFlowPl
import Derived.Test.YtndcjmopebcdgaaGreatConfC1
set_option linter.unusedSimpArgs false
set_option linter.unusedVariables false
namespace Go.Proofs.YtndcjmopebcdgaaGreat
open Go.ChangeShapes Go.WideShapes Go.ChangeAt Go.RowKit
set_option maxRecDepth 100000
theorem leads_edge{cs:List Chn}{k a b:Nat}(hk:k<cs.length)(h:edgeB (cs.getD k C0) a b=true):leadsB cs a b=true:=
 List.any_eq_true.2 ⟨_,mem_getD C0 hk,h⟩
theorem leadsR_any{x:SysD}{w:World}(hx:x.At w)(u v:Nat)(hl:x.chans.length≤1024):
  Calls Tryz.prog 89 #[x.val,.int .i64 u,.int .i64 v] w fun e w'=>e=.returned (.bool (leadsB x.chans u v))∧Below w.heap.size w w':=by
 rw[x.val_eq]
 refine enter Tryz.func89 rfl Tryz.ntmps89 rfl fun a hF=>?_
 have hW:=Wd.start w NoB
 refine c_sr ?_;refine pe (e_box hF hW rfl rfl rfl rfl ?_);intro b1 a wc hF hW;refine pv hF hW (y_assign hF rfl) fun a hF=>l_nil<|t_n<|c_s<|c_sr<|pv hF hW (y_assign hF rfl) fun a hF=>l_nil<|t_n<|wp_block ?_;refine c_loop (G:=Nat) (fun k:Nat=>[(7,.int .i64 (k:Int))]) (fun k:Nat=>[]) (fun k:Nat=>k≤x.chans.length∧leadsB (x.chans.take k) u v=false) (fun k:Nat=>x.chans.length - k) 0 (hF.ks [0,1,2,3] rfl) (Fr.cons hF (t:=7) rfl Rg (Fr.nil hF)) (hW) ?_ ?_
 ·exact⟨by omega,rfl⟩
 clear hF hW
 try clear a
 intro k a wc hC hF hW
 obtain⟨hkc,hlk⟩:=hC
 refine c_s<|c_sr<|pv hF hW (y_move hF rfl) fun a hF=>pv hF hW (y_fieldOwn hF rfl fa_26_1) fun a hF=>pv hF hW (y_loadOwn hF rfl 0 rfl rfl Tryz.underlying23 rfl) fun a hF=>pv hF hW (y_len hF rfl Tryz.underlying23) fun a hF=>pv hF hW (y_lss hF rfl rfl) fun a hF=>?_;refine Fr.splitD hF ?_ ?_
 ·intro h2 hF;refine l_nil ?_;replace hF:=hF.ks [0,1,2,3,7,13] rfl;refine t_n<|c_t hF rfl<|wp_skip<|t_n<|c_s<|wp_block ?_
  obtain⟨z,hz⟩:∃q,x.chans.getD k C0=q:=⟨_,rfl⟩
  have hkk:k<x.chans.length:=Om
  obtain⟨kd,fr,tt⟩:=z
  refine c_sr<|pv hF hW (y_fieldOwn hF rfl fa_26_1) fun a hF=>pv hF hW (y_loadOwn hF rfl 0 rfl rfl Tryz.underlying23 rfl) fun a hF=>pv hF hW (y_move hF rfl) fun a hF=>pv hF hW (y_indexS hF rfl rfl Od Tryz.underlying23 sz_67 (fun w h=>(hx.chansR).wd h)) fun a hF=>pv hF hW (y_loadRowW hF rfl (fun w h=>(hx.chansR).wd h) Od Tryz.underlying67 rfl (by rw[hz];exact sz_67)) fun a hF=>?_;replace hF:=Fr.cast (v':=.agg #[.int .i64 kd,.int .i64 fr,.int .i64 tt]) (by rw[hz];rfl) hF;refine pe (e_alloc hF hW ze_67 rfl rfl rfl ?_);intro b3 a wc hF hW;refine pe (e_storeAll rfl hF hW rfl rfl 0 rfl rfl rfl Kr sz_67 ?_);intro wc hW;refine l_nil ?_;replace hF:=hF.ks [0,1,2,3,7,8,13] rfl;refine t_n<|c_sr<|pv hF hW (y_fieldOwn hF rfl fa_67_1) fun a hF=>pv hF hW (y_loadOwn hF rfl 0 rfl rfl Tryz.underlying3 rfl) fun a hF=>pv hF hW (y_move hF rfl) fun a hF=>pv hF hW (y_eql hF rfl rfl) fun a hF=>?_;refine Fr.splitD hF ?_ ?_
  ·intro h4 hF;refine pv hF hW (y_move hF rfl) fun a hF=>pvg hF hW (y_fieldOwn hF rfl fa_67_2) (ws hF rfl rfl) fun a hF=>pvg hF hW (y_loadOwn hF rfl 0 rfl rfl Tryz.underlying3 rfl) (ws hF rfl rfl) fun a hF=>pvg hF hW (y_move hF rfl) (ws hF rfl rfl) fun a hF=>pvg hF hW (y_eql hF rfl rfl) (ws hF rfl rfl) fun a hF=>?_;refine Fr.splitD hF ?_ ?_
   ·intro h5 hF;refine pv hF hW (y_pick hF rfl rfl) fun a hF=>pv hF hW (y_move hF rfl) fun a hF=>pk hF (wn hF rfl rfl rfl) fun a hF=>pk hF (wn hF rfl rfl rfl) fun a hF=>pk hF (wn hF rfl rfl rfl) fun a hF=>pk hF (wn hF rfl rfl rfl) fun a hF=>pk hF (wu hF rfl rfl) fun a hF=>pk hF (wu hF rfl rfl) fun a hF=>pk hF (wu hF rfl rfl) fun a hF=>pk hF (wu hF rfl rfl) fun a hF=>pk hF (wn hF rfl rfl rfl) fun a hF=>pk hF (wn hF rfl rfl rfl) fun a hF=>pk hF (wu hF rfl rfl) fun a hF=>pk hF (wu hF rfl rfl) fun a hF=>pk hF (wu hF rfl rfl) fun a hF=>pk hF (wu hF rfl rfl) fun a hF=>pk hF (wn hF rfl rfl rfl) fun a hF=>pv hF hW (y_pick hF rfl rfl) fun a hF=>l_nil ?_;replace hF:=hF.ks [0,1,2,3,7,8,13,47] rfl;refine t_n<|c_t hF rfl<|c_sr<|pv hF hW (y_assign hF rfl) fun a hF=>l_nil<|t_n<|wp_ret<|b_r<|t_r<|t_r<|b_r<|t_r<|ret1 Tryz.results89 hF (rv_t hF rfl) ?_
    first
    |exact⟨by rw[leads_edge hkk (by rw[hz];simp_all[edgeB])],hW.below⟩
    |exact⟨by rw[show leadsB x.chans u v=false by(have e:x.chans.take k=x.chans:=List.take_of_length_le Om);rwa [e] at hlk],hW.below⟩
   ·intro h5 hF;refine pv hF hW (y_pick hF rfl rfl) fun a hF=>pv hF hW (y_move hF rfl) fun a hF=>pvg hF hW (y_fieldOwn hF rfl fa_67_0) (ws hF rfl rfl) fun a hF=>pvg hF hW (y_loadOwn hF rfl 0 rfl rfl Tryz.underlying3 rfl) (ws hF rfl rfl) fun a hF=>pvg hF hW (y_eql hF rfl rfl) (ws hF rfl rfl) fun a hF=>?_;refine Fr.splitD hF ?_ ?_
    ·intro h6 hF;refine pvg hF hW (y_move hF rfl) (ws hF rfl rfl) fun a hF=>pvg hF hW (y_fieldOwn hF rfl fa_67_1) (ws hF rfl rfl) fun a hF=>pvg hF hW (y_loadOwn hF rfl 0 rfl rfl Tryz.underlying3 rfl) (ws hF rfl rfl) fun a hF=>pvg hF hW (y_move hF rfl) (ws hF rfl rfl) fun a hF=>pvg hF hW (y_eql hF rfl rfl) (ws hF rfl rfl) fun a hF=>?_;refine Fr.splitD hF ?_ ?_
     ·intro h7 hF;refine pvg hF hW (y_pick hF rfl rfl) (ws hF rfl rfl) fun a hF=>pvg hF hW (y_move hF rfl) (ws hF rfl rfl) fun a hF=>pvg hF hW (y_fieldOwn hF rfl fa_67_2) (ws hF rfl rfl) fun a hF=>pvg hF hW (y_loadOwn hF rfl 0 rfl rfl Tryz.underlying3 rfl) (ws hF rfl rfl) fun a hF=>pvg hF hW (y_move hF rfl) (ws hF rfl rfl) fun a hF=>pvg hF hW (y_eql hF rfl rfl) (ws hF rfl rfl) fun a hF=>?_;refine Fr.splitD hF ?_ ?_
      ·intro h8 hF;refine pvg hF hW (y_pick hF rfl rfl) (ws hF rfl rfl) fun a hF=>pv hF hW (y_pick hF rfl rfl) fun a hF=>l_nil ?_;replace hF:=hF.ks [0,1,2,3,7,8,13,47] rfl;refine t_n<|c_t hF rfl<|c_sr<|pv hF hW (y_assign hF rfl) fun a hF=>l_nil<|t_n<|wp_ret<|b_r<|t_r<|t_r<|b_r<|t_r<|ret1 Tryz.results89 hF (rv_t hF rfl) ?_
       first
       |exact⟨by rw[leads_edge hkk (by rw[hz];simp_all[edgeB])],hW.below⟩
       |exact⟨by rw[show leadsB x.chans u v=false by(have e:x.chans.take k=x.chans:=List.take_of_length_le Om);rwa [e] at hlk],hW.below⟩
      ·intro h8 hF;refine pvg hF hW (y_pick hF rfl rfl) (ws hF rfl rfl) fun a hF=>pv hF hW (y_pick hF rfl rfl) fun a hF=>l_nil ?_;replace hF:=hF.ks [0,1,2,3,7,8,13,47] rfl;refine t_n<|c_f hF rfl<|wp_skip<|b_n<|t_n<|c_r<|pv hF hW (y_move hF rfl) fun a hF=>pv hF hW (y_add hF rfl rfl (IntWalk.i64_in _ Om)) fun a hF=>?_;replace hF:=hF.drop 7;refine pv hF hW (y_assign hF rfl) fun a hF=>l_nil ?_;replace hF:=hF.ks [0,1,2,3,7,8,13,47] rfl;replace hW:=hW.del 0 rfl;refine t_n ?_;refine⟨(k+1),?_,?_,?_,?_⟩
       ·exact⟨by omega,by rw[leads_snoc Om,hlk,hz,Bool.false_or];simp_all[edgeB]⟩
       ·first|omega|(dsimp only;omega)
       ·exact Fr.app (Fr.cons hF (t:=7) rfl Rf (Fr.nil hF)) (hF.ks [0,1,2,3] rfl)
       ·exact hW
     ·intro h7 hF;refine pvg hF hW (y_pick hF rfl rfl) (ws hF rfl rfl) fun a hF=>pvg hF hW (y_move hF rfl) (ws hF rfl rfl) fun a hF=>pk hF (wn hF rfl rfl rfl) fun a hF=>pk hF (wn hF rfl rfl rfl) fun a hF=>pk hF (wn hF rfl rfl rfl) fun a hF=>pk hF (wn hF rfl rfl rfl) fun a hF=>pvg hF hW (y_pick hF rfl rfl) (ws hF rfl rfl) fun a hF=>pv hF hW (y_pick hF rfl rfl) fun a hF=>l_nil ?_;replace hF:=hF.ks [0,1,2,3,7,8,13,47] rfl;refine t_n<|c_f hF rfl<|wp_skip<|b_n<|t_n<|c_r<|pv hF hW (y_move hF rfl) fun a hF=>pv hF hW (y_add hF rfl rfl (IntWalk.i64_in _ Om)) fun a hF=>?_;replace hF:=hF.drop 7;refine pv hF hW (y_assign hF rfl) fun a hF=>l_nil ?_;replace hF:=hF.ks [0,1,2,3,7,8,13,47] rfl;replace hW:=hW.del 0 rfl;refine t_n ?_;refine⟨(k+1),?_,?_,?_,?_⟩
      ·exact⟨by omega,by rw[leads_snoc Om,hlk,hz,Bool.false_or];simp_all[edgeB]⟩
      ·first|omega|(dsimp only;omega)
      ·exact Fr.app (Fr.cons hF (t:=7) rfl Rf (Fr.nil hF)) (hF.ks [0,1,2,3] rfl)
      ·exact hW
    ·intro h6 hF;refine pvg hF hW (y_move hF rfl) (ws hF rfl rfl) fun a hF=>pk hF (wn hF rfl rfl rfl) fun a hF=>pk hF (wn hF rfl rfl rfl) fun a hF=>pk hF (wn hF rfl rfl rfl) fun a hF=>pk hF (wn hF rfl rfl rfl) fun a hF=>pvg hF hW (y_pick hF rfl rfl) (ws hF rfl rfl) fun a hF=>pvg hF hW (y_move hF rfl) (ws hF rfl rfl) fun a hF=>pk hF (wn hF rfl rfl rfl) fun a hF=>pk hF (wn hF rfl rfl rfl) fun a hF=>pk hF (wn hF rfl rfl rfl) fun a hF=>pk hF (wn hF rfl rfl rfl) fun a hF=>pvg hF hW (y_pick hF rfl rfl) (ws hF rfl rfl) fun a hF=>pv hF hW (y_pick hF rfl rfl) fun a hF=>l_nil ?_;replace hF:=hF.ks [0,1,2,3,7,8,13,47] rfl;refine t_n<|c_f hF rfl<|wp_skip<|b_n<|t_n<|c_r<|pv hF hW (y_move hF rfl) fun a hF=>pv hF hW (y_add hF rfl rfl (IntWalk.i64_in _ Om)) fun a hF=>?_;replace hF:=hF.drop 7;refine pv hF hW (y_assign hF rfl) fun a hF=>l_nil ?_;replace hF:=hF.ks [0,1,2,3,7,8,13,47] rfl;replace hW:=hW.del 0 rfl;refine t_n ?_;refine⟨(k+1),?_,?_,?_,?_⟩
     ·exact⟨by omega,by rw[leads_snoc Om,hlk,hz,Bool.false_or];simp_all[edgeB]⟩
     ·first|omega|(dsimp only;omega)
     ·exact Fr.app (Fr.cons hF (t:=7) rfl Rf (Fr.nil hF)) (hF.ks [0,1,2,3] rfl)
     ·exact hW
  ·intro h4 hF;refine pv hF hW (y_move hF rfl) fun a hF=>pk hF (wn hF rfl rfl rfl) fun a hF=>pk hF (wn hF rfl rfl rfl) fun a hF=>pk hF (wn hF rfl rfl rfl) fun a hF=>pk hF (wn hF rfl rfl rfl) fun a hF=>pv hF hW (y_pick hF rfl rfl) fun a hF=>pv hF hW (y_move hF rfl) fun a hF=>pvg hF hW (y_fieldOwn hF rfl fa_67_0) (ws hF rfl rfl) fun a hF=>pvg hF hW (y_loadOwn hF rfl 0 rfl rfl Tryz.underlying3 rfl) (ws hF rfl rfl) fun a hF=>pvg hF hW (y_eql hF rfl rfl) (ws hF rfl rfl) fun a hF=>?_;refine Fr.splitD hF ?_ ?_
   ·intro h9 hF;refine pvg hF hW (y_move hF rfl) (ws hF rfl rfl) fun a hF=>pvg hF hW (y_fieldOwn hF rfl fa_67_1) (ws hF rfl rfl) fun a hF=>pvg hF hW (y_loadOwn hF rfl 0 rfl rfl Tryz.underlying3 rfl) (ws hF rfl rfl) fun a hF=>pvg hF hW (y_move hF rfl) (ws hF rfl rfl) fun a hF=>pvg hF hW (y_eql hF rfl rfl) (ws hF rfl rfl) fun a hF=>?_;refine Fr.splitD hF ?_ ?_
    ·intro h10 hF;refine pvg hF hW (y_pick hF rfl rfl) (ws hF rfl rfl) fun a hF=>pvg hF hW (y_move hF rfl) (ws hF rfl rfl) fun a hF=>pvg hF hW (y_fieldOwn hF rfl fa_67_2) (ws hF rfl rfl) fun a hF=>pvg hF hW (y_loadOwn hF rfl 0 rfl rfl Tryz.underlying3 rfl) (ws hF rfl rfl) fun a hF=>pvg hF hW (y_move hF rfl) (ws hF rfl rfl) fun a hF=>pvg hF hW (y_eql hF rfl rfl) (ws hF rfl rfl) fun a hF=>?_;refine Fr.splitD hF ?_ ?_
     ·intro h11 hF;refine pvg hF hW (y_pick hF rfl rfl) (ws hF rfl rfl) fun a hF=>pv hF hW (y_pick hF rfl rfl) fun a hF=>l_nil ?_;replace hF:=hF.ks [0,1,2,3,7,8,13,47] rfl;refine t_n<|c_t hF rfl<|c_sr<|pv hF hW (y_assign hF rfl) fun a hF=>l_nil<|t_n<|wp_ret<|b_r<|t_r<|t_r<|b_r<|t_r<|ret1 Tryz.results89 hF (rv_t hF rfl) ?_
      first
      |exact⟨by rw[leads_edge hkk (by rw[hz];simp_all[edgeB])],hW.below⟩
      |exact⟨by rw[show leadsB x.chans u v=false by(have e:x.chans.take k=x.chans:=List.take_of_length_le Om);rwa [e] at hlk],hW.below⟩
     ·intro h11 hF;refine pvg hF hW (y_pick hF rfl rfl) (ws hF rfl rfl) fun a hF=>pv hF hW (y_pick hF rfl rfl) fun a hF=>l_nil ?_;replace hF:=hF.ks [0,1,2,3,7,8,13,47] rfl;refine t_n<|c_f hF rfl<|wp_skip<|b_n<|t_n<|c_r<|pv hF hW (y_move hF rfl) fun a hF=>pv hF hW (y_add hF rfl rfl (IntWalk.i64_in _ Om)) fun a hF=>?_;replace hF:=hF.drop 7;refine pv hF hW (y_assign hF rfl) fun a hF=>l_nil ?_;replace hF:=hF.ks [0,1,2,3,7,8,13,47] rfl;replace hW:=hW.del 0 rfl;refine t_n ?_;refine⟨(k+1),?_,?_,?_,?_⟩
      ·exact⟨by omega,by rw[leads_snoc Om,hlk,hz,Bool.false_or];simp_all[edgeB]⟩
      ·first|omega|(dsimp only;omega)
      ·exact Fr.app (Fr.cons hF (t:=7) rfl Rf (Fr.nil hF)) (hF.ks [0,1,2,3] rfl)
      ·exact hW
    ·intro h10 hF;refine pvg hF hW (y_pick hF rfl rfl) (ws hF rfl rfl) fun a hF=>pvg hF hW (y_move hF rfl) (ws hF rfl rfl) fun a hF=>pk hF (wn hF rfl rfl rfl) fun a hF=>pk hF (wn hF rfl rfl rfl) fun a hF=>pk hF (wn hF rfl rfl rfl) fun a hF=>pk hF (wn hF rfl rfl rfl) fun a hF=>pvg hF hW (y_pick hF rfl rfl) (ws hF rfl rfl) fun a hF=>pv hF hW (y_pick hF rfl rfl) fun a hF=>l_nil ?_;replace hF:=hF.ks [0,1,2,3,7,8,13,47] rfl;refine t_n<|c_f hF rfl<|wp_skip<|b_n<|t_n<|c_r<|pv hF hW (y_move hF rfl) fun a hF=>pv hF hW (y_add hF rfl rfl (IntWalk.i64_in _ Om)) fun a hF=>?_;replace hF:=hF.drop 7;refine pv hF hW (y_assign hF rfl) fun a hF=>l_nil ?_;replace hF:=hF.ks [0,1,2,3,7,8,13,47] rfl;replace hW:=hW.del 0 rfl;refine t_n ?_;refine⟨(k+1),?_,?_,?_,?_⟩
     ·exact⟨by omega,by rw[leads_snoc Om,hlk,hz,Bool.false_or];simp_all[edgeB]⟩
     ·first|omega|(dsimp only;omega)
     ·exact Fr.app (Fr.cons hF (t:=7) rfl Rf (Fr.nil hF)) (hF.ks [0,1,2,3] rfl)
     ·exact hW
   ·intro h9 hF;refine pvg hF hW (y_move hF rfl) (ws hF rfl rfl) fun a hF=>pk hF (wn hF rfl rfl rfl) fun a hF=>pk hF (wn hF rfl rfl rfl) fun a hF=>pk hF (wn hF rfl rfl rfl) fun a hF=>pk hF (wn hF rfl rfl rfl) fun a hF=>pvg hF hW (y_pick hF rfl rfl) (ws hF rfl rfl) fun a hF=>pvg hF hW (y_move hF rfl) (ws hF rfl rfl) fun a hF=>pk hF (wn hF rfl rfl rfl) fun a hF=>pk hF (wn hF rfl rfl rfl) fun a hF=>pk hF (wn hF rfl rfl rfl) fun a hF=>pk hF (wn hF rfl rfl rfl) fun a hF=>pvg hF hW (y_pick hF rfl rfl) (ws hF rfl rfl) fun a hF=>pv hF hW (y_pick hF rfl rfl) fun a hF=>l_nil ?_;replace hF:=hF.ks [0,1,2,3,7,8,13,47] rfl;refine t_n<|c_f hF rfl<|wp_skip<|b_n<|t_n<|c_r<|pv hF hW (y_move hF rfl) fun a hF=>pv hF hW (y_add hF rfl rfl (IntWalk.i64_in _ Om)) fun a hF=>?_;replace hF:=hF.drop 7;refine pv hF hW (y_assign hF rfl) fun a hF=>l_nil ?_;replace hF:=hF.ks [0,1,2,3,7,8,13,47] rfl;replace hW:=hW.del 0 rfl;refine t_n ?_;refine⟨(k+1),?_,?_,?_,?_⟩
    ·exact⟨by omega,by rw[leads_snoc Om,hlk,hz,Bool.false_or];simp_all[edgeB]⟩
    ·first|omega|(dsimp only;omega)
    ·exact Fr.app (Fr.cons hF (t:=7) rfl Rf (Fr.nil hF)) (hF.ks [0,1,2,3] rfl)
    ·exact hW
 ·intro h2 hF;refine l_nil ?_;replace hF:=hF.ks [0,1,2,3,7,13] rfl;refine t_n<|c_f hF rfl<|wp_exit<|t_x<|t_x<|b_h<|t_n<|c_sr<|pv hF hW (y_assign hF rfl) fun a hF=>l_nil<|t_n<|wp_ret<|ret1 Tryz.results89 hF (rv_t hF rfl) ?_
  first
  |exact⟨by rw[leads_edge hkk (by rw[hz];simp_all[edgeB])],hW.below⟩
  |exact⟨by rw[show leadsB x.chans u v=false by(have e:x.chans.take k=x.chans:=List.take_of_length_le Om);rwa [e] at hlk],hW.below⟩
theorem any_snoc(P:Nat→Bool)(k:Nat):(List.range (k+1)).any P=((List.range k).any P||P k):=by
 rw[List.range_succ,List.any_append]
 simp
theorem any_found{P:Nat→Bool}{k n:Nat}(hk:k<n)(h:P k=true):(List.range n).any P=true:=List.any_eq_true.2 ⟨k,List.mem_range.2 hk,h⟩
theorem reachesBy_zero{x:SysD}{w:World}(hx:x.At w)(u v:Nat)(hp:x.parts.length≤1024):
  Calls Tryz.prog 64 #[x.val,.int .i64 u,.int .i64 v,.int .i64 0] w fun e w'=>e=.returned (.bool (rchBy x.chans x.parts.length 0 u v))∧Below w.heap.size w w':=by
 rw[x.val_eq]
 refine enter Tryz.func64 rfl Tryz.ntmps64 rfl fun a hF=>?_
 have hW:=Wd.start w NoB
 refine c_sr ?_;refine pe (e_box hF hW rfl rfl rfl rfl ?_);intro b1 a wc hF hW;refine pv hF hW (y_assign hF rfl) fun a hF=>l_nil<|t_n<|c_s<|c_sr<|pv hF hW (y_move hF rfl) fun a hF=>pv hF hW (y_move hF rfl) fun a hF=>pv hF hW (y_eql hF rfl rfl) fun a hF=>?_;refine Fr.splitD hF ?_ ?_
 ·intro h2 hF;refine l_nil ?_;replace hF:=hF.ks [0,1,2,3,4,8,12] rfl;refine t_n<|c_t hF rfl<|c_sr ?_;replace hF:=hF.drop 8;refine pv hF hW (y_assign hF rfl) fun a hF=>l_nil<|t_n<|wp_ret<|t_r<|ret1 Tryz.results64 hF (rv_t hF rfl) ?_
  exact⟨by simp only[rchBy];congr 1;simp;omega,hW.below⟩
 ·intro h2 hF;refine l_nil ?_;replace hF:=hF.ks [0,1,2,3,4,8,12] rfl;refine t_n<|c_f hF rfl<|wp_skip<|t_n<|c_s<|c_sr<|pv hF hW (y_assign hF rfl) fun a hF=>l_nil<|t_n<|wp_block ?_;refine c_loop (G:=Nat) (fun k:Nat=>[(9,.int .i64 (k:Int))]) (fun k:Nat=>[]) (fun k:Nat=>k=0) (fun k:Nat=>x.parts.length - k) 0 (hF.ks [0,1,2,3,4,12] rfl) (Fr.cons hF (t:=9) rfl Rg (Fr.nil hF)) (hW) ?_ ?_
  ·rfl
  clear hF hW
  try clear a
  intro k a wc hC hF hW;refine c_s<|c_sr<|pv hF hW (y_move hF rfl) fun a hF=>pv hF hW (y_fieldOwn hF rfl fa_26_0) fun a hF=>pv hF hW (y_loadOwn hF rfl 0 rfl rfl Tryz.underlying22 rfl) fun a hF=>pv hF hW (y_len hF rfl Tryz.underlying22) fun a hF=>pv hF hW (y_lss hF rfl rfl) fun a hF=>?_;refine Fr.splitD hF ?_ ?_
  ·intro h3 hF;refine pv hF hW (y_move hF rfl) fun a hF=>pvg hF hW (y_move hF rfl) (ws hF rfl rfl) fun a hF=>pvg hF hW (y_gtr hF rfl rfl) (ws hF rfl rfl) fun a hF=>?_;replace hF:=hF.ff;refine pv hF hW (y_pick hF rfl rfl) fun a hF=>?_;replace hF:=hF.ff;refine l_nil ?_;replace hF:=hF.ks [0,1,2,3,4,9,12,21] rfl;refine t_n<|c_f hF rfl<|wp_exit<|t_x<|t_x<|b_h<|t_n<|c_sr<|pv hF hW (y_assign hF rfl) fun a hF=>l_nil<|t_n<|wp_ret<|ret1 Tryz.results64 hF (rv_t hF rfl) ?_
   exact⟨by simp only[rchBy];congr 1;simp;omega,hW.below⟩
  ·intro h3 hF;refine pv hF hW (y_move hF rfl) fun a hF=>pk hF (wn hF rfl rfl rfl) fun a hF=>pk hF (wn hF rfl rfl rfl) fun a hF=>pv hF hW (y_pick hF rfl rfl) fun a hF=>l_nil ?_;replace hF:=hF.ks [0,1,2,3,4,9,12,21] rfl;refine t_n<|c_f hF rfl<|wp_exit<|t_x<|t_x<|b_h<|t_n<|c_sr<|pv hF hW (y_assign hF rfl) fun a hF=>l_nil<|t_n<|wp_ret<|ret1 Tryz.results64 hF (rv_t hF rfl) ?_
   exact⟨by simp only[rchBy];congr 1;simp;omega,hW.below⟩
theorem reachesBy_succ{x:SysD}{w:World}(hx:x.At w)(n u v:Nat)(hp:x.parts.length≤1024)(hc:x.chans.length≤1024)(hn:n≤1024)
  (ih:∀(c:Nat) (w1:World),Below w.heap.size w w1→Calls Tryz.prog 64 #[x.val,.int .i64 c,.int .i64 v,.int .i64 n] w1 fun e w'=>e=.returned (.bool (rchBy x.chans x.parts.length n c v))∧Below w1.heap.size w1 w'):
  Calls Tryz.prog 64 #[x.val,.int .i64 u,.int .i64 v,.int .i64 (n+1:Nat)] w fun e w'=>e=.returned (.bool (rchBy x.chans x.parts.length (n+1) u v))∧Below w.heap.size w w':=by
 rw[x.val_eq] at*
 refine enter Tryz.func64 rfl Tryz.ntmps64 rfl fun a hF=>?_
 have hW:=Wd.start w NoB
 refine c_sr ?_;refine pe (e_box hF hW rfl rfl rfl rfl ?_);intro b1 a wc hF hW;refine pv hF hW (y_assign hF rfl) fun a hF=>l_nil<|t_n<|c_s<|c_sr<|pv hF hW (y_move hF rfl) fun a hF=>pv hF hW (y_move hF rfl) fun a hF=>pv hF hW (y_eql hF rfl rfl) fun a hF=>?_;refine Fr.splitD hF ?_ ?_
 ·intro h2 hF;refine l_nil ?_;replace hF:=hF.ks [0,1,2,3,4,8,12] rfl;refine t_n<|c_t hF rfl<|c_sr ?_;replace hF:=hF.drop 8;refine pv hF hW (y_assign hF rfl) fun a hF=>l_nil<|t_n<|wp_ret<|t_r<|ret1 Tryz.results64 hF (rv_t hF rfl) ?_
  first
  |exact⟨by rw[show rchBy x.chans x.parts.length (n+1) u v=true by(rw[rchBy];simp;left;omega)],hW.below⟩
  |exact⟨by rw[show rchBy x.chans x.parts.length (n+1) u v=true by(rw[rchBy,any_found (k:=k) Om (by simp_all)];simp)],hW.below⟩
  |exact⟨by rw[show rchBy x.chans x.parts.length (n+1) u v=false by(obtain rfl:k=x.parts.length:=Om);rw[rchBy,hno];simp;omega],hW.below⟩
 ·intro h2 hF;refine l_nil ?_;replace hF:=hF.ks [0,1,2,3,4,8,12] rfl;refine t_n<|c_f hF rfl<|wp_skip<|t_n<|c_s<|c_sr<|pv hF hW (y_assign hF rfl) fun a hF=>l_nil<|t_n<|wp_block ?_;refine c_loop (G:=Nat) (fun k:Nat=>[(9,.int .i64 (k:Int))]) (fun k:Nat=>[]) (fun k:Nat=>k≤x.parts.length∧((List.range k).any fun c=>leadsB x.chans u c&&rchBy x.chans x.parts.length n c v)=false) (fun k:Nat=>x.parts.length - k) 0 (hF.ks [0,1,2,3,4,12] rfl) (Fr.cons hF (t:=9) rfl Rg (Fr.nil hF)) (hW) ?_ ?_
  ·exact⟨by omega,rfl⟩
  clear hF hW
  try clear a
  intro k a wc hC hF hW
  obtain⟨hkp,hno⟩:=hC
  refine c_s<|c_sr<|pv hF hW (y_move hF rfl) fun a hF=>pv hF hW (y_fieldOwn hF rfl fa_26_0) fun a hF=>pv hF hW (y_loadOwn hF rfl 0 rfl rfl Tryz.underlying22 rfl) fun a hF=>pv hF hW (y_len hF rfl Tryz.underlying22) fun a hF=>pv hF hW (y_lss hF rfl rfl) fun a hF=>?_;refine Fr.splitD hF ?_ ?_
  ·intro h3 hF;refine pv hF hW (y_move hF rfl) fun a hF=>pvg hF hW (y_move hF rfl) (ws hF rfl rfl) fun a hF=>pvg hF hW (y_gtr hF rfl rfl) (ws hF rfl rfl) fun a hF=>?_;refine Fr.splitD hF ?_ ?_
   ·intro h4 hF;refine pv hF hW (y_pick hF rfl rfl) fun a hF=>l_nil ?_;replace hF:=hF.ks [0,1,2,3,4,9,12,21] rfl;refine t_n<|c_t hF rfl<|wp_skip<|t_n<|c_s<|wp_block<|c_sr<|pv hF hW (y_loadAll hF rfl 0 rfl Tryz.underlying26 rfl sz_26) fun a hF=>pv hF hW (y_move hF rfl) fun a hF=>pv hF hW (y_move hF rfl) fun a hF=>?_;refine pe (e_call hF rfl rfl en_89 Rl rfl rfl (leadsR_any (hx.below hW.below) u k hc) ?_);rintro e w1 ⟨rfl,hb⟩;replace hW:=hW.kept hb;clear hb;refine⟨_,rfl,fun a hF=>?_⟩;refine Fr.splitB hF ?_ ?_
    ·intro h5 hF;refine pv hF hW (y_move hF rfl) fun a hF=>pvg hF hW (y_loadAll hF rfl 0 rfl Tryz.underlying26 rfl sz_26) (ws hF rfl rfl) fun a hF=>pvg hF hW (y_move hF rfl) (ws hF rfl rfl) fun a hF=>pvg hF hW (y_move hF rfl) (ws hF rfl rfl) fun a hF=>pvg hF hW (y_move hF rfl) (ws hF rfl rfl) fun a hF=>pvg hF hW (y_sub hF rfl rfl (IntWalk.i64_in _ Om)) (ws hF rfl rfl) fun a hF=>?_;replace hF:=Fr.cast (v':=.int .i64 (n:Int)) (by congr 1;omega) hF;refine pe (e_call hF rfl rfl en_64 Rl rfl rfl (ih k _ hW.below) ?_) (ws hF rfl rfl);rintro e w1 ⟨rfl,hb⟩;replace hW:=hW.kept hb;clear hb;refine⟨_,rfl,fun a hF=>?_⟩;refine Fr.splitB hF ?_ ?_
     ·intro h6 hF;refine pv hF hW (y_pick hF rfl rfl) fun a hF=>l_nil ?_;replace hF:=hF.ks [0,1,2,3,4,9,12,21,35] rfl;refine t_n<|c_t hF rfl<|c_sr<|pv hF hW (y_assign hF rfl) fun a hF=>l_nil<|t_n<|wp_ret<|b_r<|t_r<|t_r<|b_r<|t_r<|ret1 Tryz.results64 hF (rv_t hF rfl) ?_
      first
      |exact⟨by rw[show rchBy x.chans x.parts.length (n+1) u v=true by(rw[rchBy];simp;left;omega)],hW.below⟩
      |exact⟨by rw[show rchBy x.chans x.parts.length (n+1) u v=true by(rw[rchBy,any_found (k:=k) Om (by simp_all)];simp)],hW.below⟩
      |exact⟨by rw[show rchBy x.chans x.parts.length (n+1) u v=false by(obtain rfl:k=x.parts.length:=Om);rw[rchBy,hno];simp;omega],hW.below⟩
     ·intro h6 hF;refine pv hF hW (y_pick hF rfl rfl) fun a hF=>l_nil ?_;replace hF:=hF.ks [0,1,2,3,4,9,12,21,35] rfl;refine t_n<|c_f hF rfl<|wp_skip<|b_n<|t_n<|c_r<|pv hF hW (y_move hF rfl) fun a hF=>pv hF hW (y_add hF rfl rfl (IntWalk.i64_in _ Om)) fun a hF=>?_;replace hF:=hF.drop 9;refine pv hF hW (y_assign hF rfl) fun a hF=>l_nil ?_;replace hF:=hF.ks [0,1,2,3,4,9,12,21,35] rfl;refine t_n ?_;refine⟨(k+1),?_,?_,?_,?_⟩
      ·exact⟨by omega,by rw[any_snoc,hno];simp_all⟩
      ·first|omega|(dsimp only;omega)
      ·exact Fr.app (Fr.cons hF (t:=9) rfl Rf (Fr.nil hF)) (hF.ks [0,1,2,3,4,12] rfl)
      ·exact hW
    ·intro h5 hF;refine pv hF hW (y_move hF rfl) fun a hF=>pk hF (wn hF rfl rfl rfl) fun a hF=>pk hF (wn hF rfl rfl rfl) fun a hF=>pk hF (wn hF rfl rfl rfl) fun a hF=>pk hF (wn hF rfl rfl rfl) fun a hF=>pk hF (wn hF rfl rfl rfl) fun a hF=>pk hF (wn hF rfl rfl rfl) fun a hF=>pv hF hW (y_pick hF rfl rfl) fun a hF=>l_nil ?_;replace hF:=hF.ks [0,1,2,3,4,9,12,21,35] rfl;refine t_n<|c_f hF rfl<|wp_skip<|b_n<|t_n<|c_r<|pv hF hW (y_move hF rfl) fun a hF=>pv hF hW (y_add hF rfl rfl (IntWalk.i64_in _ Om)) fun a hF=>?_;replace hF:=hF.drop 9;refine pv hF hW (y_assign hF rfl) fun a hF=>l_nil ?_;replace hF:=hF.ks [0,1,2,3,4,9,12,21,35] rfl;refine t_n ?_;refine⟨(k+1),?_,?_,?_,?_⟩
     ·exact⟨by omega,by rw[any_snoc,hno];simp_all⟩
     ·first|omega|(dsimp only;omega)
     ·exact Fr.app (Fr.cons hF (t:=9) rfl Rf (Fr.nil hF)) (hF.ks [0,1,2,3,4,12] rfl)
     ·exact hW
   ·intro h4 hF;exfalso
    omega
  ·intro h3 hF;refine pv hF hW (y_move hF rfl) fun a hF=>pk hF (wn hF rfl rfl rfl) fun a hF=>pk hF (wn hF rfl rfl rfl) fun a hF=>pv hF hW (y_pick hF rfl rfl) fun a hF=>l_nil ?_;replace hF:=hF.ks [0,1,2,3,4,9,12,21] rfl;refine t_n<|c_f hF rfl<|wp_exit<|t_x<|t_x<|b_h<|t_n<|c_sr<|pv hF hW (y_assign hF rfl) fun a hF=>l_nil<|t_n<|wp_ret<|ret1 Tryz.results64 hF (rv_t hF rfl) ?_
   first
   |exact⟨by rw[show rchBy x.chans x.parts.length (n+1) u v=true by(rw[rchBy];simp;left;omega)],hW.below⟩
   |exact⟨by rw[show rchBy x.chans x.parts.length (n+1) u v=true by(rw[rchBy,any_found (k:=k) Om (by simp_all)];simp)],hW.below⟩
   |exact⟨by rw[show rchBy x.chans x.parts.length (n+1) u v=false by(obtain rfl:k=x.parts.length:=Om);rw[rchBy,hno];simp;omega],hW.below⟩
theorem reachesBy_any{x:SysD}{w:World}(hx:x.At w)(v:Nat)(hp:x.parts.length≤1024)(hc:x.chans.length≤1024):∀(n:Nat) (hn:n≤1024) (u:Nat) (w1:World) (hb:Below w.heap.size w w1),
  Calls Tryz.prog 64 #[x.val,.int .i64 u,.int .i64 v,.int .i64 n] w1 fun e w'=>e=.returned (.bool (rchBy x.chans x.parts.length n u v))∧Below w1.heap.size w1 w'
 |0,_,u,w1,hb=>reachesBy_zero (hx.below hb) u v hp
 |n+1,hn,u,w1,hb=>reachesBy_succ (hx.below hb) n u v hp hc Om fun c w2 hb2=>reachesBy_any (hx.below hb) v hp hc n Om c w2 hb2
theorem reaches_any{x:SysD}{w:World}(hx:x.At w)(u v:Nat)(hp:x.parts.length≤1024)(hc:x.chans.length≤1024):
  Calls Tryz.prog 43 #[x.val,.int .i64 u,.int .i64 v] w fun e w'=>e=.returned (.bool (rch x.chans x.parts.length u v))∧Below w.heap.size w w':=by
 have h:=fun w1 (hb:Below w.heap.size w w1)=>reachesBy_any (hx.below hb) v hp hc x.parts.length hp u w1 (Below.refl _ _)
 rw[x.val_eq] at*
 refine enter Tryz.func43 rfl Tryz.ntmps43 rfl fun a hF=>?_
 have hW:=Wd.start w NoB
 refine c_sr ?_;refine pe (e_box hF hW rfl rfl rfl rfl ?_);intro b1 a wc hF hW;refine pv hF hW (y_assign hF rfl) fun a hF=>l_nil<|t_n<|c_sr<|pv hF hW (y_loadAll hF rfl 0 rfl Tryz.underlying26 rfl sz_26) fun a hF=>pv hF hW (y_move hF rfl) fun a hF=>pv hF hW (y_move hF rfl) fun a hF=>pv hF hW (y_fieldOwn hF rfl fa_26_0) fun a hF=>pv hF hW (y_loadOwn hF rfl 0 rfl rfl Tryz.underlying22 rfl) fun a hF=>pv hF hW (y_len hF rfl Tryz.underlying22) fun a hF=>?_;refine pe (e_call hF rfl rfl en_64 Rl rfl rfl (h _ hW.below) ?_);rintro e w1 ⟨rfl,hb⟩;replace hW:=hW.kept hb;clear hb;refine⟨_,rfl,fun a hF=>?_⟩;refine Fr.splitB hF ?_ ?_
 ·intro h2 hF;replace hF:=hF.drop 6;refine pv hF hW (y_assign hF rfl) fun a hF=>l_nil ?_;replace hF:=hF.ks [0,1,2,3,6] rfl;refine t_n<|wp_ret<|ret1 Tryz.results43 hF (rv_t hF rfl) ?_
  exact⟨by unfold rch;simp_all,hW.below⟩
 ·intro h2 hF;replace hF:=hF.drop 6;refine pv hF hW (y_assign hF rfl) fun a hF=>l_nil ?_;replace hF:=hF.ks [0,1,2,3,6] rfl;refine t_n<|wp_ret<|ret1 Tryz.results43 hF (rv_t hF rfl) ?_
  exact⟨by unfold rch;simp_all,hW.below⟩
end Go.Proofs.YtndcjmopebcdgaaGreat
