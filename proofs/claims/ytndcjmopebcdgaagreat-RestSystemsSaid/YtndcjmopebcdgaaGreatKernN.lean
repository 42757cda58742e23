/- The reference's SameLines. -/
import Derived.Test.YtndcjmopebcdgaaGreatKernG
set_option linter.unusedSimpArgs false
set_option linter.unusedVariables false
namespace Go.Proofs.YtndcjmopebcdgaaGreat
open Go.ChangeShapes Go.WideShapes Go.ChangeAt Go.RowKit
set_option maxRecDepth 100000
theorem sameLines_any{l m:List LD}{a b:Option Addr}{c d:Nat}{w:World}(hl:Flat encL 1 w (.slice a l.length c) l)(hm:Flat encL 1 w (.slice b m.length d) m)(ka:∀q,q∈l→q.At w)(kb:∀q,q∈m→q.At w):
  Calls Tryz.prog 35 #[.slice a l.length c,.slice b m.length d] w fun e w'=>e=.returned (.bool (decide (l.map LD.vals=m.map LD.vals)))∧Below w.heap.size w w':=by
 have hlen:=hl.len
 unfold maxLen at hlen
 have ha:=hl.rf encL_len LD0
 have hb:=hm.rf encL_len LD0
 have key:∀k,k<m.length→l.map LD.vals=m.map LD.vals→(l.getD k LD0).vals=(m.getD k LD0).vals:=fun k _ e=>by
  have:=congrArg (fun r=>r.getD k LD0.vals) e
  simpa only[getD_map] using this
 refine enter Tryz.func35 rfl Tryz.ntmps35 rfl fun a hF=>?_
 have hW:=Wd.start w NoB
 refine c_sr<|pv hF hW (y_assign hF rfl) fun a hF=>l_nil<|t_n<|c_s<|c_sr<|pv hF hW (y_move hF rfl) fun a hF=>pv hF hW (y_len hF rfl Tryz.underlying28) fun a hF=>pv hF hW (y_move hF rfl) fun a hF=>pv hF hW (y_len hF rfl Tryz.underlying28) fun a hF=>pv hF hW (y_neq hF rfl rfl) fun a hF=>?_;refine Fr.splitD hF ?_ ?_
 ·intro h1 hF;refine l_nil ?_;replace hF:=hF.ks [0,1,4,10] rfl;refine t_n<|c_t hF rfl<|c_sr ?_;replace hF:=hF.drop 4;refine pv hF hW (y_assign hF rfl) fun a hF=>l_nil<|t_n<|wp_ret<|t_r<|ret1 Tryz.results35 hF (rv_t hF rfl) ?_
  exact⟨by rw[decide_eq_false fun e=>by have q:=congrArg List.length e;simp only[List.length_map] at q;omega],hW.below⟩
 ·intro h1 hF;refine l_nil ?_;replace hF:=hF.ks [0,1,4,10] rfl;refine t_n<|c_f hF rfl<|wp_skip<|t_n<|c_s<|c_sr<|pv hF hW (y_assign hF rfl) fun a hF=>l_nil<|t_n<|wp_block ?_;refine c_loop (G:=Nat) (fun k:Nat=>[(5,.int .i64 (k:Int))]) (fun k:Nat=>[]) (fun k:Nat=>k≤l.length∧∀i,i<k→(l.getD i LD0).vals=(m.getD i LD0).vals) (fun k:Nat=>l.length - k) 0 (hF.ks [0,1,10] rfl) (Fr.cons hF (t:=5) rfl Rg (Fr.nil hF)) (hW) ?_ ?_
  ·exact⟨by omega,fun i hi=>by omega⟩
  clear hF hW
  try clear a
  intro k a wc hC hF hW
  obtain⟨hk,heq⟩:=hC
  refine c_s<|c_sr<|pv hF hW (y_move hF rfl) fun a hF=>pv hF hW (y_move hF rfl) fun a hF=>pv hF hW (y_len hF rfl Tryz.underlying28) fun a hF=>pv hF hW (y_lss hF rfl rfl) fun a hF=>?_;refine Fr.splitD hF ?_ ?_
  ·intro h2 hF;refine l_nil ?_;replace hF:=hF.ks [0,1,5,10,14] rfl;refine t_n<|c_t hF rfl<|wp_skip<|t_n<|c_s<|wp_block<|c_sd mixed_ok hW (hW) ?_
   clear hW;intro wc hW hS
   refine dv 0 rfl hF hS (y_move hF rfl) fun a hF=>dv 1 rfl hF hS (y_move hF rfl) fun a hF=>dv 2 rfl hF hS (y_indexS hF rfl rfl Od Tryz.underlying28 sz_44 (fun w h=>(ha).wd h)) fun a hF=>dv 3 rfl hF hS (y_fieldRow hF rfl fa_44_0) fun a hF=>dv 4 rfl hF hS (y_loadRow hF rfl (fun w h=>(ha).wd h) Od rfl Tryz.underlying40 rfl) fun a hF=>dv 5 rfl hF hS (y_move hF rfl) fun a hF=>dv 6 rfl hF hS (y_move hF rfl) fun a hF=>dv 7 rfl hF hS (y_indexS hF rfl rfl Od Tryz.underlying28 sz_44 (fun w h=>(hb).wd h)) fun a hF=>dv 8 rfl hF hS (y_fieldRow hF rfl fa_44_0) fun a hF=>dv 9 rfl hF hS (y_loadRow hF rfl (fun w h=>(hb).wd h) Od rfl Tryz.underlying40 rfl) fun a hF=>d_1 10 Kr ?_;refine d_op rfl rfl (e_call hF rfl rfl en_24 Rl rfl rfl (sameIntsB (Ints.below (ka _ (mem_getD LD0 (show k<l.length by omega))) hW.below) (Ints.below (kb _ (mem_getD LD0 (show k<m.length by omega))) hW.below)) ?_);rintro e w1 ⟨rfl,hb⟩;replace hW:=hW.kept hb;clear hb;refine⟨_,rfl,fun a hF=>?_⟩;refine Fr.splitB hF ?_ ?_
   ·intro h3 hF;replace hS:=hW;refine⟨hS,?_⟩;refine dv 11 rfl hF hS (y_not hF rfl) fun a hF=>?_;replace hF:=hF.ff;clear hS;refine d_nil Kr ?_;replace hF:=hF.ks [0,1,5,10,14,28] rfl;refine t_n<|c_f hF rfl<|wp_skip<|b_n<|t_n<|c_r<|pv hF hW (y_move hF rfl) fun a hF=>pv hF hW (y_add hF rfl rfl (IntWalk.i64_in _ Om)) fun a hF=>?_;replace hF:=hF.drop 5;refine pv hF hW (y_assign hF rfl) fun a hF=>l_nil ?_;replace hF:=hF.ks [0,1,5,10,14,28] rfl;refine t_n ?_;refine⟨(k+1),?_,?_,?_,?_⟩
    ·exact⟨by omega,fun i hi=>by rcases Nat.lt_or_ge i k with h|h;exact heq i h;(have hik:i=k:=by omega);rw[hik];simp_all⟩
    ·first|omega|(dsimp only;omega)
    ·exact Fr.app (Fr.cons hF (t:=5) rfl Rf (Fr.nil hF)) (hF.ks [0,1,10] rfl)
    ·exact hW
   ·intro h3 hF;replace hS:=hW;refine⟨hS,?_⟩;refine dv 11 rfl hF hS (y_not hF rfl) fun a hF=>?_;replace hF:=hF.tt;clear hS;refine d_nil Kr ?_;replace hF:=hF.ks [0,1,5,10,14,28] rfl;refine t_n<|c_t hF rfl<|c_sr<|pv hF hW (y_assign hF rfl) fun a hF=>l_nil<|t_n<|wp_ret<|b_r<|t_r<|t_r<|b_r<|t_r<|ret1 Tryz.results35 hF (rv_t hF rfl) ?_
    exact⟨by rw[decide_eq_false fun e=>by have q:=key k Om e;simp_all],hW.below⟩
  ·intro h2 hF;refine l_nil ?_;replace hF:=hF.ks [0,1,5,10,14] rfl;refine t_n<|c_f hF rfl<|wp_exit<|t_x<|t_x<|b_h<|t_n<|c_sr<|pv hF hW (y_assign hF rfl) fun a hF=>l_nil<|t_n<|wp_ret<|ret1 Tryz.results35 hF (rv_t hF rfl) ?_
   exact⟨by rw[decide_eq_true (list_eq_getD LD0.vals (by simp only[List.length_map];omega) fun i hi=>by rw[getD_map,getD_map];exact heq i (by simp only[List.length_map] at hi;omega))],hW.below⟩
end Go.Proofs.YtndcjmopebcdgaaGreat
