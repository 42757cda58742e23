/- The reference's functions on cells: CellFine, StepError, ReplyError, ReplyOf, SameCells. -/
import Derived.Test.YtndcjmopebcdgaaGreatTys
import Derived.Test.YtndcjmopebcdgaaGreatCellB
import Derived.Test.YtndcjmopebcdgaaGreatSysB
import Derived.Test.YtndcjmopebcdgaaGreatBase
set_option linter.unusedSimpArgs false
set_option linter.unusedVariables false
namespace Go.Proofs.YtndcjmopebcdgaaGreat
open Go.RowKit
set_option maxRecDepth 100000
theorem truth_any(b:Bool)(w:World):Calls Tryz.prog 63 #[.bool b] w fun e w'=>e=.returned (.int .i64 (bitI b))∧Below w.heap.size w w':=by
 cases b
 ·refine enter Tryz.func63 rfl Tryz.ntmps63 rfl fun a hF=>?_
  have hW:=Wd.start w NoB
  refine c_sr<|pv hF hW (y_assign hF rfl) fun a hF=>l_nil<|t_n<|c_s<|c_sr<|pv hF hW (y_move hF rfl) fun a hF=>l_nil<|t_n<|c_f hF rfl<|wp_skip<|t_n<|c_sr ?_;replace hF:=hF.drop 2;refine pv hF hW (y_assign hF rfl) fun a hF=>l_nil<|t_n<|wp_ret<|ret1 Tryz.results63 hF (rv_t hF rfl) ?_
  exact⟨rfl,hW.below⟩
 ·refine enter Tryz.func63 rfl Tryz.ntmps63 rfl fun a hF=>?_
  have hW:=Wd.start w NoB
  refine c_sr<|pv hF hW (y_assign hF rfl) fun a hF=>l_nil<|t_n<|c_s<|c_sr<|pv hF hW (y_move hF rfl) fun a hF=>l_nil<|t_n<|c_t hF rfl<|c_sr ?_;replace hF:=hF.drop 2;refine pv hF hW (y_assign hF rfl) fun a hF=>l_nil<|t_n<|wp_ret<|t_r<|ret1 Tryz.results63 hF (rv_t hF rfl) ?_
  exact⟨rfl,hW.below⟩
theorem cellFineR_any(c:Cel)(ov:Value)(hwf:c.wf)(w:World)(ho:Ints w ov c.out):Calls Tryz.prog 18 #[celV c ov] w fun e w'=>e=.returned (.bool (cellFine c))∧Below w.heap.size w w':=by
 obtain⟨at_,regs,mem,rd,out,en⟩:=c
 obtain⟨r0,r1,r2,r3,hregs⟩:=len_four hwf.1
 obtain⟨m0,m1,m2,m3,m4,m5,m6,m7,hmem⟩:=len_eight hwf.2
 dsimp only at hregs hmem
 subst hregs hmem
 clear hwf
 obtain⟨A,k,rfl⟩:=ho.form rfl
 rw[celV_eq]
 refine enter Tryz.func18 rfl Tryz.ntmps18 rfl fun a hF=>?_
 have hW:=Wd.start w NoB
 refine c_sr ?_;refine pe (e_box hF hW rfl rfl rfl rfl ?_);intro b1 a wc hF hW;refine pv hF hW (y_assign hF rfl) fun a hF=>l_nil<|t_n<|c_sr<|pv hF hW (y_fieldOwn hF rfl fa_42_0) fun a hF=>pv hF hW (y_loadOwn hF rfl 0 rfl rfl Tryz.underlying3 rfl) fun a hF=>?_;refine pe (e_call hF rfl rfl en_17 Rl rfl rfl (withinD_any _ _ _ _) ?_);rintro e w1 ⟨rfl,hb⟩;replace hW:=hW.kept hb;clear hb;refine⟨_,rfl,fun a hF=>?_⟩;refine Fr.splitB hF ?_ ?_
 ·intro h2 hF;refine pv hF hW (y_move hF rfl) fun a hF=>pvg hF hW (y_fieldOwn hF rfl fa_42_3) (ws hF rfl rfl) fun a hF=>pvg hF hW (y_loadOwn hF rfl 0 rfl rfl Tryz.underlying3 rfl) (ws hF rfl rfl) fun a hF=>?_;refine pe (e_call hF rfl rfl en_17 Rl rfl rfl (withinD_any _ _ _ _) ?_) (ws hF rfl rfl);rintro e w1 ⟨rfl,hb⟩;replace hW:=hW.kept hb;clear hb;refine⟨_,rfl,fun a hF=>?_⟩;refine Fr.splitB hF ?_ ?_
  ·intro h3 hF;refine pv hF hW (y_pick hF rfl rfl) fun a hF=>pv hF hW (y_move hF rfl) fun a hF=>pvg hF hW (y_fieldOwn hF rfl fa_42_5) (ws hF rfl rfl) fun a hF=>pvg hF hW (y_loadOwn hF rfl 0 rfl rfl Tryz.underlying3 rfl) (ws hF rfl rfl) fun a hF=>?_;refine pe (e_call hF rfl rfl en_17 Rl rfl rfl (withinD_any _ _ _ _) ?_) (ws hF rfl rfl);rintro e w1 ⟨rfl,hb⟩;replace hW:=hW.kept hb;clear hb;refine⟨_,rfl,fun a hF=>?_⟩;refine Fr.splitB hF ?_ ?_
   ·intro h4 hF;refine pv hF hW (y_pick hF rfl rfl) fun a hF=>pv hF hW (y_move hF rfl) fun a hF=>pvg hF hW (y_fieldOwn hF rfl fa_42_4) (ws hF rfl rfl) fun a hF=>pvg hF hW (y_loadOwn hF rfl 0 rfl rfl Tryz.underlying40 rfl) (ws hF rfl rfl) fun a hF=>pvg hF hW (y_len hF rfl Tryz.underlying40) (ws hF rfl rfl) fun a hF=>pvg hF hW (y_leq hF rfl rfl) (ws hF rfl rfl) fun a hF=>?_;refine Fr.splitD hF ?_ ?_
    ·intro h5 hF;refine pv hF hW (y_pick hF rfl rfl) fun a hF=>?_;replace hF:=hF.drop 2;refine pv hF hW (y_assign hF rfl) fun a hF=>l_nil ?_;replace hF:=hF.ks [0,1,2] rfl;refine t_n<|wp_ret<|ret1 Tryz.results18 hF (rv_t hF rfl) ?_
     simp only[decide_eq_true_eq,decide_eq_false_iff_not] at*
     refine⟨?_,hW.below⟩
     first|rw[show cellFine _=true by unfold cellFine;simp only[decide_eq_true_eq];omega]|rw[show cellFine _=false by unfold cellFine;simp only[decide_eq_false_iff_not];omega]
    ·intro h5 hF;refine pv hF hW (y_pick hF rfl rfl) fun a hF=>?_;replace hF:=hF.drop 2;refine pv hF hW (y_assign hF rfl) fun a hF=>l_nil ?_;replace hF:=hF.ks [0,1,2] rfl;refine t_n<|wp_ret<|ret1 Tryz.results18 hF (rv_t hF rfl) ?_
     simp only[decide_eq_true_eq,decide_eq_false_iff_not] at*
     refine⟨?_,hW.below⟩
     first|rw[show cellFine _=true by unfold cellFine;simp only[decide_eq_true_eq];omega]|rw[show cellFine _=false by unfold cellFine;simp only[decide_eq_false_iff_not];omega]
   ·intro h4 hF;refine pv hF hW (y_pick hF rfl rfl) fun a hF=>pv hF hW (y_move hF rfl) fun a hF=>pk hF (wn hF rfl rfl rfl) fun a hF=>pk hF (wn hF rfl rfl rfl) fun a hF=>pk hF (wn hF rfl rfl rfl) fun a hF=>pk hF (wn hF rfl rfl rfl) fun a hF=>pv hF hW (y_pick hF rfl rfl) fun a hF=>?_;replace hF:=hF.drop 2;refine pv hF hW (y_assign hF rfl) fun a hF=>l_nil ?_;replace hF:=hF.ks [0,1,2] rfl;refine t_n<|wp_ret<|ret1 Tryz.results18 hF (rv_t hF rfl) ?_
    simp only[decide_eq_true_eq,decide_eq_false_iff_not] at*
    refine⟨?_,hW.below⟩
    first|rw[show cellFine _=true by unfold cellFine;simp only[decide_eq_true_eq];omega]|rw[show cellFine _=false by unfold cellFine;simp only[decide_eq_false_iff_not];omega]
  ·intro h3 hF;refine pv hF hW (y_pick hF rfl rfl) fun a hF=>pv hF hW (y_move hF rfl) fun a hF=>pk hF (wn hF rfl rfl rfl) fun a hF=>pk hF (wn hF rfl rfl rfl) fun a hF=>pk hF (wn hF rfl rfl rfl) fun a hF=>pv hF hW (y_pick hF rfl rfl) fun a hF=>pv hF hW (y_move hF rfl) fun a hF=>pk hF (wn hF rfl rfl rfl) fun a hF=>pk hF (wn hF rfl rfl rfl) fun a hF=>pk hF (wn hF rfl rfl rfl) fun a hF=>pk hF (wn hF rfl rfl rfl) fun a hF=>pv hF hW (y_pick hF rfl rfl) fun a hF=>?_;replace hF:=hF.drop 2;refine pv hF hW (y_assign hF rfl) fun a hF=>l_nil ?_;replace hF:=hF.ks [0,1,2] rfl;refine t_n<|wp_ret<|ret1 Tryz.results18 hF (rv_t hF rfl) ?_
   simp only[decide_eq_true_eq,decide_eq_false_iff_not] at*
   refine⟨?_,hW.below⟩
   first|rw[show cellFine _=true by unfold cellFine;simp only[decide_eq_true_eq];omega]|rw[show cellFine _=false by unfold cellFine;simp only[decide_eq_false_iff_not];omega]
 ·intro h2 hF;refine pv hF hW (y_move hF rfl) fun a hF=>pk hF (wn hF rfl rfl rfl) fun a hF=>pk hF (wn hF rfl rfl rfl) fun a hF=>pk hF (wn hF rfl rfl rfl) fun a hF=>pv hF hW (y_pick hF rfl rfl) fun a hF=>pv hF hW (y_move hF rfl) fun a hF=>pk hF (wn hF rfl rfl rfl) fun a hF=>pk hF (wn hF rfl rfl rfl) fun a hF=>pk hF (wn hF rfl rfl rfl) fun a hF=>pv hF hW (y_pick hF rfl rfl) fun a hF=>pv hF hW (y_move hF rfl) fun a hF=>pk hF (wn hF rfl rfl rfl) fun a hF=>pk hF (wn hF rfl rfl rfl) fun a hF=>pk hF (wn hF rfl rfl rfl) fun a hF=>pk hF (wn hF rfl rfl rfl) fun a hF=>pv hF hW (y_pick hF rfl rfl) fun a hF=>?_;replace hF:=hF.drop 2;refine pv hF hW (y_assign hF rfl) fun a hF=>l_nil ?_;replace hF:=hF.ks [0,1,2] rfl;refine t_n<|wp_ret<|ret1 Tryz.results18 hF (rv_t hF rfl) ?_
  simp only[decide_eq_true_eq,decide_eq_false_iff_not] at*
  refine⟨?_,hW.below⟩
  first|rw[show cellFine _=true by unfold cellFine;simp only[decide_eq_true_eq];omega]|rw[show cellFine _=false by unfold cellFine;simp only[decide_eq_false_iff_not];omega]
theorem sameCells_any(c d:Cel)(ov pv:Value)(hwf:c.wf)(hwd:d.wf)(w:World)(ho:Ints w ov c.out)(hp:Ints w pv d.out):
  Calls Tryz.prog 36 #[celV c ov,celV d pv] w fun e w'=>e=.returned (.bool (decide (c=d)))∧Below w.heap.size w w':=by
 obtain⟨A,k,rfl⟩:=ho.form rfl
 obtain⟨B,l,rfl⟩:=hp.form rfl
 obtain⟨at_,regs,mem,rd,out,en⟩:=c
 obtain⟨r0,r1,r2,r3,hregs⟩:=len_four hwf.1
 obtain⟨m0,m1,m2,m3,m4,m5,m6,m7,hmem⟩:=len_eight hwf.2
 obtain⟨at2,regs2,mem2,rd2,out2,en2⟩:=d
 obtain⟨s0,s1,s2,s3,hregs2⟩:=len_four hwd.1
 obtain⟨n0,n1,n2,n3,n4,n5,n6,n7,hmem2⟩:=len_eight hwd.2
 dsimp only at*
 subst hregs hmem hregs2 hmem2
 clear hwf hwd
 rw[celV_eq,celV_eq]
 refine enter Tryz.func36 rfl Tryz.ntmps36 rfl fun a hF=>?_
 have hW:=Wd.start w NoB
 refine c_sr ?_;refine pe (e_box hF hW rfl rfl rfl rfl ?_);intro b1 a wc hF hW;refine pe (e_box hF hW rfl rfl rfl rfl ?_);intro b2 a wc hF hW;refine pv hF hW (y_assign hF rfl) fun a hF=>l_nil<|t_n<|c_sr<|pv hF hW (y_fieldOwn hF rfl fa_42_0) fun a hF=>pv hF hW (y_loadOwn hF rfl 1 rfl rfl Tryz.underlying3 rfl) fun a hF=>pv hF hW (y_fieldOwn hF rfl fa_42_0) fun a hF=>pv hF hW (y_loadOwn hF rfl 0 rfl rfl Tryz.underlying3 rfl) fun a hF=>pv hF hW (y_eql hF rfl rfl) fun a hF=>?_;refine Fr.splitD hF ?_ ?_
 ·intro h3 hF;refine pv hF hW (y_move hF rfl) fun a hF=>pvg hF hW (y_fieldOwn hF rfl fa_42_1) (ws hF rfl rfl) fun a hF=>pvg hF hW (y_loadN hF rfl 1 rfl Tryz.underlying38 rfl sz_38 rfl) (ws hF rfl rfl) fun a hF=>pvg hF hW (y_fieldOwn hF rfl fa_42_1) (ws hF rfl rfl) fun a hF=>pvg hF hW (y_loadN hF rfl 0 rfl Tryz.underlying38 rfl sz_38 rfl) (ws hF rfl rfl) fun a hF=>pvg hF hW (y_bin hF rfl rfl (fun w=>eqt_38 _ _ _ _ _ _ _ _ _ _ w)) (ws hF rfl rfl) fun a hF=>?_;refine Fr.splitD hF ?_ ?_
  ·intro h4 hF;refine pv hF hW (y_pick hF rfl rfl) fun a hF=>pv hF hW (y_move hF rfl) fun a hF=>pvg hF hW (y_fieldOwn hF rfl fa_42_2) (ws hF rfl rfl) fun a hF=>pvg hF hW (y_loadN hF rfl 1 rfl Tryz.underlying39 rfl sz_39 rfl) (ws hF rfl rfl) fun a hF=>pvg hF hW (y_fieldOwn hF rfl fa_42_2) (ws hF rfl rfl) fun a hF=>pvg hF hW (y_loadN hF rfl 0 rfl Tryz.underlying39 rfl sz_39 rfl) (ws hF rfl rfl) fun a hF=>pvg hF hW (y_bin hF rfl rfl (fun w=>eqt_39 _ _ _ _ _ _ _ _ _ _ _ _ _ _ _ _ _ _ w)) (ws hF rfl rfl) fun a hF=>?_;refine Fr.splitD hF ?_ ?_
   ·intro h5 hF;refine pv hF hW (y_pick hF rfl rfl) fun a hF=>pv hF hW (y_move hF rfl) fun a hF=>pvg hF hW (y_fieldOwn hF rfl fa_42_3) (ws hF rfl rfl) fun a hF=>pvg hF hW (y_loadOwn hF rfl 1 rfl rfl Tryz.underlying3 rfl) (ws hF rfl rfl) fun a hF=>pvg hF hW (y_fieldOwn hF rfl fa_42_3) (ws hF rfl rfl) fun a hF=>pvg hF hW (y_loadOwn hF rfl 0 rfl rfl Tryz.underlying3 rfl) (ws hF rfl rfl) fun a hF=>pvg hF hW (y_eql hF rfl rfl) (ws hF rfl rfl) fun a hF=>?_;refine Fr.splitD hF ?_ ?_
    ·intro h6 hF;refine pv hF hW (y_pick hF rfl rfl) fun a hF=>pv hF hW (y_move hF rfl) fun a hF=>pvg hF hW (y_fieldOwn hF rfl fa_42_5) (ws hF rfl rfl) fun a hF=>pvg hF hW (y_loadOwn hF rfl 1 rfl rfl Tryz.underlying3 rfl) (ws hF rfl rfl) fun a hF=>pvg hF hW (y_fieldOwn hF rfl fa_42_5) (ws hF rfl rfl) fun a hF=>pvg hF hW (y_loadOwn hF rfl 0 rfl rfl Tryz.underlying3 rfl) (ws hF rfl rfl) fun a hF=>pvg hF hW (y_eql hF rfl rfl) (ws hF rfl rfl) fun a hF=>?_;refine Fr.splitD hF ?_ ?_
     ·intro h7 hF;refine pv hF hW (y_pick hF rfl rfl) fun a hF=>pv hF hW (y_move hF rfl) fun a hF=>pvg hF hW (y_fieldOwn hF rfl fa_42_4) (ws hF rfl rfl) fun a hF=>pvg hF hW (y_loadOwn hF rfl 1 rfl rfl Tryz.underlying40 rfl) (ws hF rfl rfl) fun a hF=>pvg hF hW (y_fieldOwn hF rfl fa_42_4) (ws hF rfl rfl) fun a hF=>pvg hF hW (y_loadOwn hF rfl 0 rfl rfl Tryz.underlying40 rfl) (ws hF rfl rfl) fun a hF=>?_;refine pe (e_call hF rfl rfl en_24 Rl rfl rfl (sameIntsB (ho.below hW.below) (hp.below hW.below)) ?_) (ws hF rfl rfl);rintro e w1 ⟨rfl,hb⟩;replace hW:=hW.kept hb;clear hb;refine⟨_,rfl,fun a hF=>?_⟩;refine Fr.splitB hF ?_ ?_
      ·intro h8 hF;refine pv hF hW (y_pick hF rfl rfl) fun a hF=>?_;replace hF:=hF.drop 4;refine pv hF hW (y_assign hF rfl) fun a hF=>l_nil ?_;replace hF:=hF.ks [0,1,2,3,4] rfl;refine t_n<|wp_ret<|ret1 Tryz.results36 hF (rv_t hF rfl) ?_;refine⟨?_,hW.below⟩
       simp_all
      ·intro h8 hF;refine pv hF hW (y_pick hF rfl rfl) fun a hF=>?_;replace hF:=hF.drop 4;refine pv hF hW (y_assign hF rfl) fun a hF=>l_nil ?_;replace hF:=hF.ks [0,1,2,3,4] rfl;refine t_n<|wp_ret<|ret1 Tryz.results36 hF (rv_t hF rfl) ?_;refine⟨?_,hW.below⟩
       simp_all
     ·intro h7 hF;refine pv hF hW (y_pick hF rfl rfl) fun a hF=>pv hF hW (y_move hF rfl) fun a hF=>pk hF (wn hF rfl rfl rfl) fun a hF=>pk hF (wn hF rfl rfl rfl) fun a hF=>pk hF (wn hF rfl rfl rfl) fun a hF=>pk hF (wn hF rfl rfl rfl) fun a hF=>pk hF (wn hF rfl rfl rfl) fun a hF=>pv hF hW (y_pick hF rfl rfl) fun a hF=>?_;replace hF:=hF.drop 4;refine pv hF hW (y_assign hF rfl) fun a hF=>l_nil ?_;replace hF:=hF.ks [0,1,2,3,4] rfl;refine t_n<|wp_ret<|ret1 Tryz.results36 hF (rv_t hF rfl) ?_;refine⟨?_,hW.below⟩
      simp_all
    ·intro h6 hF;refine pv hF hW (y_pick hF rfl rfl) fun a hF=>pv hF hW (y_move hF rfl) fun a hF=>pk hF (wn hF rfl rfl rfl) fun a hF=>pk hF (wn hF rfl rfl rfl) fun a hF=>pk hF (wn hF rfl rfl rfl) fun a hF=>pk hF (wn hF rfl rfl rfl) fun a hF=>pk hF (wn hF rfl rfl rfl) fun a hF=>pv hF hW (y_pick hF rfl rfl) fun a hF=>pv hF hW (y_move hF rfl) fun a hF=>pk hF (wn hF rfl rfl rfl) fun a hF=>pk hF (wn hF rfl rfl rfl) fun a hF=>pk hF (wn hF rfl rfl rfl) fun a hF=>pk hF (wn hF rfl rfl rfl) fun a hF=>pk hF (wn hF rfl rfl rfl) fun a hF=>pv hF hW (y_pick hF rfl rfl) fun a hF=>?_;replace hF:=hF.drop 4;refine pv hF hW (y_assign hF rfl) fun a hF=>l_nil ?_;replace hF:=hF.ks [0,1,2,3,4] rfl;refine t_n<|wp_ret<|ret1 Tryz.results36 hF (rv_t hF rfl) ?_;refine⟨?_,hW.below⟩
     simp_all
   ·intro h5 hF;refine pv hF hW (y_pick hF rfl rfl) fun a hF=>pv hF hW (y_move hF rfl) fun a hF=>pk hF (wn hF rfl rfl rfl) fun a hF=>pk hF (wn hF rfl rfl rfl) fun a hF=>pk hF (wn hF rfl rfl rfl) fun a hF=>pk hF (wn hF rfl rfl rfl) fun a hF=>pk hF (wn hF rfl rfl rfl) fun a hF=>pv hF hW (y_pick hF rfl rfl) fun a hF=>pv hF hW (y_move hF rfl) fun a hF=>pk hF (wn hF rfl rfl rfl) fun a hF=>pk hF (wn hF rfl rfl rfl) fun a hF=>pk hF (wn hF rfl rfl rfl) fun a hF=>pk hF (wn hF rfl rfl rfl) fun a hF=>pk hF (wn hF rfl rfl rfl) fun a hF=>pv hF hW (y_pick hF rfl rfl) fun a hF=>pv hF hW (y_move hF rfl) fun a hF=>pk hF (wn hF rfl rfl rfl) fun a hF=>pk hF (wn hF rfl rfl rfl) fun a hF=>pk hF (wn hF rfl rfl rfl) fun a hF=>pk hF (wn hF rfl rfl rfl) fun a hF=>pk hF (wn hF rfl rfl rfl) fun a hF=>pv hF hW (y_pick hF rfl rfl) fun a hF=>?_;replace hF:=hF.drop 4;refine pv hF hW (y_assign hF rfl) fun a hF=>l_nil ?_;replace hF:=hF.ks [0,1,2,3,4] rfl;refine t_n<|wp_ret<|ret1 Tryz.results36 hF (rv_t hF rfl) ?_;refine⟨?_,hW.below⟩
    simp_all
  ·intro h4 hF;refine pv hF hW (y_pick hF rfl rfl) fun a hF=>pv hF hW (y_move hF rfl) fun a hF=>pk hF (wn hF rfl rfl rfl) fun a hF=>pk hF (wn hF rfl rfl rfl) fun a hF=>pk hF (wn hF rfl rfl rfl) fun a hF=>pk hF (wn hF rfl rfl rfl) fun a hF=>pk hF (wn hF rfl rfl rfl) fun a hF=>pv hF hW (y_pick hF rfl rfl) fun a hF=>pv hF hW (y_move hF rfl) fun a hF=>pk hF (wn hF rfl rfl rfl) fun a hF=>pk hF (wn hF rfl rfl rfl) fun a hF=>pk hF (wn hF rfl rfl rfl) fun a hF=>pk hF (wn hF rfl rfl rfl) fun a hF=>pk hF (wn hF rfl rfl rfl) fun a hF=>pv hF hW (y_pick hF rfl rfl) fun a hF=>pv hF hW (y_move hF rfl) fun a hF=>pk hF (wn hF rfl rfl rfl) fun a hF=>pk hF (wn hF rfl rfl rfl) fun a hF=>pk hF (wn hF rfl rfl rfl) fun a hF=>pk hF (wn hF rfl rfl rfl) fun a hF=>pk hF (wn hF rfl rfl rfl) fun a hF=>pv hF hW (y_pick hF rfl rfl) fun a hF=>pv hF hW (y_move hF rfl) fun a hF=>pk hF (wn hF rfl rfl rfl) fun a hF=>pk hF (wn hF rfl rfl rfl) fun a hF=>pk hF (wn hF rfl rfl rfl) fun a hF=>pk hF (wn hF rfl rfl rfl) fun a hF=>pk hF (wn hF rfl rfl rfl) fun a hF=>pv hF hW (y_pick hF rfl rfl) fun a hF=>?_;replace hF:=hF.drop 4;refine pv hF hW (y_assign hF rfl) fun a hF=>l_nil ?_;replace hF:=hF.ks [0,1,2,3,4] rfl;refine t_n<|wp_ret<|ret1 Tryz.results36 hF (rv_t hF rfl) ?_;refine⟨?_,hW.below⟩
   simp_all
 ·intro h3 hF;refine pv hF hW (y_move hF rfl) fun a hF=>pk hF (wn hF rfl rfl rfl) fun a hF=>pk hF (wn hF rfl rfl rfl) fun a hF=>pk hF (wn hF rfl rfl rfl) fun a hF=>pk hF (wn hF rfl rfl rfl) fun a hF=>pk hF (wn hF rfl rfl rfl) fun a hF=>pv hF hW (y_pick hF rfl rfl) fun a hF=>pv hF hW (y_move hF rfl) fun a hF=>pk hF (wn hF rfl rfl rfl) fun a hF=>pk hF (wn hF rfl rfl rfl) fun a hF=>pk hF (wn hF rfl rfl rfl) fun a hF=>pk hF (wn hF rfl rfl rfl) fun a hF=>pk hF (wn hF rfl rfl rfl) fun a hF=>pv hF hW (y_pick hF rfl rfl) fun a hF=>pv hF hW (y_move hF rfl) fun a hF=>pk hF (wn hF rfl rfl rfl) fun a hF=>pk hF (wn hF rfl rfl rfl) fun a hF=>pk hF (wn hF rfl rfl rfl) fun a hF=>pk hF (wn hF rfl rfl rfl) fun a hF=>pk hF (wn hF rfl rfl rfl) fun a hF=>pv hF hW (y_pick hF rfl rfl) fun a hF=>pv hF hW (y_move hF rfl) fun a hF=>pk hF (wn hF rfl rfl rfl) fun a hF=>pk hF (wn hF rfl rfl rfl) fun a hF=>pk hF (wn hF rfl rfl rfl) fun a hF=>pk hF (wn hF rfl rfl rfl) fun a hF=>pk hF (wn hF rfl rfl rfl) fun a hF=>pv hF hW (y_pick hF rfl rfl) fun a hF=>pv hF hW (y_move hF rfl) fun a hF=>pk hF (wn hF rfl rfl rfl) fun a hF=>pk hF (wn hF rfl rfl rfl) fun a hF=>pk hF (wn hF rfl rfl rfl) fun a hF=>pk hF (wn hF rfl rfl rfl) fun a hF=>pk hF (wn hF rfl rfl rfl) fun a hF=>pv hF hW (y_pick hF rfl rfl) fun a hF=>?_;replace hF:=hF.drop 4;refine pv hF hW (y_assign hF rfl) fun a hF=>l_nil ?_;replace hF:=hF.ks [0,1,2,3,4] rfl;refine t_n<|wp_ret<|ret1 Tryz.results36 hF (rv_t hF rfl) ?_;refine⟨?_,hW.below⟩
  simp_all
end Go.Proofs.YtndcjmopebcdgaaGreat
