/- Begin, Step and Run of the kernel. -/
import Derived.Test.YtndcjmopebcdgaaGreatKernF
set_option linter.unusedSimpArgs false
set_option linter.unusedVariables false
namespace Go.Proofs.YtndcjmopebcdgaaGreat
open Go.ChangeShapes Go.WideShapes Go.ChangeAt Go.RowKit
theorem bu_KernG_30_(w:World):(Instr.build 30 #[]).run Tryz.prog w=.ok (.agg #[(.int .i64 0),(.slice none 0 0),(.slice none 0 0)]) w:=by kernel_rfl
theorem bu_KernG_30_1_2(x0:Option Addr)(x0n x0c:Nat)(x1:Option Addr)(x1n x1c:Nat)(w:World):(Instr.build 30 #[(1,(.slice x0 x0n x0c)),(2,(.slice x1 x1n x1c))]).run Tryz.prog w=.ok (.agg #[(.int .i64 0),(.slice x0 x0n x0c),(.slice x1 x1n x1c)]) w:=by kernel_rfl
set_option maxRecDepth 100000
theorem flat_len{α:Type}{enc:α→List Value}{size:Nat}(hs:∀q,(enc q).length=size):∀l:List α,(l.flatMap enc).length=l.length*size
 |[]=>by simp
 |q::r=>by rw[List.flatMap_cons,List.length_append,hs,flat_len hs r,List.length_cons,Nat.succ_mul,Nat.add_comm]
theorem flat_rep{α:Type}{enc:α→List Value}{zl:List Value}{q:α}(hz:zl=enc q):∀n:Nat,(List.replicate n zl).flatten=(List.replicate n q).flatMap enc
 |0=>rfl
 |n+1=>by rw[List.replicate_succ,List.replicate_succ,List.flatten_cons,List.flatMap_cons,flat_rep hz n,hz]
section
variable {w0 w:World} {X:Nat→Prop} {es:List Asn}
theorem Wd.zero_world(hW:Wd w0 X es w):Wd w0 X (WD.zero.rowC::WD.zero.rowL::.res WD.zero.Rest::es) w:=
 ((hW.free (R:=WD.zero.Rest) fun _=>⟨fun _ h=>(by cases h),fun _ h=>(by cases h)⟩).nil_row _ _).nil_row _ _
theorem Wd.made_world{b1 b2 n m:Nat}{l1 l2:List Value}(hW:Wd w0 X (.blk b1 42 l1::.blk b2 44 l2::es) w)(h1:l1=(List.replicate n CD0).flatMap encC)(h2:l2=(List.replicate m LD0).flatMap encL)(hn:n≤1024)(hm:m≤1024):
  ∃y:WD,y=⟨0,List.replicate n CD0,some ⟨b1,0,none⟩,n,List.replicate m LD0,some ⟨b2,0,none⟩,m⟩∧Wd w0 X (y.rowC::y.rowL::.res y.Rest::es) w:=by
 subst h1 h2
 have h3:=(hW.blk_row 0 rfl 16 n (by rw[flat_len encC_len,List.length_replicate]) (by unfold maxLen;omega)).blk_row 1 rfl 1 m (by rw[flat_len encL_len,List.length_replicate]) (by unfold maxLen;omega)
 have h4:=((h3.free (R:=WD.Rest ⟨0,List.replicate n CD0,some ⟨b1,0,none⟩,n,List.replicate m LD0,some ⟨b2,0,none⟩,m⟩) fun u=>⟨fun q hq=>by rw[List.eq_of_mem_replicate hq];exact OwnInts.nil_,fun q hq=>by rw[List.eq_of_mem_replicate hq];exact OwnInts.nil_⟩).front 2 rfl rfl).front 2 rfl rfl
 refine⟨_,rfl,?_⟩
 simp only[WD.rowC,WD.rowL,List.length_replicate]
 exact h4
end
theorem kernbegin_any{x:SysD}{w:World}(hx:x.At w)(hk:chkSys x.sys=0):Calls Tryz.prog 48 #[x.val] w (WrlOwn w (beginW x.sys)):=by
 obtain⟨⟨-,hn⟩,hm,-⟩:=sizes_get (chkSys_zero hk).1
 rw[x.val_eq]
 refine enter Tryz.func48 rfl Tryz.ntmps48 rfl fun a hF=>?_
 have hW:=Wd.start w NoB
 refine c_sr ?_;refine pe (e_box hF hW rfl rfl rfl rfl ?_);intro b1 a wc hF hW;refine pe (e_alloc hF hW ze_30 rfl rfl rfl ?_);intro b2 a wc hF hW;refine l_nil<|t_n<|c_sd mixed_ok hW ((hW.del 0 rfl)) ?_
 clear hW;intro wc hW hS
 refine dv 0 rfl hF hS (y_fieldOwn hF rfl fa_26_0) fun a hF=>dv 1 rfl hF hS (y_loadOwn hF rfl 0 rfl rfl Tryz.underlying22 rfl) fun a hF=>dv 2 rfl hF hS (y_len hF rfl Tryz.underlying22) fun a hF=>dv 4 rfl hF hS (y_fieldOwn hF rfl fa_26_1) fun a hF=>dv 5 rfl hF hS (y_loadOwn hF rfl 0 rfl rfl Tryz.underlying23 rfl) fun a hF=>dv 6 rfl hF hS (y_len hF rfl Tryz.underlying23) fun a hF=>?_;refine d_2 3 7 Kr ?_ ?_
 ·refine d_op rfl rfl (e_makeSlice hF hW rfl rfl Tryz.underlying27 inf_42 rfl rfl Om (by unfold maxLen;omega) rfl rfl ?_);intro b3 a wc hF hW;replace hS:=((hW.del 0 rfl).del 0 rfl);refine⟨hS,?_⟩;refine d_1 7 Kr ?_;refine d_op rfl rfl (e_makeSlice hF hW rfl rfl Tryz.underlying28 inf_44 rfl rfl Om (by unfold maxLen;omega) rfl rfl ?_);intro b4 a wc hF hW;replace hS:=(((hW.del 0 rfl).del 0 rfl).del 0 rfl);refine⟨hS,?_⟩;refine dv 8 rfl hF hS (y_build hF rfl (fun w=>bu_KernG_30_1_2 _ _ _ _ _ _ w)) fun a hF=>d_1 9 Kr ?_;refine d_op rfl rfl (e_storeAll rfl hF hW rfl rfl 2 rfl rfl rfl Kr sz_30 ?_);intro wc hW;replace hS:=(((hW.del 0 rfl).del 0 rfl).del 0 rfl);refine⟨hS,?_⟩;clear hS;refine d_nil Kr ?_;replace hF:=hF.ks [0,1,2] rfl;refine t_n<|wp_ret<|ret1 Tryz.results48 hF (rv_c hF rfl hW 2 rfl Tryz.underlying30 rfl sz_30) ?_;replace hW:=hW.del 2 rfl;replace hW:=hW.del 2 rfl;replace hW:=hW.front 1 rfl rfl
  obtain⟨y,hy,hWy⟩:=hW.made_world (n:=x.parts.length) (m:=x.chans.length) (flat_rep (enc:=encC) (q:=CD0) rfl _) (flat_rep (enc:=encL) (q:=LD0) rfl _) Om Om
  subst hy
  exact⟨_,by simp only[WD.val,List.length_replicate],by simp only[WD.wrl,beginW,SysD.sys,List.map_replicate,List.length_map];rfl,hWy⟩
 ·refine d_op rfl rfl (e_makeSlice hF hW rfl rfl Tryz.underlying28 inf_44 rfl rfl Om (by unfold maxLen;omega) rfl rfl ?_);intro b5 a wc hF hW;replace hS:=((hW.del 0 rfl).del 0 rfl);refine⟨hS,?_⟩;refine d_1 3 Kr ?_;refine d_op rfl rfl (e_makeSlice hF hW rfl rfl Tryz.underlying27 inf_42 rfl rfl Om (by unfold maxLen;omega) rfl rfl ?_);intro b6 a wc hF hW;replace hS:=(((hW.del 0 rfl).del 0 rfl).del 0 rfl);refine⟨hS,?_⟩;refine dv 8 rfl hF hS (y_build hF rfl (fun w=>bu_KernG_30_1_2 _ _ _ _ _ _ w)) fun a hF=>d_1 9 Kr ?_;refine d_op rfl rfl (e_storeAll rfl hF hW rfl rfl 2 rfl rfl rfl Kr sz_30 ?_);intro wc hW;replace hS:=(((hW.del 0 rfl).del 0 rfl).del 0 rfl);refine⟨hS,?_⟩;clear hS;refine d_nil Kr ?_;replace hF:=hF.ks [0,1,2] rfl;refine t_n<|wp_ret<|ret1 Tryz.results48 hF (rv_c hF rfl hW 2 rfl Tryz.underlying30 rfl sz_30) ?_;replace hW:=hW.del 2 rfl;replace hW:=hW.del 2 rfl
  obtain⟨y,hy,hWy⟩:=hW.made_world (n:=x.parts.length) (m:=x.chans.length) (flat_rep (enc:=encC) (q:=CD0) rfl _) (flat_rep (enc:=encL) (q:=LD0) rfl _) Om Om
  subst hy
  exact⟨_,by simp only[WD.val,List.length_replicate],by simp only[WD.wrl,beginW,SysD.sys,List.map_replicate,List.length_map];rfl,hWy⟩
def WrlErr(w:World)(W:Wrl)(E:Int)(e:Ending)(w':World):Prop:=∃y:WD,e=.returned (.tuple #[y.val,.int .i64 E])∧y.wrl=W∧Wd w NoB [y.rowC,y.rowL,.res y.Rest] w'
def beginOr(s:Sys):Wrl:=if chkSys s=0 then beginW s else Wrl.zero
theorem kernBegin_any{x:SysD}{w:World}(hx:x.At w):Calls Tryz.prog 20 #[x.val] w (WrlErr w (beginOr x.sys) (chkSys x.sys)):=by
 have hb:=fun w1 (hb:Below w.heap.size w w1) hk=>kernbegin_any (hx.below hb) hk
 have hc:=fun w1 (hb:Below w.heap.size w w1)=>confCheck_any (hx.below hb)
 rw[x.val_eq] at*
 refine enter Tryz.func20 rfl Tryz.ntmps20 rfl fun a hF=>?_
 have hW:=Wd.start w NoB
 refine c_sr ?_;refine pe (e_box hF hW rfl rfl rfl rfl ?_);intro b1 a wc hF hW;refine pe (e_alloc hF hW ze_30 rfl rfl rfl ?_);intro b2 a wc hF hW;refine pv hF hW (y_assign hF rfl) fun a hF=>l_nil<|t_n<|c_s<|c_sr<|pv hF hW (y_loadAll hF rfl 1 rfl Tryz.underlying26 rfl sz_26) fun a hF=>?_;refine pe (e_call hF rfl rfl en_47 Rl rfl rfl (hc _ hW.below) ?_);rintro e w1 ⟨rfl,hb⟩;replace hW:=hW.kept hb;clear hb;refine⟨_,rfl,fun a hF=>?_⟩;refine pv hF hW (y_assign hF rfl) fun a hF=>l_nil ?_;replace hF:=hF.ks [0,1,2,3,4] rfl;refine t_n<|c_sr<|pv hF hW (y_move hF rfl) fun a hF=>pv hF hW (y_neq hF rfl rfl) fun a hF=>?_;refine Fr.splitD hF ?_ ?_
 ·intro h3 hF;refine l_nil ?_;replace hF:=hF.ks [0,1,2,3,4,8] rfl;refine t_n<|c_t hF rfl<|c_sr<|pv hF hW (y_build hF rfl (fun w=>bu_KernG_30_ w)) fun a hF=>pv hF hW (y_move hF rfl) fun a hF=>?_;refine pe (e_storeAll rfl hF hW rfl rfl 0 rfl rfl rfl Kr sz_30 ?_);intro wc hW;replace hF:=hF.drop 3;refine pv hF hW (y_assign hF rfl) fun a hF=>l_nil ?_;replace hF:=hF.ks [0,1,2,3,4,8] rfl;refine t_n<|wp_ret<|t_r<|ret2 Tryz.results20 hF (rv_c hF rfl hW 0 rfl Tryz.underlying30 rfl sz_30) (rv_t hF rfl) ?_;replace hW:=hW.del 0 rfl;replace hW:=hW.del 0 rfl
  have h1:chkSys x.sys≠0:=Am
  exact⟨WD.zero,rfl,(if_neg h1).symm,hW.zero_world⟩
 ·intro h3 hF;refine l_nil ?_;replace hF:=hF.ks [0,1,2,3,4,8] rfl;refine t_n<|c_f hF rfl<|wp_skip<|t_n<|c_sr<|pv hF hW (y_loadAll hF rfl 1 rfl Tryz.underlying26 rfl sz_26) fun a hF=>?_;refine pe (e_call hF rfl rfl en_48 Rl rfl rfl (hb _ hW.below Om) ?_);rintro e w1 ⟨y,rfl,hy,hN⟩;replace hW:=hW.comb3 hN;refine⟨_,rfl,fun a hF=>?_⟩;replace hF:=Fr.cast (v':=.agg #[.int .i64 y.tick,.slice y.ca y.cells.length y.cc,.slice y.la y.lines.length y.lc]) rfl hF;refine pe (e_storeAll rfl hF hW rfl rfl 3 rfl rfl rfl Kr sz_30 ?_);intro wc hW;replace hF:=hF.drop 3;refine pv hF hW (y_assign hF rfl) fun a hF=>l_nil ?_;replace hF:=hF.ks [0,1,2,3,4,8] rfl;refine t_n<|wp_ret<|ret2 Tryz.results20 hF (rv_c hF rfl hW 3 rfl Tryz.underlying30 rfl sz_30) (rv_t hF rfl) ?_;replace hW:=hW.del 3 rfl;replace hW:=hW.del 3 rfl
  have h0:chkSys x.sys=0:=by omega
  exact⟨y,(by rw[h0];rfl),hy.trans (if_pos h0).symm,hW⟩
def stepErrW(s:Sys)(w:Wrl):Int:=if chkWorld s w=0 then(if w.tick=300 then 3 else 0) else chkWorld s w
def stepOrW(s:Sys)(w:Wrl):Wrl:=if stepErrW s w=0 then stepW s w else Wrl.zero
theorem stepErrW_c{s:Sys}{w:Wrl}(h:chkWorld s w≠0):stepErrW s w=chkWorld s w:=if_neg h
theorem stepErrW_3{s:Sys}{w:Wrl}(h:chkWorld s w=0)(h2:w.tick=300):stepErrW s w=3:=by unfold stepErrW;rw[if_pos h,if_pos h2]
theorem stepErrW_0{s:Sys}{w:Wrl}(h:chkWorld s w=0)(h2:w.tick≠300):stepErrW s w=0:=by unfold stepErrW;rw[if_pos h,if_neg h2]
theorem world_right{x:SysD}{y:WD}(h:chkWorld x.sys y.wrl=0):chkSys x.sys=0∧RightD x y:=by
 obtain⟨h1,h2⟩:=chkWorld_zero h
 exact⟨h1,rightD_iff.1 (right_iff.1 h2)⟩
set_option maxHeartbeats 4000000 in
theorem kernStep_any{x:SysD}{y:WD}{w:World}(hx:x.At w)(hy:y.At w):Calls Tryz.prog 8 #[x.val,y.val] w (WrlErr w (stepOrW x.sys y.wrl) (stepErrW x.sys y.wrl)):=by
 have hc:=fun w1 (hb:Below w.heap.size w w1)=>kernCheck_any (hx.below hb) (hy.below hb)
 have ho:=fun w1 (hb:Below w.heap.size w w1) (h:chkWorld x.sys y.wrl=0)=>kernOwn_any (hy.below hb) ((world_right h).2.small (world_right h).1)
 have hst:∀(y':WD) (w1:World) (X:Nat→Prop) (b:Nat),(∀u,Chg X w1 u→Below w.heap.size w u)→y'.wrl=y.wrl→chkWorld x.sys y.wrl=0→y.tick≠300→Wd w1 X [.blk b 30 [.int .i64 y'.tick,.slice y'.ca y'.cells.length y'.cc,.slice y'.la y'.lines.length y'.lc],y'.rowC,y'.rowL,.res y'.Rest] w1→Calls Tryz.prog 27 #[x.val,.pointer (some ⟨b,0,none⟩)] w1 fun e w'=>∃y'':WD,e=.returned (.tuple #[])∧y''.wrl=stepW x.sys y.wrl∧
   Wd w1 X [.blk b 30 [.int .i64 y''.tick,.slice y''.ca y''.cells.length y''.cc,.slice y''.la y''.lines.length y''.lc],y''.rowC,y''.rowL,.res y''.Rest] w':=fun y' w1 X b hbl he h0 ht hW=>by
  rw[←he] at h0⊢
  obtain⟨hk,hr⟩:=world_right h0
  have ht':y'.tick=y.tick:=congrArg Wrl.tick he
  exact kernStepIn_any (fun u hc=>hx.below (hbl u hc)) hW hk hr (by have:=hr.t1;omega)
 rw[x.val_eq,y.val_eq] at*
 refine enter Tryz.func8 rfl Tryz.ntmps8 rfl fun a hF=>?_
 have hW:=Wd.start w NoB
 refine c_sr ?_;refine pe (e_box hF hW rfl rfl rfl rfl ?_);intro b1 a wc hF hW;refine pe (e_box hF hW rfl rfl rfl rfl ?_);intro b2 a wc hF hW;refine pe (e_alloc hF hW ze_30 rfl rfl rfl ?_);intro b3 a wc hF hW;refine pv hF hW (y_assign hF rfl) fun a hF=>l_nil<|t_n<|c_s<|c_sr<|pv hF hW (y_loadAll hF rfl 2 rfl Tryz.underlying26 rfl sz_26) fun a hF=>pv hF hW (y_loadAll hF rfl 1 rfl Tryz.underlying30 rfl sz_30) fun a hF=>?_;refine pe (e_call hF rfl rfl en_23 Rl rfl rfl (hc _ hW.below) ?_);rintro e w1 ⟨rfl,hb⟩;replace hW:=hW.kept hb;clear hb;refine⟨_,rfl,fun a hF=>?_⟩;refine pv hF hW (y_assign hF rfl) fun a hF=>l_nil ?_;replace hF:=hF.ks [0,1,2,3,4,5,6] rfl;refine t_n<|c_sr<|pv hF hW (y_move hF rfl) fun a hF=>pv hF hW (y_neq hF rfl rfl) fun a hF=>?_;refine Fr.splitD hF ?_ ?_
 ·intro h4 hF;refine l_nil ?_;replace hF:=hF.ks [0,1,2,3,4,5,6,12] rfl;refine t_n<|c_t hF rfl<|c_sr<|pv hF hW (y_build hF rfl (fun w=>bu_KernG_30_ w)) fun a hF=>pv hF hW (y_move hF rfl) fun a hF=>?_;refine pe (e_storeAll rfl hF hW rfl rfl 0 rfl rfl rfl Kr sz_30 ?_);intro wc hW;replace hF:=hF.drop 5;refine pv hF hW (y_assign hF rfl) fun a hF=>l_nil ?_;replace hF:=hF.ks [0,1,2,3,4,5,6,12] rfl;refine t_n<|wp_ret<|t_r<|ret2 Tryz.results8 hF (rv_c hF rfl hW 0 rfl Tryz.underlying30 rfl sz_30) (rv_t hF rfl) ?_;replace hW:=hW.del 0 rfl;replace hW:=hW.del 0 rfl;replace hW:=hW.del 0 rfl
  have h1:chkWorld x.sys y.wrl≠0:=Am
  exact⟨WD.zero,(by rw[stepErrW_c h1];rfl),(if_neg (by rw[stepErrW_c h1];exact h1)).symm,hW.zero_world⟩
 ·intro h4 hF;refine l_nil ?_;replace hF:=hF.ks [0,1,2,3,4,5,6,12] rfl;refine t_n<|c_f hF rfl<|wp_skip<|t_n<|c_s<|c_sr<|pv hF hW (y_fieldOwn hF rfl fa_30_0) fun a hF=>pv hF hW (y_loadOwn hF rfl 1 rfl rfl Tryz.underlying3 rfl) fun a hF=>pv hF hW (y_eql hF rfl rfl) fun a hF=>?_;refine Fr.splitD hF ?_ ?_
  ·intro h5 hF;refine l_nil ?_;replace hF:=hF.ks [0,1,2,3,4,5,6,12,17] rfl;refine t_n<|c_t hF rfl<|c_sr<|pv hF hW (y_build hF rfl (fun w=>bu_KernG_30_ w)) fun a hF=>?_;refine pe (e_storeAll rfl hF hW rfl rfl 0 rfl rfl rfl Kr sz_30 ?_);intro wc hW;replace hF:=hF.drop 5;refine pv hF hW (y_assign hF rfl) fun a hF=>l_nil ?_;replace hF:=hF.ks [0,1,2,3,4,5,6,12,17] rfl;refine t_n<|wp_ret<|t_r<|ret2 Tryz.results8 hF (rv_c hF rfl hW 0 rfl Tryz.underlying30 rfl sz_30) (rv_t hF rfl) ?_;replace hW:=hW.del 0 rfl;replace hW:=hW.del 0 rfl;replace hW:=hW.del 0 rfl
   have h0:chkWorld x.sys y.wrl=0:=by omega
   have h3:=stepErrW_3 h0 (show y.wrl.tick=300 by assumption)
   exact⟨WD.zero,(by rw[h3];rfl),(if_neg (by rw[h3];decide)).symm,hW.zero_world⟩
  ·intro h5 hF;refine l_nil ?_;replace hF:=hF.ks [0,1,2,3,4,5,6,12,17] rfl;refine t_n<|c_f hF rfl<|wp_skip<|t_n<|c_sr<|pv hF hW (y_loadAll hF rfl 1 rfl Tryz.underlying30 rfl sz_30) fun a hF=>?_;refine pe (e_call hF rfl rfl en_26 Rl rfl rfl (ho _ hW.below Om) ?_);rintro e w1 ⟨y1,rfl,hy1,hN⟩;replace hW:=hW.comb3 hN;refine⟨_,rfl,fun a hF=>?_⟩;replace hF:=Fr.cast (v':=.agg #[.int .i64 y1.tick,.slice y1.ca y1.cells.length y1.cc,.slice y1.la y1.lines.length y1.lc]) rfl hF;refine pe (e_alloc hF hW ze_30 rfl rfl rfl ?_);intro b6 a wc hF hW;refine pe (e_storeAll rfl hF hW rfl rfl 0 rfl rfl rfl Kr sz_30 ?_);intro wc hW;refine l_nil ?_;replace hF:=hF.ks [0,1,2,3,4,5,6,7,12,17] rfl;refine t_n ?_
   obtain⟨X,hL,hbl,hback⟩:=Wd.lend [_,_,_,_] hW
   refine c_sr<|pv hF hW (y_loadAll hF rfl 6 rfl Tryz.underlying26 rfl sz_26) fun a hF=>?_;refine pe (e_call hF rfl rfl en_27 Rl rfl rfl (hst y1 _ X _ hbl hy1 Om Om hL) ?_);rintro e w1 ⟨y2,rfl,hy2,hN⟩;replace hW:=hback _ _ hN;refine⟨_,rfl,fun a hF=>?_⟩;refine l_nil ?_;replace hF:=hF.ks [0,1,2,3,4,5,6,7,12,17] rfl;refine t_n<|c_sr<|pv hF hW (y_loadAll hF rfl 0 rfl Tryz.underlying30 rfl sz_30) fun a hF=>?_;refine pe (e_storeAll rfl hF hW rfl rfl 4 rfl rfl rfl Kr sz_30 ?_);intro wc hW;replace hF:=hF.drop 5;refine pv hF hW (y_assign hF rfl) fun a hF=>l_nil ?_;replace hF:=hF.ks [0,1,2,3,4,5,6,7,12,17] rfl;refine t_n<|wp_ret<|ret2 Tryz.results8 hF (rv_c hF rfl hW 4 rfl Tryz.underlying30 rfl sz_30) (rv_t hF rfl) ?_;replace hW:=hW.del 0 rfl;replace hW:=hW.del 3 rfl;replace hW:=hW.del 3 rfl;replace hW:=hW.del 3 rfl
   have h0:chkWorld x.sys y.wrl=0:=by omega
   have h3:=stepErrW_0 h0 (show y.wrl.tick≠300 by assumption)
   exact⟨y2,(by rw[h3];rfl),hy2.trans (if_pos h3).symm,hW⟩
def runErr(s:Sys)(n:Int):Int:=if chkSys s=0 then(if 0≤n∧n≤300 then 0 else 3) else chkSys s
def runOr(s:Sys)(n:Int):Wrl:=if runErr s n=0 then runW s n.toNat else Wrl.zero
theorem runErr_c{s:Sys}{n:Int}(h:chkSys s≠0):runErr s n=chkSys s:=if_neg h
theorem runErr_3{s:Sys}{n:Int}(h:chkSys s=0)(h2:¬(0≤n∧n≤300)):runErr s n=3:=by unfold runErr;rw[if_pos h,if_neg h2]
theorem runErr_0{s:Sys}{n:Int}(h:chkSys s=0)(h2:0≤n∧n≤300):runErr s n=0:=by unfold runErr;rw[if_pos h,if_pos h2]
set_option maxHeartbeats 4000000 in
theorem kernRun_any{x:SysD}{w:World}(hx:x.At w)(n:Int):Calls Tryz.prog 22 #[x.val,.int .i64 n] w (WrlErr w (runOr x.sys n) (runErr x.sys n)):=by
 have hb:=fun w1 (hb:Below w.heap.size w w1) hk=>kernbegin_any (hx.below hb) hk
 have hc:=fun w1 (hb:Below w.heap.size w w1)=>confCheck_any (hx.below hb)
 have hst:∀(k:Nat) (y':WD) (w1:World) (X:Nat→Prop) (b:Nat),(∀u,Chg X w1 u→Below w.heap.size w u)→y'.wrl=runW x.sys k→chkSys x.sys=0→k<300→Wd w1 X [.blk b 30 [.int .i64 y'.tick,.slice y'.ca y'.cells.length y'.cc,.slice y'.la y'.lines.length y'.lc],y'.rowC,y'.rowL,.res y'.Rest] w1→Calls Tryz.prog 27 #[x.val,.pointer (some ⟨b,0,none⟩)] w1 fun e w'=>∃y'':WD,e=.returned (.tuple #[])∧y''.wrl=runW x.sys (k+1)∧
   Wd w1 X [.blk b 30 [.int .i64 y''.tick,.slice y''.ca y''.cells.length y''.cc,.slice y''.la y''.lines.length y''.lc],y''.rowC,y''.rowL,.res y''.Rest] w':=fun k y' w1 X b hbl he hk ht hW=>by
  obtain⟨hr,htk⟩:=runW_right hk k Om
  rw[←he] at hr htk
  have:=kernStepIn_any (fun u hc=>hx.below (hbl u hc)) hW hk (rightD_iff.1 hr) (by have:y'.tick=k:=htk;omega)
  rw[he] at this
  exact this
 rw[x.val_eq] at*
 refine enter Tryz.func22 rfl Tryz.ntmps22 rfl fun a hF=>?_
 have hW:=Wd.start w NoB
 refine c_sr ?_;refine pe (e_box hF hW rfl rfl rfl rfl ?_);intro b1 a wc hF hW;refine pe (e_alloc hF hW ze_30 rfl rfl rfl ?_);intro b2 a wc hF hW;refine pv hF hW (y_assign hF rfl) fun a hF=>l_nil<|t_n<|c_s<|c_sr<|pv hF hW (y_loadAll hF rfl 1 rfl Tryz.underlying26 rfl sz_26) fun a hF=>?_;refine pe (e_call hF rfl rfl en_47 Rl rfl rfl (hc _ hW.below) ?_);rintro e w1 ⟨rfl,hb⟩;replace hW:=hW.kept hb;clear hb;refine⟨_,rfl,fun a hF=>?_⟩;refine pv hF hW (y_assign hF rfl) fun a hF=>l_nil ?_;replace hF:=hF.ks [0,1,2,4,5,6] rfl;refine t_n<|c_sr<|pv hF hW (y_move hF rfl) fun a hF=>pv hF hW (y_neq hF rfl rfl) fun a hF=>?_;refine Fr.splitD hF ?_ ?_
 ·intro h3 hF;refine l_nil ?_;replace hF:=hF.ks [0,1,2,4,5,6,11] rfl;refine t_n<|c_t hF rfl<|c_sr<|pv hF hW (y_build hF rfl (fun w=>bu_KernG_30_ w)) fun a hF=>pv hF hW (y_move hF rfl) fun a hF=>?_;refine pe (e_storeAll rfl hF hW rfl rfl 0 rfl rfl rfl Kr sz_30 ?_);intro wc hW;replace hF:=hF.drop 5;refine pv hF hW (y_assign hF rfl) fun a hF=>l_nil ?_;replace hF:=hF.ks [0,1,2,4,5,6,11] rfl;refine t_n<|wp_ret<|t_r<|ret2 Tryz.results22 hF (rv_c hF rfl hW 0 rfl Tryz.underlying30 rfl sz_30) (rv_t hF rfl) ?_;replace hW:=hW.del 0 rfl;replace hW:=hW.del 0 rfl
  have h1:chkSys x.sys≠0:=Am
  exact⟨WD.zero,(by rw[runErr_c h1];rfl),(if_neg (by rw[runErr_c h1];exact h1)).symm,hW.zero_world⟩
 ·intro h3 hF;refine l_nil ?_;replace hF:=hF.ks [0,1,2,4,5,6,11] rfl;refine t_n<|c_f hF rfl<|wp_skip<|t_n<|c_s<|c_sr<|pv hF hW (y_move hF rfl) fun a hF=>pv hF hW (y_lss hF rfl rfl) fun a hF=>?_;refine Fr.splitD hF ?_ ?_
  ·intro h4 hF;refine pv hF hW (y_move hF rfl) fun a hF=>pk hF (wn hF rfl rfl rfl) fun a hF=>pk hF (wn hF rfl rfl rfl) fun a hF=>pv hF hW (y_pick hF rfl rfl) fun a hF=>l_nil ?_;replace hF:=hF.ks [0,1,2,4,5,6,11,19] rfl;refine t_n<|c_t hF rfl<|c_sr<|pv hF hW (y_build hF rfl (fun w=>bu_KernG_30_ w)) fun a hF=>?_;refine pe (e_storeAll rfl hF hW rfl rfl 0 rfl rfl rfl Kr sz_30 ?_);intro wc hW;replace hF:=hF.drop 5;refine pv hF hW (y_assign hF rfl) fun a hF=>l_nil ?_;replace hF:=hF.ks [0,1,2,4,5,6,11,19] rfl;refine t_n<|wp_ret<|t_r<|ret2 Tryz.results22 hF (rv_c hF rfl hW 0 rfl Tryz.underlying30 rfl sz_30) (rv_t hF rfl) ?_;replace hW:=hW.del 0 rfl;replace hW:=hW.del 0 rfl
   have h3:=runErr_3 (s:=x.sys) (n:=n) Om Om
   exact⟨WD.zero,(by rw[h3];rfl),(if_neg (by rw[h3];decide)).symm,hW.zero_world⟩
  ·intro h4 hF;refine pv hF hW (y_move hF rfl) fun a hF=>pvg hF hW (y_move hF rfl) (ws hF rfl rfl) fun a hF=>pvg hF hW (y_gtr hF rfl rfl) (ws hF rfl rfl) fun a hF=>?_;refine Fr.splitD hF ?_ ?_
   ·intro h5 hF;refine pv hF hW (y_pick hF rfl rfl) fun a hF=>l_nil ?_;replace hF:=hF.ks [0,1,2,4,5,6,11,19] rfl;refine t_n<|c_t hF rfl<|c_sr<|pv hF hW (y_build hF rfl (fun w=>bu_KernG_30_ w)) fun a hF=>?_;refine pe (e_storeAll rfl hF hW rfl rfl 0 rfl rfl rfl Kr sz_30 ?_);intro wc hW;replace hF:=hF.drop 5;refine pv hF hW (y_assign hF rfl) fun a hF=>l_nil ?_;replace hF:=hF.ks [0,1,2,4,5,6,11,19] rfl;refine t_n<|wp_ret<|t_r<|ret2 Tryz.results22 hF (rv_c hF rfl hW 0 rfl Tryz.underlying30 rfl sz_30) (rv_t hF rfl) ?_;replace hW:=hW.del 0 rfl;replace hW:=hW.del 0 rfl
    have h3:=runErr_3 (s:=x.sys) (n:=n) Om Om
    exact⟨WD.zero,(by rw[h3];rfl),(if_neg (by rw[h3];decide)).symm,hW.zero_world⟩
   ·intro h5 hF;refine pv hF hW (y_pick hF rfl rfl) fun a hF=>l_nil ?_;replace hF:=hF.ks [0,1,2,4,5,6,11,19] rfl;refine t_n<|c_f hF rfl<|wp_skip<|t_n<|c_sr<|pv hF hW (y_loadAll hF rfl 1 rfl Tryz.underlying26 rfl sz_26) fun a hF=>?_;refine pe (e_call hF rfl rfl en_48 Rl rfl rfl (hb _ hW.below Om) ?_);rintro e w1 ⟨y0,rfl,hy0,hN⟩;replace hW:=hW.comb3 hN;refine⟨_,rfl,fun a hF=>?_⟩;replace hF:=Fr.cast (v':=.agg #[.int .i64 y0.tick,.slice y0.ca y0.cells.length y0.cc,.slice y0.la y0.lines.length y0.lc]) rfl hF;refine pe (e_alloc hF hW ze_30 rfl rfl rfl ?_);intro b6 a wc hF hW;refine pe (e_storeAll rfl hF hW rfl rfl 0 rfl rfl rfl Kr sz_30 ?_);intro wc hW;refine l_nil ?_;replace hF:=hF.ks [0,1,2,4,5,6,7,11,19] rfl;refine t_n<|c_s<|c_sr<|pv hF hW (y_move hF rfl) fun a hF=>pv hF hW (y_move hF rfl) fun a hF=>l_nil<|t_n<|wp_block ?_;replace hW:=hW.front 3 rfl rfl;replace hW:=hW.front 3 rfl rfl;replace hW:=hW.front 3 rfl rfl;replace hW:=hW.front 3 rfl rfl;refine c_loop (G:=Nat×WD) (fun(gq:Nat×WD)=>match gq with|⟨k,y⟩=>[(24,.int .i64 (k:Int))]) (fun(gq:Nat×WD)=>match gq with|⟨k,y⟩=>[.blk b6 30 [.int .i64 y.tick,.slice y.ca y.cells.length y.cc,.slice y.la y.lines.length y.lc],y.rowC,y.rowL,.res y.Rest]) (fun(gq:Nat×WD)=>match gq with|⟨k,y⟩=>(k:Int)≤n∧y.wrl=runW x.sys k) (fun(gq:Nat×WD)=>match gq with|⟨k,y⟩=>n.toNat - k) (0,y0) (hF.ks [0,1,2,4,5,6,7,11,19,23] rfl) (Fr.cons hF (t:=24) rfl Rg (Fr.nil hF)) (hW) ?_ ?_
    ·exact⟨by omega,hy0⟩
    clear hF hW
    try clear a
    intro gq a wc hC hF hW
    obtain⟨k,y⟩:=gq
    dsimp only at hC
    obtain⟨hkn,hyk⟩:=hC
    refine c_sr<|pv hF hW (y_lss hF rfl rfl) fun a hF=>?_;refine Fr.splitD hF ?_ ?_
    ·intro h7 hF;refine l_nil<|t_n<|c_s<|c_t hF rfl<|wp_skip<|t_n<|c_s<|wp_block ?_
     obtain⟨X,hL,hbl,hback⟩:=Wd.lend [_,_,_,_] hW
     refine c_r<|pv hF hW (y_loadAll hF rfl 5 rfl Tryz.underlying26 rfl sz_26) fun a hF=>?_;refine pe (e_call hF rfl rfl en_27 Rl rfl rfl (hst k y _ X _ hbl hyk Om Om hL) ?_);rintro e w1 ⟨y2,rfl,hy2,hN⟩;replace hW:=hback _ _ hN;refine⟨_,rfl,fun a hF=>?_⟩;refine l_nil ?_;replace hF:=hF.ks [0,1,2,4,5,6,7,11,19,23,24,25] rfl;refine b_n<|t_n<|c_r<|pv hF hW (y_add hF rfl rfl (IntWalk.i64_in _ Om)) fun a hF=>?_;replace hF:=hF.drop 24;refine pv hF hW (y_move hF rfl) fun a hF=>l_nil ?_;replace hF:=hF.ks [0,1,2,4,5,6,7,11,19,23,24,25] rfl;refine t_n ?_;refine⟨(k+1,y2),?_,?_,?_,?_⟩
     ·exact⟨by omega,hy2⟩
     ·first|omega|(dsimp only;omega)
     ·exact Fr.app (Fr.cons hF (t:=24) rfl Rf (Fr.nil hF)) (hF.ks [0,1,2,4,5,6,7,11,19,23] rfl)
     ·exact hW
    ·intro h7 hF;refine l_nil<|t_n<|c_s<|c_f hF rfl<|wp_exit<|t_x<|t_x<|b_h<|t_n<|c_sr<|pv hF hW (y_loadAll hF rfl 0 rfl Tryz.underlying30 rfl sz_30) fun a hF=>?_;refine pe (e_storeAll rfl hF hW rfl rfl 4 rfl rfl rfl Kr sz_30 ?_);intro wc hW;replace hF:=hF.drop 5;refine pv hF hW (y_assign hF rfl) fun a hF=>l_nil ?_;replace hF:=hF.ks [0,1,2,4,5,6,7,11,19,23,24,25] rfl;refine t_n<|wp_ret<|ret2 Tryz.results22 hF (rv_c hF rfl hW 4 rfl Tryz.underlying30 rfl sz_30) (rv_t hF rfl) ?_;replace hW:=hW.del 0 rfl;replace hW:=hW.del 3 rfl;replace hW:=hW.del 3 rfl
     have h3:=runErr_0 (s:=x.sys) (n:=n) Om Om
     have hkn':n.toNat=k:=by omega
     refine⟨y,(by rw[h3];rfl),?_,hW⟩
     unfold runOr
     rw[if_pos h3,hkn']
     exact hyk
end Go.Proofs.YtndcjmopebcdgaaGreat
