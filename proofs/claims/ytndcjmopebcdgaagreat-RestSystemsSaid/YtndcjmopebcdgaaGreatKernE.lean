/- The kernel's worlds of one's own: begin, own. -/
import Derived.Test.YtndcjmopebcdgaaGreatKernPl
import Derived.Test.YtndcjmopebcdgaaGreatKernC
set_option linter.unusedSimpArgs false
set_option linter.unusedVariables false
namespace Go.Proofs.YtndcjmopebcdgaaGreat
open Go.ChangeShapes Go.WideShapes Go.ChangeAt Go.RowKit
theorem bs_KernE_27_1_0(x0:Int)(x1:Int)(x2:Int)(x3:Int)(x4:Int)(x5:Int)(x6:Int)(x7:Int)(x8:Int)(x9:Int)(x10:Int)(x11:Int)(x12:Int)(x13:Int)(x14:Option Addr)(x14n x14c:Nat)(x15:Int)(w:World):(Instr.buildSlice 27 1 #[(0,(.agg #[(.int .i64 x0),(.int .i64 x1),(.int .i64 x2),(.int .i64 x3),(.int .i64 x4),(.int .i64 x5),(.int .i64 x6),(.int .i64 x7),(.int .i64 x8),(.int .i64 x9),(.int .i64 x10),(.int .i64 x11),(.int .i64 x12),(.int .i64 x13),(.slice x14 x14n x14c),(.int .i64 x15)]))]).run Tryz.prog w=.ok (.slice (some ⟨w.heap.size,0,none⟩) 1 1) (w.alloc (.cells #[(.int .i64 x0),(.int .i64 x1),(.int .i64 x2),(.int .i64 x3),(.int .i64 x4),(.int .i64 x5),(.int .i64 x6),(.int .i64 x7),(.int .i64 x8),(.int .i64 x9),(.int .i64 x10),(.int .i64 x11),(.int .i64 x12),(.int .i64 x13),(.slice x14 x14n x14c),(.int .i64 x15)] 42)):=by kernel_rfl
theorem bs_KernE_28_1_0(x0:Option Addr)(x0n x0c:Nat)(w:World):(Instr.buildSlice 28 1 #[(0,(.agg #[(.slice x0 x0n x0c)]))]).run Tryz.prog w=.ok (.slice (some ⟨w.heap.size,0,none⟩) 1 1) (w.alloc (.cells #[(.slice x0 x0n x0c)] 44)):=by kernel_rfl
theorem bu_KernE_30_0(x0:Int)(w:World):(Instr.build 30 #[(0,(.int .i64 x0))]).run Tryz.prog w=.ok (.agg #[(.int .i64 x0),(.slice none 0 0),(.slice none 0 0)]) w:=by kernel_rfl
theorem bu_KernE_44_0(x0:Option Addr)(x0n x0c:Nat)(w:World):(Instr.build 44 #[(0,(.slice x0 x0n x0c))]).run Tryz.prog w=.ok (.agg #[(.slice x0 x0n x0c)]) w:=by kernel_rfl
set_option maxRecDepth 100000
section
variable {w0 w w':World} {X:Nat→Prop} {es:List Asn}
theorem Wd.blk_rowC(h:Wd w0 X es w)(i:Nat){b:Nat}{T:TypeId}{l cs:List Value}(hi:es[i]?=some (.blk b T l))(size n c:Nat)(hl:l.length=c*size)(hn:n≤c)(hc:c≤maxLen)(htk:l.take (n*size)=cs):Wd w0 X (es.set i (.row T size (.slice (some ⟨b,0,none⟩) n c) n cs)) w:=
 h.upd i hi fun F hF=>⟨Chg.refl _ _,(· =b),⟨⟨by rw[←htk,List.length_take,hl];exact Nat.min_eq_left (Nat.mul_le_mul_right _ hn),.inr ⟨b,c,l.toArray,rfl,Nat.zero_le _,hF.2.2,hn,hc,by simpa using hl,by simpa using htk⟩⟩,fun k hk=>by simp[Value.ownBlock] at hk;exact hk.symm⟩,
  fun k hk=>⟨by subst hk;exact hF.2.2.lt,.inl (hk▸hF.1)⟩⟩
end
abbrev WD.rowC(y:WD):Asn:=.row 42 16 (.slice y.ca y.cells.length y.cc) y.cells.length (y.cells.flatMap encC)
abbrev WD.rowL(y:WD):Asn:=.row 44 1 (.slice y.la y.lines.length y.lc) y.lines.length (y.lines.flatMap encL)
def WD.Rest(y:WD)(u:World):Prop:=(∀q,q∈y.cells→q.Own u)∧∀q,q∈y.lines→q.Own u
def WrlOwn(w:World)(W:Wrl)(e:Ending)(w':World):Prop:=∃y:WD,e=.returned y.val∧y.wrl=W∧Wd w NoB [y.rowC,y.rowL,.res y.Rest] w'
theorem Wd.own_world{w0 w:World}{es:List Asn}{y:WD}(hW:Wd w0 NoB (y.rowC::y.rowL::.res y.Rest::es) w):Wd w0 NoB (.res y.At::es) w:=
 Wd.res3 ((hW.row_res 0 rfl).row_res 1 rfl) fun u h1 h2 h3=>(⟨Flat.of_own h1 rfl,fun q hq=>(h3.1 q hq).at_,Flat.of_own h2 rfl,fun q hq=>(h3.2 q hq).at_⟩:y.At u)
structure WD.Small(y:WD):Prop where
 nc:y.cells.length≤1024
 nl:y.lines.length≤1024
 out:∀k,k<y.cells.length→(y.cells.getD k CD0).c.out.length≤1024
 val:∀k,k<y.lines.length→(y.lines.getD k LD0).vals.length≤1024
theorem chk_len{k:Int}{n:Nat}(h:chkLine k n=0):n≤3:=by rcases chk_zero h with h|h<;>omega
theorem RightD.small{x:SysD}{y:WD}(hk:chkSys x.sys=0)(h:RightD x y):y.Small:=by
 obtain⟨h1,-⟩:=chkSys_zero hk
 obtain⟨⟨-,h2⟩,h3,-⟩:=sizes_get h1
 refine⟨by have:=h.cl;omega,by have:=h.ll;omega,fun k hk=>?_,fun k hk=>?_⟩
 ·have:=(h.cell k hk).1
  simp only[cellFine,decide_eq_true_eq] at this
  omega
 ·have:=chk_len (h.line k hk)
  omega
theorem wrl_eq{y:WD}{t:Int}{L:List CD}{M:List LD}{a b:Option Addr}{c d:Nat}(ht:t=y.tick)(hL:L.length=y.cells.length)(hM:M.length=y.lines.length)
  (h1:∀i,i<y.cells.length→(L.getD i CD0).c=(y.cells.getD i CD0).c) (h2:∀i,i<y.lines.length→(M.getD i LD0).vals=(y.lines.getD i LD0).vals):(⟨t,L,a,c,M,b,d⟩:WD).wrl=y.wrl:=by
 have e1:L.map CD.c=y.cells.map CD.c:=list_eq_getD CD0.c (by simpa using hL) fun i hi=>by rw[getD_map,getD_map];exact h1 i (by rw[←hL];simpa using hi)
 have e2:M.map LD.vals=y.lines.map LD.vals:=list_eq_getD LD0.vals (by simpa using hM) fun i hi=>by rw[getD_map,getD_map];exact h2 i (by rw[←hM];simpa using hi)
 simp only[WD.wrl,ht,e1,e2]
set_option maxHeartbeats 8000000 in
theorem kernOwn_any{y:WD}{w:World}(hy:y.At w)(hs:y.Small):Calls Tryz.prog 26 #[y.val] w (WrlOwn w y.wrl):=by
 obtain⟨hnc,hnl,hso,hsv⟩:=hs
 rw[y.val_eq]
 refine enter Tryz.func26 rfl Tryz.ntmps26 rfl fun a hF=>?_
 have hW:=Wd.start w NoB
 refine c_sr ?_;refine pe (e_box hF hW rfl rfl rfl rfl ?_);intro b1 a wc hF hW;refine pe (e_alloc hF hW ze_30 rfl rfl rfl ?_);intro b2 a wc hF hW;refine l_nil<|t_n<|c_sr<|pv hF hW (y_fieldOwn hF rfl fa_30_0) fun a hF=>pv hF hW (y_loadOwn hF rfl 1 rfl rfl Tryz.underlying3 rfl) fun a hF=>pv hF hW (y_build hF rfl (fun w=>bu_KernE_30_0 _ w)) fun a hF=>?_;refine pe (e_alloc hF hW ze_30 rfl rfl rfl ?_);intro b3 a wc hF hW;refine pe (e_storeAll rfl hF hW rfl rfl 0 rfl rfl rfl Kr sz_30 ?_);intro wc hW;refine l_nil ?_;replace hF:=hF.ks [0,1,2,3] rfl;refine t_n<|c_s<|c_sr<|pv hF hW (y_fieldOwn hF rfl fa_30_1) fun a hF=>pv hF hW (y_loadOwn hF rfl 2 rfl rfl Tryz.underlying27 rfl) fun a hF=>pv hF hW (y_len hF rfl Tryz.underlying27) fun a hF=>pv hF hW (y_move hF rfl) fun a hF=>l_nil ?_;replace hF:=hF.ks [0,1,2,3,12,13,14] rfl;refine t_n<|wp_block ?_;replace hW:=hW.nil_row 42 16;replace hW:=hW.free (R:=fun u=>∀q,q∈([]:List CD)→q.Own u) (fun _ _ h=>by cases h);replace hW:=hW.front 2 rfl rfl;replace hW:=hW.front 2 rfl rfl;replace hW:=hW.front 2 rfl rfl;refine c_loop (G:=Nat×List CD×Option Addr×Nat) (fun(gq:Nat×List CD×Option Addr×Nat)=>match gq with|⟨k,L,A,c⟩=>[(14,.int .i64 (k:Int))]) (fun(gq:Nat×List CD×Option Addr×Nat)=>match gq with|⟨k,L,A,c⟩=>[.res (fun u=>∀q,q∈L→q.Own u),.row 42 16 (.slice A k c) k (L.flatMap encC),.blk b3 30 [.int .i64 y.tick,.slice A k c,.slice none 0 0]]) (fun(gq:Nat×List CD×Option Addr×Nat)=>match gq with|⟨k,L,A,c⟩=>L.length=k∧k≤y.cells.length∧∀i,i<k→(L.getD i CD0).c=(y.cells.getD i CD0).c) (fun(gq:Nat×List CD×Option Addr×Nat)=>match gq with|⟨k,L,A,c⟩=>y.cells.length - k) (0,[],none,0) (hF.ks [0,1,2,3,12,13] rfl) (Fr.cons hF (t:=14) rfl Rg (Fr.nil hF)) (hW) ?_ ?_
 ·exact⟨rfl,by omega,fun i hi=>by omega⟩
 clear hF hW
 try clear a
 intro gq a wc hC hF hW
 obtain⟨k,L,A,c⟩:=gq
 dsimp only at hC
 obtain⟨hL,hk,hq⟩:=hC
 refine c_sr<|pv hF hW (y_lss hF rfl rfl) fun a hF=>?_;refine Fr.splitD hF ?_ ?_
 ·intro h4 hF;refine l_nil<|t_n<|c_s<|c_t hF rfl<|wp_skip<|t_n ?_;refine c_cut (G:=CD×Option Addr×Nat) (fun(gq:CD×Option Addr×Nat)=>match gq with|⟨q',A',c'⟩=>[]) (fun(gq:CD×Option Addr×Nat)=>match gq with|⟨q',A',c'⟩=>[.res (fun u=>∀p,p∈L++[q']→p.Own u),.row 42 16 (.slice A' (k+1) c') (k+1) ((L++[q']).flatMap encC),.blk b3 30 [.int .i64 y.tick,.slice A' (k+1) c',.slice none 0 0]]) (fun(gq:CD×Option Addr×Nat)=>match gq with|⟨q',A',c'⟩=>q'.c=(y.cells.getD k CD0).c) (hF.ks [0,1,2,3,12,13,14,15] rfl) (((hW.del 0 rfl).del 0 rfl).del 0 rfl) ?_ ?_
  ·refine wp_block ?_
   have hcat:=hy.cell (k:=k) Om
   have hout:=hso k Om
   obtain⟨z,hz⟩:∃q,y.cells.getD k CD0=q:=⟨_,rfl⟩
   rw[hz] at hcat hout
   obtain⟨⟨at_,regs,mem,rd,out,en⟩,hwf,qa,qk⟩:=z
   obtain⟨r0,r1,r2,r3,hregs⟩:=len_four hwf.1
   obtain⟨m0,m1,m2,m3,m4,m5,m6,m7,hmem⟩:=len_eight hwf.2
   dsimp only at hregs hmem hout
   subst hregs hmem;refine c_sr<|pv hF hW (y_indexS hF rfl rfl Od Tryz.underlying27 sz_42 (fun w h=>(hy.cellsR).wd h)) fun a hF=>pv hF hW (y_loadRowW hF rfl (fun w h=>(hy.cellsR).wd h) Od Tryz.underlying42 rfl (by rw[hz];exact sz_42)) fun a hF=>?_;replace hF:=Fr.cast (v':=.agg #[.int .i64 at_,.int .i64 r0,.int .i64 r1,.int .i64 r2,.int .i64 r3,.int .i64 m0,.int .i64 m1,.int .i64 m2,.int .i64 m3,.int .i64 m4,.int .i64 m5,.int .i64 m6,.int .i64 m7,.int .i64 rd,.slice qa out.length qk,.int .i64 en]) (by rw[hz];rfl) hF;refine pe (e_alloc hF hW ze_42 rfl rfl rfl ?_);intro b5 a wc hF hW;refine pe (e_storeAll rfl hF hW rfl rfl 0 rfl rfl rfl Kr sz_42 ?_);intro wc hW;refine l_nil ?_;replace hF:=hF.ks [0,1,2,3,5,12,13,14,15] rfl;refine t_n<|c_sr<|pv hF hW (y_fieldOwn hF rfl fa_42_4) fun a hF=>pv hF hW (y_loadOwn hF rfl 0 rfl rfl Tryz.underlying40 rfl) fun a hF=>?_;refine pe (e_call hF rfl rfl en_33 Rl rfl rfl (clone_intO (show Ints _ (.slice qa out.length qk) out from hcat.below hW.below) (by show out.length*8≤_;omega)) ?_);rintro e w1 ⟨A1,n1,rfl,hb,hr⟩;replace hW:=hW.gotR hb hr;refine⟨_,rfl,fun a hF=>?_⟩;refine pv hF hW (y_fieldOwn hF rfl fa_42_4) fun a hF=>?_;refine pe (e_store rfl hF hW rfl rfl 1 rfl rfl rfl sz_40 ?_);intro wc hW;refine l_nil ?_;replace hF:=hF.ks [0,1,2,3,5,12,13,14,15] rfl;refine t_n<|c_r<|pv hF hW (y_fieldOwn hF rfl fa_30_1) fun a hF=>pv hF hW (y_loadOwn hF rfl 4 rfl rfl Tryz.underlying27 rfl) fun a hF=>pv hF hW (y_loadAll hF rfl 1 rfl Tryz.underlying42 rfl sz_42) fun a hF=>?_;refine pe (e_buildSlice hF hW rfl (fun w=>bs_KernE_27_1_0 _ _ _ _ _ _ _ _ _ _ _ _ _ _ _ _ _ _ w) rfl rfl rfl ?_);intro b6 a wc hF hW;refine pe (e_append hF hW 4 rfl rfl rfl Tryz.underlying27 inf_42 rfl Dc (rowAt_blk (hW.blk 0 rfl) 16 1 rfl) Oc (show _=k+1 by omega) (show _=(L++[CD.mk ⟨at_,[r0,r1,r2,r3],[m0,m1,m2,m3,m4,m5,m6,m7],rd,out,en⟩ hwf A1 n1]).flatMap encC by simp[encC,cellL,CD.ov]) Ox Ml rfl rfl ?_);intro A7 c8 a wc hF hW;refine pv hF hW (y_fieldOwn hF rfl fa_30_1) fun a hF=>?_;refine pe (e_store rfl hF hW rfl rfl 5 rfl rfl rfl sz_27 ?_);intro wc hW;refine l_nil ?_;replace hF:=hF.ks [0,1,2,3,5,12,13,14,15] rfl;refine b_n ?_;replace hW:=hW.del 0 rfl;replace hW:=hW.del 1 rfl;refine t_n ?_;refine⟨(⟨⟨at_,[r0,r1,r2,r3],[m0,m1,m2,m3,m4,m5,m6,m7],rd,out,en⟩,hwf,A1,n1⟩,A7,c8),?_,?_,?_⟩
   ·exact Fr.app (Fr.nil hF) (hF.ks [0,1,2,3,12,13,14,15] rfl)
   ·exact hW.res2 fun u h1 h3 p hp=>(List.mem_append.1 hp).elim (h3 p) fun h=>by rw[List.mem_singleton.1 h];exact h1
   ·rw[hz]
  ·clear hF hW
   try clear a
   intro gq a wc hC hF hW
   obtain⟨q',A',c'⟩:=gq
   dsimp only at hC
   have hq1:=hC
   refine c_r<|pv hF hW (y_add hF rfl rfl (IntWalk.i64_in _ Om)) fun a hF=>?_;replace hF:=hF.drop 14;refine pv hF hW (y_move hF rfl) fun a hF=>l_nil ?_;replace hF:=hF.ks [0,1,2,3,12,13,14,15] rfl;refine t_n ?_;refine⟨(k+1,L++[q'],A',c'),?_,?_,?_,?_⟩
   ·exact⟨by simp[hL],by omega,fun i hi=>by rcases Nat.lt_or_ge i k with h|h;rw[getD_app_l Om];exact hq i h;(have hik:i=k:=by omega);rw[hik,←hL,getD_app_r,hq1,hL]⟩
   ·first|omega|(dsimp only;omega)
   ·exact Fr.app (Fr.cons hF (t:=14) rfl Rf (Fr.nil hF)) (hF.ks [0,1,2,3,12,13] rfl)
   ·exact hW
 ·intro h4 hF;refine l_nil<|t_n<|c_s<|c_f hF rfl<|wp_exit<|t_x<|t_x<|b_h<|t_n<|c_s ?_
  obtain rfl:k=y.cells.length:=Om
  refine c_sr<|pv hF hW (y_fieldOwn hF rfl fa_30_2) fun a hF=>pv hF hW (y_loadOwn hF rfl 4 rfl rfl Tryz.underlying28 rfl) fun a hF=>pv hF hW (y_len hF rfl Tryz.underlying28) fun a hF=>pv hF hW (y_move hF rfl) fun a hF=>l_nil ?_;replace hF:=hF.ks [0,1,2,3,12,13,14,15,30,31,32] rfl;refine t_n<|wp_block ?_;replace hW:=hW.nil_row 44 1;replace hW:=hW.free (R:=fun u=>∀q,q∈([]:List LD)→q.Own u) (fun _ _ h=>by cases h);replace hW:=hW.front 4 rfl rfl;replace hW:=hW.front 2 rfl rfl;replace hW:=hW.front 2 rfl rfl;refine c_loop (G:=Nat×List LD×Option Addr×Nat) (fun(gq:Nat×List LD×Option Addr×Nat)=>match gq with|⟨j,M,B,d⟩=>[(32,.int .i64 (j:Int))]) (fun(gq:Nat×List LD×Option Addr×Nat)=>match gq with|⟨j,M,B,d⟩=>[.res (fun u=>∀q,q∈M→q.Own u),.row 44 1 (.slice B j d) j (M.flatMap encL),.blk b3 30 [.int .i64 y.tick,.slice A y.cells.length c,.slice B j d]]) (fun(gq:Nat×List LD×Option Addr×Nat)=>match gq with|⟨j,M,B,d⟩=>M.length=j∧j≤y.lines.length∧∀i,i<j→(M.getD i LD0).vals=(y.lines.getD i LD0).vals) (fun(gq:Nat×List LD×Option Addr×Nat)=>match gq with|⟨j,M,B,d⟩=>y.lines.length - j) (0,[],none,0) (hF.ks [0,1,2,3,12,13,14,15,30,31] rfl) (Fr.cons hF (t:=32) rfl Rg (Fr.nil hF)) (hW) ?_ ?_
  ·exact⟨rfl,by omega,fun i hi=>by omega⟩
  clear hF hW
  try clear a
  intro gq a wc hC hF hW
  obtain⟨j,M,B,d⟩:=gq
  dsimp only at hC
  obtain⟨hM,hj,hm⟩:=hC
  refine c_sr<|pv hF hW (y_lss hF rfl rfl) fun a hF=>?_;refine Fr.splitD hF ?_ ?_
  ·intro h9 hF;refine l_nil<|t_n<|c_s<|c_t hF rfl<|wp_skip<|t_n ?_;refine c_cut (G:=LD×Option Addr×Nat) (fun(gq:LD×Option Addr×Nat)=>match gq with|⟨q',B',d'⟩=>[]) (fun(gq:LD×Option Addr×Nat)=>match gq with|⟨q',B',d'⟩=>[.res (fun u=>∀p,p∈M++[q']→p.Own u),.row 44 1 (.slice B' (j+1) d') (j+1) ((M++[q']).flatMap encL),.blk b3 30 [.int .i64 y.tick,.slice A y.cells.length c,.slice B' (j+1) d']]) (fun(gq:LD×Option Addr×Nat)=>match gq with|⟨q',B',d'⟩=>q'.vals=(y.lines.getD j LD0).vals) (hF.ks [0,1,2,3,12,13,14,15,30,31,32,33] rfl) (((hW.del 0 rfl).del 0 rfl).del 0 rfl) ?_ ?_
   ·refine wp_block ?_
    have hlat:=hy.line (k:=j) Om
    have hval:=hsv j Om
    obtain⟨z,hz⟩:∃q,y.lines.getD j LD0=q:=⟨_,rfl⟩
    rw[hz] at hlat hval
    obtain⟨lv,qa,qk⟩:=z
    dsimp only at hval
    refine c_sr<|pv hF hW (y_indexS hF rfl rfl Od Tryz.underlying28 sz_44 (fun w h=>(hy.linesR).wd h)) fun a hF=>pv hF hW (y_loadRowW hF rfl (fun w h=>(hy.linesR).wd h) Od Tryz.underlying44 rfl sz_44) fun a hF=>?_;replace hF:=Fr.cast (v':=.agg #[.slice qa lv.length qk]) (by rw[hz];rfl) hF;refine pe (e_alloc hF hW ze_44 rfl rfl rfl ?_);intro b10 a wc hF hW;refine pe (e_storeAll rfl hF hW rfl rfl 0 rfl rfl rfl Kr sz_44 ?_);intro wc hW;refine l_nil ?_;replace hF:=hF.ks [0,1,2,3,7,12,13,14,15,30,31,32,33] rfl;refine t_n<|c_d mixed_ok hW (((hW.del 2 rfl).del 2 rfl)) ?_
    clear hW;intro wc hW hS
    refine dv 0 rfl hF hS (y_fieldOwn hF rfl fa_30_2) fun a hF=>dv 2 rfl hF hS (y_fieldOwn hF rfl fa_44_0) fun a hF=>dv 3 rfl hF hS (y_loadOwn hF rfl 0 rfl rfl Tryz.underlying40 rfl) fun a hF=>?_;refine d_2 1 4 Kr ?_ ?_
    ·refine d_opval rfl hF rfl hW (y_loadOwn hF rfl 3 rfl rfl Tryz.underlying28 rfl) rfl rfl fun a hF=>?_;replace hS:=((hW.del 2 rfl).del 2 rfl);refine⟨hS,?_⟩;refine d_1 4 Kr ?_;refine d_op rfl rfl (e_call hF rfl rfl en_33 Rl rfl rfl (clone_intO (show Ints _ (.slice qa lv.length qk) lv from hlat.below hW.below) (by show lv.length*8≤_;omega)) ?_);rintro e w1 ⟨A1,n1,rfl,hb,hr⟩;replace hW:=hW.gotR hb hr;refine⟨_,rfl,fun a hF=>?_⟩;replace hS:=(((hW.del 0 rfl).del 2 rfl).del 2 rfl);refine⟨hS,?_⟩;refine dv 5 rfl hF hS (y_build hF rfl (fun w=>bu_KernE_44_0 _ _ _ w)) fun a hF=>d_1 6 Kr ?_;refine d_op rfl rfl (e_buildSlice hF hW rfl (fun w=>bs_KernE_28_1_0 _ _ _ w) rfl rfl rfl ?_);intro b11 a wc hF hW;replace hS:=((((hW.del 0 rfl).del 0 rfl).del 2 rfl).del 2 rfl);refine⟨hS,?_⟩;refine d_1 7 Kr ?_;refine d_op rfl rfl (e_append hF hW 4 rfl rfl rfl Tryz.underlying28 inf_44 rfl Dc (rowAt_blk (hW.blk 0 rfl) 1 1 rfl) Oc (show _=j+1 by omega) (show _=(M++[LD.mk lv A1 n1]).flatMap encL by simp[encL]) Ox Ml rfl rfl ?_);intro A12 c13 a wc hF hW;replace hS:=((((hW.del 0 rfl).del 0 rfl).del 2 rfl).del 2 rfl);refine⟨hS,?_⟩;refine dv 8 rfl hF hS (y_fieldOwn hF rfl fa_30_2) fun a hF=>d_1 9 Kr ?_;refine d_op rfl rfl (e_store rfl hF hW rfl rfl 5 rfl rfl rfl sz_28 ?_);intro wc hW;replace hS:=((((hW.del 0 rfl).del 0 rfl).del 2 rfl).del 2 rfl);refine⟨hS,?_⟩;clear hS;refine d_nil Kr ?_;replace hF:=hF.ks [0,1,2,3,7,12,13,14,15,30,31,32,33] rfl;refine b_n ?_;replace hW:=hW.del 0 rfl;replace hW:=hW.del 1 rfl;refine t_n ?_;refine⟨(⟨lv,A1,n1⟩,A12,c13),?_,?_,?_⟩
     ·exact Fr.app (Fr.nil hF) (hF.ks [0,1,2,3,12,13,14,15,30,31,32,33] rfl)
     ·exact hW.res2 fun u h1 h3 p hp=>(List.mem_append.1 hp).elim (h3 p) fun h=>by rw[List.mem_singleton.1 h];exact h1
     ·rw[hz]
    ·refine d_op rfl rfl (e_call hF rfl rfl en_33 Rl rfl rfl (clone_intO (show Ints _ (.slice qa lv.length qk) lv from hlat.below hW.below) (by show lv.length*8≤_;omega)) ?_);rintro e w1 ⟨A1,n1,rfl,hb,hr⟩;replace hW:=hW.gotR hb hr;refine⟨_,rfl,fun a hF=>?_⟩;replace hS:=(((hW.del 0 rfl).del 2 rfl).del 2 rfl);refine⟨hS,?_⟩;refine dv 5 rfl hF hS (y_build hF rfl (fun w=>bu_KernE_44_0 _ _ _ w)) fun a hF=>?_;refine d_2 1 6 Kr ?_ ?_
     ·refine d_opval rfl hF rfl hW (y_loadOwn hF rfl 4 rfl rfl Tryz.underlying28 rfl) rfl rfl fun a hF=>?_;replace hS:=(((hW.del 0 rfl).del 2 rfl).del 2 rfl);refine⟨hS,?_⟩;refine d_1 6 Kr ?_;refine d_op rfl rfl (e_buildSlice hF hW rfl (fun w=>bs_KernE_28_1_0 _ _ _ w) rfl rfl rfl ?_);intro b14 a wc hF hW;replace hS:=((((hW.del 0 rfl).del 0 rfl).del 2 rfl).del 2 rfl);refine⟨hS,?_⟩;refine d_1 7 Kr ?_;refine d_op rfl rfl (e_append hF hW 4 rfl rfl rfl Tryz.underlying28 inf_44 rfl Dc (rowAt_blk (hW.blk 0 rfl) 1 1 rfl) Oc (show _=j+1 by omega) (show _=(M++[LD.mk lv A1 n1]).flatMap encL by simp[encL]) Ox Ml rfl rfl ?_);intro A15 c16 a wc hF hW;replace hS:=((((hW.del 0 rfl).del 0 rfl).del 2 rfl).del 2 rfl);refine⟨hS,?_⟩;refine dv 8 rfl hF hS (y_fieldOwn hF rfl fa_30_2) fun a hF=>d_1 9 Kr ?_;refine d_op rfl rfl (e_store rfl hF hW rfl rfl 5 rfl rfl rfl sz_28 ?_);intro wc hW;replace hS:=((((hW.del 0 rfl).del 0 rfl).del 2 rfl).del 2 rfl);refine⟨hS,?_⟩;clear hS;refine d_nil Kr ?_;replace hF:=hF.ks [0,1,2,3,7,12,13,14,15,30,31,32,33] rfl;refine b_n ?_;replace hW:=hW.del 0 rfl;replace hW:=hW.del 1 rfl;refine t_n ?_;refine⟨(⟨lv,A1,n1⟩,A15,c16),?_,?_,?_⟩
      ·exact Fr.app (Fr.nil hF) (hF.ks [0,1,2,3,12,13,14,15,30,31,32,33] rfl)
      ·exact hW.res2 fun u h1 h3 p hp=>(List.mem_append.1 hp).elim (h3 p) fun h=>by rw[List.mem_singleton.1 h];exact h1
      ·rw[hz]
     ·refine d_op rfl rfl (e_buildSlice hF hW rfl (fun w=>bs_KernE_28_1_0 _ _ _ w) rfl rfl rfl ?_);intro b17 a wc hF hW;replace hS:=((((hW.del 0 rfl).del 0 rfl).del 2 rfl).del 2 rfl);refine⟨hS,?_⟩;refine d_1 1 Kr<|d_opval rfl hF rfl hW (y_loadOwn hF rfl 5 rfl rfl Tryz.underlying28 rfl) rfl rfl fun a hF=>?_;replace hS:=((((hW.del 0 rfl).del 0 rfl).del 2 rfl).del 2 rfl);refine⟨hS,?_⟩;refine d_1 7 Kr ?_;refine d_op rfl rfl (e_append hF hW 4 rfl rfl rfl Tryz.underlying28 inf_44 rfl Dc (rowAt_blk (hW.blk 0 rfl) 1 1 rfl) Oc (show _=j+1 by omega) (show _=(M++[LD.mk lv A1 n1]).flatMap encL by simp[encL]) Ox Ml rfl rfl ?_);intro A18 c19 a wc hF hW;replace hS:=((((hW.del 0 rfl).del 0 rfl).del 2 rfl).del 2 rfl);refine⟨hS,?_⟩;refine dv 8 rfl hF hS (y_fieldOwn hF rfl fa_30_2) fun a hF=>d_1 9 Kr ?_;refine d_op rfl rfl (e_store rfl hF hW rfl rfl 5 rfl rfl rfl sz_28 ?_);intro wc hW;replace hS:=((((hW.del 0 rfl).del 0 rfl).del 2 rfl).del 2 rfl);refine⟨hS,?_⟩;clear hS;refine d_nil Kr ?_;replace hF:=hF.ks [0,1,2,3,7,12,13,14,15,30,31,32,33] rfl;refine b_n ?_;replace hW:=hW.del 0 rfl;replace hW:=hW.del 1 rfl;refine t_n ?_;refine⟨(⟨lv,A1,n1⟩,A18,c19),?_,?_,?_⟩
      ·exact Fr.app (Fr.nil hF) (hF.ks [0,1,2,3,12,13,14,15,30,31,32,33] rfl)
      ·exact hW.res2 fun u h1 h3 p hp=>(List.mem_append.1 hp).elim (h3 p) fun h=>by rw[List.mem_singleton.1 h];exact h1
      ·rw[hz]
   ·clear hF hW
    try clear a
    intro gq a wc hC hF hW
    obtain⟨q',B',d'⟩:=gq
    dsimp only at hC
    have hq1:=hC
    refine c_r<|pv hF hW (y_add hF rfl rfl (IntWalk.i64_in _ Om)) fun a hF=>?_;replace hF:=hF.drop 32;refine pv hF hW (y_move hF rfl) fun a hF=>l_nil ?_;replace hF:=hF.ks [0,1,2,3,12,13,14,15,30,31,32,33] rfl;refine t_n ?_;refine⟨(j+1,M++[q'],B',d'),?_,?_,?_,?_⟩
    ·exact⟨by simp[hM],by omega,fun i hi=>by rcases Nat.lt_or_ge i j with h|h;rw[getD_app_l Om];exact hm i h;(have hik:i=j:=by omega);rw[hik,←hM,getD_app_r,hq1,hM]⟩
    ·first|omega|(dsimp only;omega)
    ·exact Fr.app (Fr.cons hF (t:=32) rfl Rf (Fr.nil hF)) (hF.ks [0,1,2,3,12,13,14,15,30,31] rfl)
    ·exact hW
  ·intro h9 hF;refine l_nil<|t_n<|c_s<|c_f hF rfl<|wp_exit<|t_x<|t_x<|b_h<|t_n<|c_sr<|pv hF hW (y_loadAll hF rfl 2 rfl Tryz.underlying30 rfl sz_30) fun a hF=>?_;refine pe (e_storeAll rfl hF hW rfl rfl 5 rfl rfl rfl Kr sz_30 ?_);intro wc hW;refine l_nil ?_;replace hF:=hF.ks [0,1,2,3,12,13,14,15,30,31,32,33] rfl;refine t_n<|wp_ret<|ret1 Tryz.results26 hF (rv_c hF rfl hW 5 rfl Tryz.underlying30 rfl sz_30) ?_;replace hW:=hW.del 2 rfl;replace hW:=hW.del 4 rfl;replace hW:=hW.del 4 rfl;replace hW:=hW.front 1 rfl rfl;replace hW:=hW.front 3 rfl rfl;replace hW:=hW.front 2 rfl rfl;replace hW:=hW.front 3 rfl rfl
   obtain rfl:j=y.lines.length:=Om
   replace hW:=hW.res2 (R:=WD.Rest ⟨y.tick,L,A,c,M,B,d⟩) fun u h1 h2=>⟨h1,h2⟩
   replace hW:=hW.front 2 rfl rfl;replace hW:=hW.front 2 rfl rfl;refine⟨⟨y.tick,L,A,c,M,B,d⟩,by simp only[WD.val,hL,hM],wrl_eq rfl hL hM hq hm,?_⟩
   simp only[WD.rowC,WD.rowL,hL,hM]
   exact hW
end Go.Proofs.YtndcjmopebcdgaaGreat
