/- The reference's OwnWorld. -/
import Derived.Test.YtndcjmopebcdgaaGreatKernR
set_option linter.unusedSimpArgs false
set_option linter.unusedVariables false
namespace Go.Proofs.YtndcjmopebcdgaaGreat
open Go.ChangeShapes Go.WideShapes Go.ChangeAt Go.RowKit
theorem bs_KernOw_27_1_0(x0:Int)(x1:Int)(x2:Int)(x3:Int)(x4:Int)(x5:Int)(x6:Int)(x7:Int)(x8:Int)(x9:Int)(x10:Int)(x11:Int)(x12:Int)(x13:Int)(x14:Option Addr)(x14n x14c:Nat)(x15:Int)(w:World):(Instr.buildSlice 27 1 #[(0,(.agg #[(.int .i64 x0),(.int .i64 x1),(.int .i64 x2),(.int .i64 x3),(.int .i64 x4),(.int .i64 x5),(.int .i64 x6),(.int .i64 x7),(.int .i64 x8),(.int .i64 x9),(.int .i64 x10),(.int .i64 x11),(.int .i64 x12),(.int .i64 x13),(.slice x14 x14n x14c),(.int .i64 x15)]))]).run Tryz.prog w=.ok (.slice (some ⟨w.heap.size,0,none⟩) 1 1) (w.alloc (.cells #[(.int .i64 x0),(.int .i64 x1),(.int .i64 x2),(.int .i64 x3),(.int .i64 x4),(.int .i64 x5),(.int .i64 x6),(.int .i64 x7),(.int .i64 x8),(.int .i64 x9),(.int .i64 x10),(.int .i64 x11),(.int .i64 x12),(.int .i64 x13),(.slice x14 x14n x14c),(.int .i64 x15)] 42)):=by kernel_rfl
theorem bs_KernOw_28_1_0(x0:Option Addr)(x0n x0c:Nat)(w:World):(Instr.buildSlice 28 1 #[(0,(.agg #[(.slice x0 x0n x0c)]))]).run Tryz.prog w=.ok (.slice (some ⟨w.heap.size,0,none⟩) 1 1) (w.alloc (.cells #[(.slice x0 x0n x0c)] 44)):=by kernel_rfl
theorem bs_KernOw_40_0_(w:World):(Instr.buildSlice 40 0 #[]).run Tryz.prog w=.ok (.slice (some ⟨w.heap.size,0,none⟩) 0 0) (w.alloc (.cells #[] 3)):=by kernel_rfl
theorem bu_KernOw_30_0(x0:Int)(w:World):(Instr.build 30 #[(0,(.int .i64 x0))]).run Tryz.prog w=.ok (.agg #[(.int .i64 x0),(.slice none 0 0),(.slice none 0 0)]) w:=by kernel_rfl
theorem bu_KernOw_44_0(x0:Option Addr)(x0n x0c:Nat)(w:World):(Instr.build 44 #[(0,(.slice x0 x0n x0c))]).run Tryz.prog w=.ok (.agg #[(.slice x0 x0n x0c)]) w:=by kernel_rfl
set_option maxRecDepth 100000
theorem ownCellZ{c:Cel}{ov:Value}{w:World}(hwf:c.wf)(ho:Ints w ov c.out)(hlen:c.out.length≤1048576):
  Calls Tryz.prog 25 #[celV c ov] w fun e w'=>∃A k,e=.returned (celV c (.slice A c.out.length k))∧OwnRes w w' (fun u=>OwnInts u 0 (.slice A c.out.length k) c.out)∧Below w.heap.size w w':=
 (ownCell_any c ov hwf w ho hlen).mono fun e w' ⟨ov',he,_,hown,hb⟩=>by
  have hr:=OwnRes.ownB hown.own
  obtain⟨A,k,rfl⟩:=hr.now.form rfl
  exact⟨A,k,he,hr,hb⟩
set_option maxHeartbeats 8000000 in
theorem ownWorld_any{y:WD}{w:World}(hy:y.At w)(hs:y.Small):Calls Tryz.prog 7 #[y.val] w (WrlOwn w y.wrl):=by
 obtain⟨hnc,hnl,hso,hsv⟩:=hs
 rw[y.val_eq]
 refine enter Tryz.func7 rfl Tryz.ntmps7 rfl fun a hF=>?_
 have hW:=Wd.start w NoB
 refine c_sr ?_;refine pe (e_box hF hW rfl rfl rfl rfl ?_);intro b1 a wc hF hW;refine pe (e_alloc hF hW ze_30 rfl rfl rfl ?_);intro b2 a wc hF hW;refine l_nil<|t_n<|c_sr<|pv hF hW (y_fieldOwn hF rfl fa_30_0) fun a hF=>pv hF hW (y_loadOwn hF rfl 1 rfl rfl Tryz.underlying3 rfl) fun a hF=>pv hF hW (y_build hF rfl (fun w=>bu_KernOw_30_0 _ w)) fun a hF=>?_;refine pe (e_alloc hF hW ze_30 rfl rfl rfl ?_);intro b3 a wc hF hW;refine pe (e_storeAll rfl hF hW rfl rfl 0 rfl rfl Rl Kr sz_30 ?_);intro wc hW;refine l_nil ?_;replace hF:=hF.ks [0,1,2,3] rfl;refine t_n<|c_s<|c_sr<|pv hF hW (y_assign hF rfl) fun a hF=>l_nil<|t_n<|wp_block ?_;replace hW:=hW.nil_row 42 16;replace hW:=hW.free (R:=fun u=>∀q,q∈([]:List CD)→q.Own u) (fun _ _ h=>by cases h);replace hW:=hW.front 2 rfl rfl;replace hW:=hW.front 2 rfl rfl;replace hW:=hW.front 2 rfl rfl;refine c_loop (G:=Nat×List CD×Option Addr×Nat) (fun(gq:Nat×List CD×Option Addr×Nat)=>match gq with|⟨k,L,A,c⟩=>[(4,.int .i64 (k:Int))]) (fun(gq:Nat×List CD×Option Addr×Nat)=>match gq with|⟨k,L,A,c⟩=>[.res (fun u=>∀q,q∈L→q.Own u),.row 42 16 (.slice A k c) k (L.flatMap encC),.blk b3 30 [.int .i64 y.tick,.slice A k c,.slice none 0 0]]) (fun(gq:Nat×List CD×Option Addr×Nat)=>match gq with|⟨k,L,A,c⟩=>L.length=k∧k≤y.cells.length∧∀i,i<k→(L.getD i CD0).c=(y.cells.getD i CD0).c) (fun(gq:Nat×List CD×Option Addr×Nat)=>match gq with|⟨k,L,A,c⟩=>y.cells.length - k) (0,[],none,0) (hF.ks [0,1,2,3] rfl) (Fr.cons hF (t:=4) rfl Rg (Fr.nil hF)) (hW) ?_ ?_
 ·exact⟨rfl,by omega,fun i hi=>by omega⟩
 clear hF hW
 try clear a
 intro gq a wc hC hF hW
 obtain⟨k,L,A,c⟩:=gq
 dsimp only at hC
 obtain⟨hL,hk,hq⟩:=hC
 refine c_s<|c_sr<|pv hF hW (y_move hF rfl) fun a hF=>pv hF hW (y_fieldOwn hF rfl fa_30_1) fun a hF=>pv hF hW (y_loadOwn hF rfl 4 rfl rfl Tryz.underlying27 rfl) fun a hF=>pv hF hW (y_len hF rfl Tryz.underlying27) fun a hF=>pv hF hW (y_lss hF rfl rfl) fun a hF=>?_;refine Fr.splitD hF ?_ ?_
 ·intro h4 hF;refine l_nil ?_;replace hF:=hF.ks [0,1,2,3,4,13] rfl;refine t_n<|c_t hF rfl<|wp_skip<|t_n ?_;refine c_cut (G:=CD×Option Addr×Nat) (fun(gq:CD×Option Addr×Nat)=>match gq with|⟨q',A',c'⟩=>[]) (fun(gq:CD×Option Addr×Nat)=>match gq with|⟨q',A',c'⟩=>[.res (fun u=>∀p,p∈L++[q']→p.Own u),.row 42 16 (.slice A' (k+1) c') (k+1) ((L++[q']).flatMap encC),.blk b3 30 [.int .i64 y.tick,.slice A' (k+1) c',.slice none 0 0]]) (fun(gq:CD×Option Addr×Nat)=>match gq with|⟨q',A',c'⟩=>q'.c=(y.cells.getD k CD0).c) (hF.ks [0,1,2,3,4,13] rfl) (((hW.del 0 rfl).del 0 rfl).del 0 rfl) ?_ ?_
  ·refine wp_block ?_
   have hcat:=hy.cell (k:=k) Om
   have hout:=hso k Om
   obtain⟨z,hz⟩:∃q,y.cells.getD k CD0=q:=⟨_,rfl⟩
   rw[hz] at hcat hout
   obtain⟨⟨at_,regs,mem,rd,out,en⟩,hwf,qa,qk⟩:=z
   obtain⟨r0,r1,r2,r3,hregs⟩:=len_four hwf.1
   obtain⟨m0,m1,m2,m3,m4,m5,m6,m7,hmem⟩:=len_eight hwf.2
   dsimp only at hregs hmem hout
   subst hregs hmem
   have hoc:=fun w1 (ho:CD.At ⟨⟨at_,[r0,r1,r2,r3],[m0,m1,m2,m3,m4,m5,m6,m7],rd,out,en⟩,hwf,qa,qk⟩ w1)=>ownCellZ hwf ho (by dsimp only;omega)
   simp only[celV_eq] at hoc
   refine c_d mixed_ok hW (((hW.del 1 rfl).del 1 rfl)) ?_
   clear hW;intro wc hW hS
   refine dv 0 rfl hF hS (y_fieldOwn hF rfl fa_30_1) fun a hF=>dv 2 rfl hF hS (y_fieldOwn hF rfl fa_30_1) fun a hF=>dv 3 rfl hF hS (y_loadOwn hF rfl 2 rfl rfl Tryz.underlying27 rfl) fun a hF=>dv 4 rfl hF hS (y_move hF rfl) fun a hF=>dv 5 rfl hF hS (y_indexS hF rfl rfl Od Tryz.underlying27 sz_42 (fun w h=>(hy.cellsR).wd h)) fun a hF=>dv 6 rfl hF hS (y_loadRowW hF rfl (fun w h=>(hy.cellsR).wd h) Od Tryz.underlying42 rfl (by rw[hz];exact sz_42)) fun a hF=>?_;replace hF:=Fr.cast (v':=.agg #[.int .i64 at_,.int .i64 r0,.int .i64 r1,.int .i64 r2,.int .i64 r3,.int .i64 m0,.int .i64 m1,.int .i64 m2,.int .i64 m3,.int .i64 m4,.int .i64 m5,.int .i64 m6,.int .i64 m7,.int .i64 rd,.slice qa out.length qk,.int .i64 en]) (by rw[hz];rfl) hF;refine d_2 1 7 Kr ?_ ?_
   ·refine d_opval rfl hF rfl hW (y_loadOwn hF rfl 2 rfl rfl Tryz.underlying27 rfl) rfl rfl fun a hF=>?_;replace hS:=((hW.del 1 rfl).del 1 rfl);refine⟨hS,?_⟩;refine d_1 7 Kr ?_;refine d_op rfl rfl (e_call hF rfl rfl en_25 Rl rfl rfl (hoc _ (hcat.below hW.below)) ?_);rintro e w1 ⟨A1,n1,rfl,hr,hb⟩;replace hW:=hW.gotR hb hr;refine⟨_,rfl,fun a hF=>?_⟩;replace hS:=(((hW.del 0 rfl).del 1 rfl).del 1 rfl);refine⟨hS,?_⟩;refine d_1 8 Kr ?_;refine d_op rfl rfl (e_buildSlice hF hW rfl (fun w=>bs_KernOw_27_1_0 _ _ _ _ _ _ _ _ _ _ _ _ _ _ _ _ _ _ w) rfl rfl rfl ?_);intro b5 a wc hF hW;replace hS:=((((hW.del 0 rfl).del 0 rfl).del 1 rfl).del 1 rfl);refine⟨hS,?_⟩;refine d_1 9 Kr ?_;refine d_op rfl rfl (e_append hF hW 3 rfl rfl rfl Tryz.underlying27 inf_42 rfl Dc (rowAt_blk (hW.blk 0 rfl) 16 1 rfl) Oc (show _=k+1 by omega) (show _=(L++[CD.mk ⟨at_,[r0,r1,r2,r3],[m0,m1,m2,m3,m4,m5,m6,m7],rd,out,en⟩ hwf A1 n1]).flatMap encC by simp[encC,cellL,CD.ov]) Ox Ml rfl rfl ?_);intro A6 c7 a wc hF hW;replace hS:=((((hW.del 0 rfl).del 0 rfl).del 1 rfl).del 1 rfl);refine⟨hS,?_⟩;refine dv 10 rfl hF hS (y_fieldOwn hF rfl fa_30_1) fun a hF=>d_1 11 Kr ?_;refine d_op rfl rfl (e_store rfl hF hW rfl rfl 4 rfl rfl rfl sz_27 ?_);intro wc hW;replace hS:=((((hW.del 0 rfl).del 0 rfl).del 1 rfl).del 1 rfl);refine⟨hS,?_⟩;clear hS;refine d_nil Kr ?_;replace hF:=hF.ks [0,1,2,3,4,13] rfl;refine b_n ?_;replace hW:=hW.del 0 rfl;refine t_n ?_;refine⟨(⟨⟨at_,[r0,r1,r2,r3],[m0,m1,m2,m3,m4,m5,m6,m7],rd,out,en⟩,hwf,A1,n1⟩,A6,c7),?_,?_,?_⟩
    ·exact Fr.app (Fr.nil hF) (hF.ks [0,1,2,3,4,13] rfl)
    ·exact hW.res2 fun u h1 h3 p hp=>(List.mem_append.1 hp).elim (h3 p) fun h=>by rw[List.mem_singleton.1 h];exact h1
    ·rw[hz]
   ·refine d_op rfl rfl (e_call hF rfl rfl en_25 Rl rfl rfl (hoc _ (hcat.below hW.below)) ?_);rintro e w1 ⟨A1,n1,rfl,hr,hb⟩;replace hW:=hW.gotR hb hr;refine⟨_,rfl,fun a hF=>?_⟩;replace hS:=(((hW.del 0 rfl).del 1 rfl).del 1 rfl);refine⟨hS,?_⟩;refine d_2 1 8 Kr ?_ ?_
    ·refine d_opval rfl hF rfl hW (y_loadOwn hF rfl 3 rfl rfl Tryz.underlying27 rfl) rfl rfl fun a hF=>?_;replace hS:=(((hW.del 0 rfl).del 1 rfl).del 1 rfl);refine⟨hS,?_⟩;refine d_1 8 Kr ?_;refine d_op rfl rfl (e_buildSlice hF hW rfl (fun w=>bs_KernOw_27_1_0 _ _ _ _ _ _ _ _ _ _ _ _ _ _ _ _ _ _ w) rfl rfl rfl ?_);intro b8 a wc hF hW;replace hS:=((((hW.del 0 rfl).del 0 rfl).del 1 rfl).del 1 rfl);refine⟨hS,?_⟩;refine d_1 9 Kr ?_;refine d_op rfl rfl (e_append hF hW 3 rfl rfl rfl Tryz.underlying27 inf_42 rfl Dc (rowAt_blk (hW.blk 0 rfl) 16 1 rfl) Oc (show _=k+1 by omega) (show _=(L++[CD.mk ⟨at_,[r0,r1,r2,r3],[m0,m1,m2,m3,m4,m5,m6,m7],rd,out,en⟩ hwf A1 n1]).flatMap encC by simp[encC,cellL,CD.ov]) Ox Ml rfl rfl ?_);intro A9 c10 a wc hF hW;replace hS:=((((hW.del 0 rfl).del 0 rfl).del 1 rfl).del 1 rfl);refine⟨hS,?_⟩;refine dv 10 rfl hF hS (y_fieldOwn hF rfl fa_30_1) fun a hF=>d_1 11 Kr ?_;refine d_op rfl rfl (e_store rfl hF hW rfl rfl 4 rfl rfl rfl sz_27 ?_);intro wc hW;replace hS:=((((hW.del 0 rfl).del 0 rfl).del 1 rfl).del 1 rfl);refine⟨hS,?_⟩;clear hS;refine d_nil Kr ?_;replace hF:=hF.ks [0,1,2,3,4,13] rfl;refine b_n ?_;replace hW:=hW.del 0 rfl;refine t_n ?_;refine⟨(⟨⟨at_,[r0,r1,r2,r3],[m0,m1,m2,m3,m4,m5,m6,m7],rd,out,en⟩,hwf,A1,n1⟩,A9,c10),?_,?_,?_⟩
     ·exact Fr.app (Fr.nil hF) (hF.ks [0,1,2,3,4,13] rfl)
     ·exact hW.res2 fun u h1 h3 p hp=>(List.mem_append.1 hp).elim (h3 p) fun h=>by rw[List.mem_singleton.1 h];exact h1
     ·rw[hz]
    ·refine d_op rfl rfl (e_buildSlice hF hW rfl (fun w=>bs_KernOw_27_1_0 _ _ _ _ _ _ _ _ _ _ _ _ _ _ _ _ _ _ w) rfl rfl rfl ?_);intro b11 a wc hF hW;replace hS:=((((hW.del 0 rfl).del 0 rfl).del 1 rfl).del 1 rfl);refine⟨hS,?_⟩;refine d_1 1 Kr<|d_opval rfl hF rfl hW (y_loadOwn hF rfl 4 rfl rfl Tryz.underlying27 rfl) rfl rfl fun a hF=>?_;replace hS:=((((hW.del 0 rfl).del 0 rfl).del 1 rfl).del 1 rfl);refine⟨hS,?_⟩;refine d_1 9 Kr ?_;refine d_op rfl rfl (e_append hF hW 3 rfl rfl rfl Tryz.underlying27 inf_42 rfl Dc (rowAt_blk (hW.blk 0 rfl) 16 1 rfl) Oc (show _=k+1 by omega) (show _=(L++[CD.mk ⟨at_,[r0,r1,r2,r3],[m0,m1,m2,m3,m4,m5,m6,m7],rd,out,en⟩ hwf A1 n1]).flatMap encC by simp[encC,cellL,CD.ov]) Ox Ml rfl rfl ?_);intro A12 c13 a wc hF hW;replace hS:=((((hW.del 0 rfl).del 0 rfl).del 1 rfl).del 1 rfl);refine⟨hS,?_⟩;refine dv 10 rfl hF hS (y_fieldOwn hF rfl fa_30_1) fun a hF=>d_1 11 Kr ?_;refine d_op rfl rfl (e_store rfl hF hW rfl rfl 4 rfl rfl rfl sz_27 ?_);intro wc hW;replace hS:=((((hW.del 0 rfl).del 0 rfl).del 1 rfl).del 1 rfl);refine⟨hS,?_⟩;clear hS;refine d_nil Kr ?_;replace hF:=hF.ks [0,1,2,3,4,13] rfl;refine b_n ?_;replace hW:=hW.del 0 rfl;refine t_n ?_;refine⟨(⟨⟨at_,[r0,r1,r2,r3],[m0,m1,m2,m3,m4,m5,m6,m7],rd,out,en⟩,hwf,A1,n1⟩,A12,c13),?_,?_,?_⟩
     ·exact Fr.app (Fr.nil hF) (hF.ks [0,1,2,3,4,13] rfl)
     ·exact hW.res2 fun u h1 h3 p hp=>(List.mem_append.1 hp).elim (h3 p) fun h=>by rw[List.mem_singleton.1 h];exact h1
     ·rw[hz]
  ·clear hF hW
   try clear a
   intro gq a wc hC hF hW
   obtain⟨q',A',c'⟩:=gq
   dsimp only at hC
   have hq1:=hC
   refine c_r<|pv hF hW (y_move hF rfl) fun a hF=>pv hF hW (y_add hF rfl rfl (IntWalk.i64_in _ Om)) fun a hF=>?_;replace hF:=hF.drop 4;refine pv hF hW (y_assign hF rfl) fun a hF=>l_nil ?_;replace hF:=hF.ks [0,1,2,3,4,13] rfl;refine t_n ?_;refine⟨(k+1,L++[q'],A',c'),?_,?_,?_,?_⟩
   ·exact⟨by simp[hL],by omega,fun i hi=>by rcases Nat.lt_or_ge i k with h|h;rw[getD_app_l Om];exact hq i h;(have hik:i=k:=by omega);rw[hik,←hL,getD_app_r,hq1,hL]⟩
   ·first|omega|(dsimp only;omega)
   ·exact Fr.app (Fr.cons hF (t:=4) rfl Rf (Fr.nil hF)) (hF.ks [0,1,2,3] rfl)
   ·exact hW
 ·intro h4 hF;refine l_nil ?_;replace hF:=hF.ks [0,1,2,3,4,13] rfl;refine t_n<|c_f hF rfl<|wp_exit<|t_x<|t_x<|b_h<|t_n<|c_s ?_
  obtain rfl:k=y.cells.length:=Om
  refine c_sr<|pv hF hW (y_assign hF rfl) fun a hF=>l_nil<|t_n<|wp_block ?_;replace hW:=hW.nil_row 44 1;replace hW:=hW.free (R:=fun u=>∀q,q∈([]:List LD)→q.Own u) (fun _ _ h=>by cases h);replace hW:=hW.front 4 rfl rfl;replace hW:=hW.front 2 rfl rfl;replace hW:=hW.front 2 rfl rfl;refine c_loop (G:=Nat×List LD×Option Addr×Nat) (fun(gq:Nat×List LD×Option Addr×Nat)=>match gq with|⟨j,M,B,d⟩=>[(5,.int .i64 (j:Int))]) (fun(gq:Nat×List LD×Option Addr×Nat)=>match gq with|⟨j,M,B,d⟩=>[.res (fun u=>∀q,q∈M→q.Own u),.row 44 1 (.slice B j d) j (M.flatMap encL),.blk b3 30 [.int .i64 y.tick,.slice A y.cells.length c,.slice B j d]]) (fun(gq:Nat×List LD×Option Addr×Nat)=>match gq with|⟨j,M,B,d⟩=>M.length=j∧j≤y.lines.length∧∀i,i<j→(M.getD i LD0).vals=(y.lines.getD i LD0).vals) (fun(gq:Nat×List LD×Option Addr×Nat)=>match gq with|⟨j,M,B,d⟩=>y.lines.length - j) (0,[],none,0) (hF.ks [0,1,2,3,4,13] rfl) (Fr.cons hF (t:=5) rfl Rg (Fr.nil hF)) (hW) ?_ ?_
  ·exact⟨rfl,by omega,fun i hi=>by omega⟩
  clear hF hW
  try clear a
  intro gq a wc hC hF hW
  obtain⟨j,M,B,d⟩:=gq
  dsimp only at hC
  obtain⟨hM,hj,hm⟩:=hC
  refine c_s<|c_sr<|pv hF hW (y_move hF rfl) fun a hF=>pv hF hW (y_fieldOwn hF rfl fa_30_2) fun a hF=>pv hF hW (y_loadOwn hF rfl 6 rfl rfl Tryz.underlying28 rfl) fun a hF=>pv hF hW (y_len hF rfl Tryz.underlying28) fun a hF=>pv hF hW (y_lss hF rfl rfl) fun a hF=>?_;refine Fr.splitD hF ?_ ?_
  ·intro h14 hF;refine l_nil ?_;replace hF:=hF.ks [0,1,2,3,4,5,13,31] rfl;refine t_n<|c_t hF rfl<|wp_skip<|t_n ?_;refine c_cut (G:=LD×Option Addr×Nat) (fun(gq:LD×Option Addr×Nat)=>match gq with|⟨q',B',d'⟩=>[]) (fun(gq:LD×Option Addr×Nat)=>match gq with|⟨q',B',d'⟩=>[.res (fun u=>∀p,p∈M++[q']→p.Own u),.row 44 1 (.slice B' (j+1) d') (j+1) ((M++[q']).flatMap encL),.blk b3 30 [.int .i64 y.tick,.slice A y.cells.length c,.slice B' (j+1) d']]) (fun(gq:LD×Option Addr×Nat)=>match gq with|⟨q',B',d'⟩=>q'.vals=(y.lines.getD j LD0).vals) (hF.ks [0,1,2,3,4,5,13,31] rfl) (((hW.del 0 rfl).del 0 rfl).del 0 rfl) ?_ ?_
   ·refine wp_block ?_
    have hlat:=hy.line (k:=j) Om
    have hval:=hsv j Om
    obtain⟨z,hz⟩:∃q,y.lines.getD j LD0=q:=⟨_,rfl⟩
    rw[hz] at hlat hval
    obtain⟨lv,qa,qk⟩:=z
    dsimp only at hval
    refine c_d mixed_ok hW (((hW.del 1 rfl).del 1 rfl)) ?_
    clear hW;intro wc hW hS
    refine dv 0 rfl hF hS (y_fieldOwn hF rfl fa_30_2) fun a hF=>dv 3 rfl hF hS (y_fieldOwn hF rfl fa_30_2) fun a hF=>dv 4 rfl hF hS (y_loadOwn hF rfl 4 rfl rfl Tryz.underlying28 rfl) fun a hF=>dv 5 rfl hF hS (y_move hF rfl) fun a hF=>dv 6 rfl hF hS (y_indexS hF rfl rfl Od Tryz.underlying28 sz_44 (fun w h=>(hy.linesR).wd h)) fun a hF=>dv 7 rfl hF hS (y_fieldRow hF rfl fa_44_0) fun a hF=>dv 8 rfl hF hS (y_loadRow hF rfl (fun w h=>(hy.linesR).wd h) Od (show _=some (.slice qa lv.length qk) by rw[hz];rfl) Tryz.underlying40 rfl) fun a hF=>?_;refine d_2 1 2 Kr ?_ ?_
    ·refine d_opval rfl hF rfl hW (y_loadOwn hF rfl 2 rfl rfl Tryz.underlying28 rfl) rfl rfl fun a hF=>?_;replace hS:=((hW.del 1 rfl).del 1 rfl);refine⟨hS,?_⟩;refine d_1 2 Kr ?_;refine d_op rfl rfl (e_buildSlice hF hW rfl (fun w=>bs_KernOw_40_0_ w) rfl rfl rfl ?_);intro b15 a wc hF hW;replace hS:=(((hW.del 0 rfl).del 1 rfl).del 1 rfl);refine⟨hS,?_⟩;refine d_1 9 Kr ?_;replace hW:=hW.blk_row 0 rfl 1 0 rfl Si;refine d_op rfl rfl (e_append hF hW 0 rfl rfl rfl Tryz.underlying40 inf_3 rfl Dc ((show Ints _ (.slice qa lv.length qk) lv from hlat.below hW.below).rowAt) (by exact oneCell_ints _) (show _=lv.length by omega) (show _=lv.map (.int .i64) by simp) Ox Ml rfl rfl ?_);intro A16 c17 a wc hF hW;replace hS:=(((hW.del 0 rfl).del 1 rfl).del 1 rfl);refine⟨hS,?_⟩;refine dv 10 rfl hF hS (y_build hF rfl (fun w=>bu_KernOw_44_0 _ _ _ w)) fun a hF=>d_1 11 Kr ?_;refine d_op rfl rfl (e_buildSlice hF hW rfl (fun w=>bs_KernOw_28_1_0 _ _ _ w) rfl rfl rfl ?_);intro b18 a wc hF hW;replace hS:=((((hW.del 0 rfl).del 0 rfl).del 1 rfl).del 1 rfl);refine⟨hS,?_⟩;refine d_1 12 Kr ?_;refine d_op rfl rfl (e_append hF hW 3 rfl rfl rfl Tryz.underlying28 inf_44 rfl Dc (rowAt_blk (hW.blk 0 rfl) 1 1 rfl) Oc (show _=j+1 by omega) (show _=(M++[LD.mk lv A16 c17]).flatMap encL by simp[encL]) Ox Ml rfl rfl ?_);intro A19 c20 a wc hF hW;replace hS:=((((hW.del 0 rfl).del 0 rfl).del 1 rfl).del 1 rfl);refine⟨hS,?_⟩;refine dv 13 rfl hF hS (y_fieldOwn hF rfl fa_30_2) fun a hF=>d_1 14 Kr ?_;refine d_op rfl rfl (e_store rfl hF hW rfl rfl 4 rfl rfl rfl sz_28 ?_);intro wc hW;replace hS:=((((hW.del 0 rfl).del 0 rfl).del 1 rfl).del 1 rfl);refine⟨hS,?_⟩;clear hS;refine d_nil Kr ?_;replace hF:=hF.ks [0,1,2,3,4,5,13,31] rfl;refine b_n ?_;replace hW:=hW.del 0 rfl;refine t_n ?_;refine⟨(⟨lv,A16,c17⟩,A19,c20),?_,?_,?_⟩
     ·exact Fr.app (Fr.nil hF) (hF.ks [0,1,2,3,4,5,13,31] rfl)
     ·exact hW.row1 fun u h1 h3 p hp=>(List.mem_append.1 hp).elim (h3 p) fun h=>by rw[List.mem_singleton.1 h];exact OwnInts.of_own h1 (Nat.zero_le _)
     ·rw[hz]
    ·refine d_op rfl rfl (e_buildSlice hF hW rfl (fun w=>bs_KernOw_40_0_ w) rfl rfl rfl ?_);intro b21 a wc hF hW;replace hS:=(((hW.del 0 rfl).del 1 rfl).del 1 rfl);refine⟨hS,?_⟩;refine d_2 1 9 Kr ?_ ?_
     ·refine d_opval rfl hF rfl hW (y_loadOwn hF rfl 3 rfl rfl Tryz.underlying28 rfl) rfl rfl fun a hF=>?_;replace hS:=(((hW.del 0 rfl).del 1 rfl).del 1 rfl);refine⟨hS,?_⟩;refine d_1 9 Kr ?_;replace hW:=hW.blk_row 0 rfl 1 0 rfl Si;refine d_op rfl rfl (e_append hF hW 0 rfl rfl rfl Tryz.underlying40 inf_3 rfl Dc ((show Ints _ (.slice qa lv.length qk) lv from hlat.below hW.below).rowAt) (by exact oneCell_ints _) (show _=lv.length by omega) (show _=lv.map (.int .i64) by simp) Ox Ml rfl rfl ?_);intro A22 c23 a wc hF hW;replace hS:=(((hW.del 0 rfl).del 1 rfl).del 1 rfl);refine⟨hS,?_⟩;refine dv 10 rfl hF hS (y_build hF rfl (fun w=>bu_KernOw_44_0 _ _ _ w)) fun a hF=>d_1 11 Kr ?_;refine d_op rfl rfl (e_buildSlice hF hW rfl (fun w=>bs_KernOw_28_1_0 _ _ _ w) rfl rfl rfl ?_);intro b24 a wc hF hW;replace hS:=((((hW.del 0 rfl).del 0 rfl).del 1 rfl).del 1 rfl);refine⟨hS,?_⟩;refine d_1 12 Kr ?_;refine d_op rfl rfl (e_append hF hW 3 rfl rfl rfl Tryz.underlying28 inf_44 rfl Dc (rowAt_blk (hW.blk 0 rfl) 1 1 rfl) Oc (show _=j+1 by omega) (show _=(M++[LD.mk lv A22 c23]).flatMap encL by simp[encL]) Ox Ml rfl rfl ?_);intro A25 c26 a wc hF hW;replace hS:=((((hW.del 0 rfl).del 0 rfl).del 1 rfl).del 1 rfl);refine⟨hS,?_⟩;refine dv 13 rfl hF hS (y_fieldOwn hF rfl fa_30_2) fun a hF=>d_1 14 Kr ?_;refine d_op rfl rfl (e_store rfl hF hW rfl rfl 4 rfl rfl rfl sz_28 ?_);intro wc hW;replace hS:=((((hW.del 0 rfl).del 0 rfl).del 1 rfl).del 1 rfl);refine⟨hS,?_⟩;clear hS;refine d_nil Kr ?_;replace hF:=hF.ks [0,1,2,3,4,5,13,31] rfl;refine b_n ?_;replace hW:=hW.del 0 rfl;refine t_n ?_;refine⟨(⟨lv,A22,c23⟩,A25,c26),?_,?_,?_⟩
      ·exact Fr.app (Fr.nil hF) (hF.ks [0,1,2,3,4,5,13,31] rfl)
      ·exact hW.row1 fun u h1 h3 p hp=>(List.mem_append.1 hp).elim (h3 p) fun h=>by rw[List.mem_singleton.1 h];exact OwnInts.of_own h1 (Nat.zero_le _)
      ·rw[hz]
     ·replace hW:=hW.blk_row 0 rfl 1 0 rfl Si;refine d_op rfl rfl (e_append hF hW 0 rfl rfl rfl Tryz.underlying40 inf_3 rfl Dc ((show Ints _ (.slice qa lv.length qk) lv from hlat.below hW.below).rowAt) (by exact oneCell_ints _) (show _=lv.length by omega) (show _=lv.map (.int .i64) by simp) Ox Ml rfl rfl ?_);intro A27 c28 a wc hF hW;replace hS:=(((hW.del 0 rfl).del 1 rfl).del 1 rfl);refine⟨hS,?_⟩;refine dv 10 rfl hF hS (y_build hF rfl (fun w=>bu_KernOw_44_0 _ _ _ w)) fun a hF=>?_;refine d_2 1 11 Kr ?_ ?_
      ·refine d_opval rfl hF rfl hW (y_loadOwn hF rfl 3 rfl rfl Tryz.underlying28 rfl) rfl rfl fun a hF=>?_;replace hS:=(((hW.del 0 rfl).del 1 rfl).del 1 rfl);refine⟨hS,?_⟩;refine d_1 11 Kr ?_;refine d_op rfl rfl (e_buildSlice hF hW rfl (fun w=>bs_KernOw_28_1_0 _ _ _ w) rfl rfl rfl ?_);intro b29 a wc hF hW;replace hS:=((((hW.del 0 rfl).del 0 rfl).del 1 rfl).del 1 rfl);refine⟨hS,?_⟩;refine d_1 12 Kr ?_;refine d_op rfl rfl (e_append hF hW 3 rfl rfl rfl Tryz.underlying28 inf_44 rfl Dc (rowAt_blk (hW.blk 0 rfl) 1 1 rfl) Oc (show _=j+1 by omega) (show _=(M++[LD.mk lv A27 c28]).flatMap encL by simp[encL]) Ox Ml rfl rfl ?_);intro A30 c31 a wc hF hW;replace hS:=((((hW.del 0 rfl).del 0 rfl).del 1 rfl).del 1 rfl);refine⟨hS,?_⟩;refine dv 13 rfl hF hS (y_fieldOwn hF rfl fa_30_2) fun a hF=>d_1 14 Kr ?_;refine d_op rfl rfl (e_store rfl hF hW rfl rfl 4 rfl rfl rfl sz_28 ?_);intro wc hW;replace hS:=((((hW.del 0 rfl).del 0 rfl).del 1 rfl).del 1 rfl);refine⟨hS,?_⟩;clear hS;refine d_nil Kr ?_;replace hF:=hF.ks [0,1,2,3,4,5,13,31] rfl;refine b_n ?_;replace hW:=hW.del 0 rfl;refine t_n ?_;refine⟨(⟨lv,A27,c28⟩,A30,c31),?_,?_,?_⟩
       ·exact Fr.app (Fr.nil hF) (hF.ks [0,1,2,3,4,5,13,31] rfl)
       ·exact hW.row1 fun u h1 h3 p hp=>(List.mem_append.1 hp).elim (h3 p) fun h=>by rw[List.mem_singleton.1 h];exact OwnInts.of_own h1 (Nat.zero_le _)
       ·rw[hz]
      ·refine d_op rfl rfl (e_buildSlice hF hW rfl (fun w=>bs_KernOw_28_1_0 _ _ _ w) rfl rfl rfl ?_);intro b32 a wc hF hW;replace hS:=((((hW.del 0 rfl).del 0 rfl).del 1 rfl).del 1 rfl);refine⟨hS,?_⟩;refine d_1 1 Kr<|d_opval rfl hF rfl hW (y_loadOwn hF rfl 4 rfl rfl Tryz.underlying28 rfl) rfl rfl fun a hF=>?_;replace hS:=((((hW.del 0 rfl).del 0 rfl).del 1 rfl).del 1 rfl);refine⟨hS,?_⟩;refine d_1 12 Kr ?_;refine d_op rfl rfl (e_append hF hW 3 rfl rfl rfl Tryz.underlying28 inf_44 rfl Dc (rowAt_blk (hW.blk 0 rfl) 1 1 rfl) Oc (show _=j+1 by omega) (show _=(M++[LD.mk lv A27 c28]).flatMap encL by simp[encL]) Ox Ml rfl rfl ?_);intro A33 c34 a wc hF hW;replace hS:=((((hW.del 0 rfl).del 0 rfl).del 1 rfl).del 1 rfl);refine⟨hS,?_⟩;refine dv 13 rfl hF hS (y_fieldOwn hF rfl fa_30_2) fun a hF=>d_1 14 Kr ?_;refine d_op rfl rfl (e_store rfl hF hW rfl rfl 4 rfl rfl rfl sz_28 ?_);intro wc hW;replace hS:=((((hW.del 0 rfl).del 0 rfl).del 1 rfl).del 1 rfl);refine⟨hS,?_⟩;clear hS;refine d_nil Kr ?_;replace hF:=hF.ks [0,1,2,3,4,5,13,31] rfl;refine b_n ?_;replace hW:=hW.del 0 rfl;refine t_n ?_;refine⟨(⟨lv,A27,c28⟩,A33,c34),?_,?_,?_⟩
       ·exact Fr.app (Fr.nil hF) (hF.ks [0,1,2,3,4,5,13,31] rfl)
       ·exact hW.row1 fun u h1 h3 p hp=>(List.mem_append.1 hp).elim (h3 p) fun h=>by rw[List.mem_singleton.1 h];exact OwnInts.of_own h1 (Nat.zero_le _)
       ·rw[hz]
   ·clear hF hW
    try clear a
    intro gq a wc hC hF hW
    obtain⟨q',B',d'⟩:=gq
    dsimp only at hC
    have hq1:=hC
    refine c_r<|pv hF hW (y_move hF rfl) fun a hF=>pv hF hW (y_add hF rfl rfl (IntWalk.i64_in _ Om)) fun a hF=>?_;replace hF:=hF.drop 5;refine pv hF hW (y_assign hF rfl) fun a hF=>l_nil ?_;replace hF:=hF.ks [0,1,2,3,4,5,13,31] rfl;refine t_n ?_;refine⟨(j+1,M++[q'],B',d'),?_,?_,?_,?_⟩
    ·exact⟨by simp[hM],by omega,fun i hi=>by rcases Nat.lt_or_ge i j with h|h;rw[getD_app_l Om];exact hm i h;(have hik:i=j:=by omega);rw[hik,←hM,getD_app_r,hq1,hM]⟩
    ·first|omega|(dsimp only;omega)
    ·exact Fr.app (Fr.cons hF (t:=5) rfl Rf (Fr.nil hF)) (hF.ks [0,1,2,3,4,13] rfl)
    ·exact hW
  ·intro h14 hF;refine l_nil ?_;replace hF:=hF.ks [0,1,2,3,4,5,13,31] rfl;refine t_n<|c_f hF rfl<|wp_exit<|t_x<|t_x<|b_h<|t_n<|c_sr<|pv hF hW (y_loadAll hF rfl 2 rfl Tryz.underlying30 rfl sz_30) fun a hF=>?_;refine pe (e_storeAll rfl hF hW rfl rfl 5 rfl rfl rfl Kr sz_30 ?_);intro wc hW;refine l_nil ?_;replace hF:=hF.ks [0,1,2,3,4,5,13,31] rfl;refine t_n<|wp_ret<|ret1 Tryz.results7 hF (rv_c hF rfl hW 5 rfl Tryz.underlying30 rfl sz_30) ?_;replace hW:=hW.del 2 rfl;replace hW:=hW.del 4 rfl;replace hW:=hW.del 4 rfl;replace hW:=hW.front 1 rfl rfl;replace hW:=hW.front 3 rfl rfl;replace hW:=hW.front 2 rfl rfl;replace hW:=hW.front 3 rfl rfl
   obtain rfl:j=y.lines.length:=Om
   replace hW:=hW.res2 (R:=WD.Rest ⟨y.tick,L,A,c,M,B,d⟩) fun u h1 h2=>⟨h1,h2⟩
   replace hW:=hW.front 2 rfl rfl;replace hW:=hW.front 2 rfl rfl;refine⟨⟨y.tick,L,A,c,M,B,d⟩,by simp only[WD.val,hL,hM],wrl_eq rfl hL hM hq hm,?_⟩
   simp only[WD.rowC,WD.rowL,hL,hM]
   exact hW
end Go.Proofs.YtndcjmopebcdgaaGreat
