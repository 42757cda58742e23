/- The reference's OwnWorld. Plain laws: what a step leaves alone; a calm one in the place of another one. -/
import Derived.Test.YtndcjmopebcdgaaGreatDoorDkR
set_option linter.unusedSimpArgs false
set_option linter.unusedVariables false
namespace Go.Proofs.YtndcjmopebcdgaaGreatDoor
section
open Go.ChangeShapes Go.WideShapes Go.ChangeAt Go.RowKit
theorem bs_KernOw_41_0_(w:World):(Instr.buildSlice 41 0 #[]).run Tryz.prog w=.ok (.slice (some ⟨w.heap.size,0,none⟩) 0 0) (w.alloc (.cells #[] 3)):=by kernel_rfl
theorem bs_KernOw_58_1_0(x0:Int)(x1:Int)(x2:Int)(x3:Int)(x4:Int)(x5:Int)(x6:Int)(x7:Int)(x8:Int)(x9:Int)(x10:Int)(x11:Int)(x12:Int)(x13:Int)(x14:Option Addr)(x14n x14c:Nat)(x15:Int)(w:World):(Instr.buildSlice 58 1 #[(0,(.agg #[(.int .i64 x0),(.int .i64 x1),(.int .i64 x2),(.int .i64 x3),(.int .i64 x4),(.int .i64 x5),(.int .i64 x6),(.int .i64 x7),(.int .i64 x8),(.int .i64 x9),(.int .i64 x10),(.int .i64 x11),(.int .i64 x12),(.int .i64 x13),(.slice x14 x14n x14c),(.int .i64 x15)]))]).run Tryz.prog w=.ok (.slice (some ⟨w.heap.size,0,none⟩) 1 1) (w.alloc (.cells #[(.int .i64 x0),(.int .i64 x1),(.int .i64 x2),(.int .i64 x3),(.int .i64 x4),(.int .i64 x5),(.int .i64 x6),(.int .i64 x7),(.int .i64 x8),(.int .i64 x9),(.int .i64 x10),(.int .i64 x11),(.int .i64 x12),(.int .i64 x13),(.slice x14 x14n x14c),(.int .i64 x15)] 75)):=by kernel_rfl
theorem bs_KernOw_59_1_0(x0:Option Addr)(x0n x0c:Nat)(w:World):(Instr.buildSlice 59 1 #[(0,(.agg #[(.slice x0 x0n x0c)]))]).run Tryz.prog w=.ok (.slice (some ⟨w.heap.size,0,none⟩) 1 1) (w.alloc (.cells #[(.slice x0 x0n x0c)] 195)):=by kernel_rfl
theorem bu_KernOw_195_0(x0:Option Addr)(x0n x0c:Nat)(w:World):(Instr.build 195 #[(0,(.slice x0 x0n x0c))]).run Tryz.prog w=.ok (.agg #[(.slice x0 x0n x0c)]) w:=by kernel_rfl
theorem bu_KernOw_61_0(x0:Int)(w:World):(Instr.build 61 #[(0,(.int .i64 x0))]).run Tryz.prog w=.ok (.agg #[(.int .i64 x0),(.slice none 0 0),(.slice none 0 0)]) w:=by kernel_rfl
set_option maxRecDepth 100000
theorem ownCellZ{c:Cel}{ov:Value}{w:World}(hwf:c.wf)(ho:Ints w ov c.out)(hlen:c.out.length≤1048576):
  Calls Tryz.prog 145 #[celV c ov] w fun e w'=>∃A k,e=.returned (celV c (.slice A c.out.length k))∧OwnRes w w' (fun u=>OwnInts u 0 (.slice A c.out.length k) c.out)∧Below w.heap.size w w':=
 (ownCell_any c ov hwf w ho hlen).mono fun e w' ⟨ov',he,_,hown,hb⟩=>by
  have hr:=OwnRes.ownB hown.own
  obtain⟨A,k,rfl⟩:=hr.now.form rfl
  exact⟨A,k,he,hr,hb⟩
set_option maxHeartbeats 8000000 in
theorem ownWorld_any{y:WD}{w:World}(hy:y.At w)(hs:y.Small):Calls Tryz.prog 114 #[y.val] w (WrlOwn w y.wrl):=by
 obtain⟨hnc,hnl,hso,hsv⟩:=hs
 rw[y.val_eq]
 refine enter Tryz.func114 rfl Tryz.ntmps114 rfl fun a hF=>?_
 have hW:=Wd.start w NoB
 refine c_sr<|pe<|e_box hF hW rfl rfl rfl rfl fun b1 a wc hF hW=>pe<|e_alloc hF hW ze_61 rfl rfl rfl fun b2 a wc hF hW=>lts<|pq 1 hF rfl fun a hF=>pv hF hW (y_loadOwn hF rfl 1 rfl rfl Tryz.underlying3 rfl) fun a hF=>pv hF hW (y_build hF rfl (fun w=>bu_KernOw_61_0 _ w)) fun a hF=>pe<|e_alloc hF hW ze_61 rfl rfl rfl fun b3 a wc hF hW=>?_;refine pe<|e_storeAll rfl hF hW rfl rfl 0 rfl rfl Rl Kr sz_61 fun wc hW=>l_nil<|t_n<|c_s<|c_sr<|pq 1 hF rfl fun a hF=>l_nil<|t_n<|wp_block ?_;replace hW:=hW.nil_row 75 16;replace hW:=hW.free (R:=fun u=>∀q,q∈([]:List CD)→q.Own u) (fun _ _ h=>by cases h);replace hW:=hW.fs [2,2,2] rfl;refine c_loop (G:=Nat×List CD×Option Addr×Nat) (fun⟨k,L,A,c⟩=>[(4,.int .i64 (k:Int))]) (fun⟨k,L,A,c⟩=>[.res (fun u=>∀q,q∈L→q.Own u),.row 75 16 (.slice A k c) k (L.flatMap encC),.blk b3 61 [.int .i64 y.tick,.slice A k c,.slice none 0 0]]) (fun⟨k,L,A,c⟩=>L.length=k∧k≤y.cells.length∧∀i,i<k→(L.getD i CD0).c=(y.cells.getD i CD0).c) (fun⟨k,L,A,c⟩=>y.cells.length - k) (0,[],none,0) (hF.ks [0,1,2,3] rfl) (Fr.cons hF (t:=4) rfl Rg (Fr.nil hF)) (hW) ?_ ?_
 exact⟨rfl,by omega,fun i hi=>by omega⟩
 clear hF hW
 try clear a
 intro gq a wc hC hF hW
 obtain⟨k,L,A,c⟩:=gq
 dsimp only at hC
 obtain⟨hL,hk,hq⟩:=hC
 refine c_s<|c_sr<|pq 2 hF rfl fun a hF=>pv hF hW (y_loadOwn hF rfl 4 rfl rfl Tryz.underlying58 rfl) fun a hF=>pq 2 hF rfl fun a hF=>?_;refine Fr.splitD hF (fun h4 hF=>?_) (fun h4 hF=>?_);refine l_nil<|t_n<|c_t hF rfl<|wp_skip<|t_n ?_;refine c_cut (G:=CD×Option Addr×Nat) (fun⟨q',A',c'⟩=>[]) (fun⟨q',A',c'⟩=>[.res (fun u=>∀p,p∈L++[q']→p.Own u),.row 75 16 (.slice A' (k+1) c') (k+1) ((L++[q']).flatMap encC),.blk b3 61 [.int .i64 y.tick,.slice A' (k+1) c',.slice none 0 0]]) (fun⟨q',A',c'⟩=>q'.c=(y.cells.getD k CD0).c) (hF.ks [0,1,2,3,4,13] rfl) (hW.ds [0,0,0] rfl) ?_ ?_;refine wp_block ?_
 have hcat:=hy.cell (k:=k) Om
 have hout:=hso k Om
 obtain⟨z,hz⟩:∃q,y.cells.getD k CD0=q:=⟨_,rfl⟩
 rw[hz] at hcat hout
 obtain⟨⟨at_,regs,mem,rd,out,en⟩,hwf,qa,qk⟩:=z
 obtain⟨r0,r1,r2,r3,hregs⟩:=len_four hwf.1
 obtain⟨m0,m1,m2,m3,m4,m5,m6,m7,hmem⟩:=len_eight hwf.2
 dsimp only at hregs hmem hout
 subst hregs hmem
 have hoc:=fun w1 (ho:CD.At ⟨⟨at_,[r0,r1,r2,r3],[m0,m1,m2,m3,m4,m5,m6,m7],rd,out,en⟩,hwf,qa,qk⟩ w1)=>ownCellZ hwf ho (by dsimp only;omega)
 simp only[celV_eq] at hoc
 refine c_d mixed_ok hW ((hW.ds [1,1] rfl)) ?_
 clear hW;intro wc hW hS
 refine dq 2 [0,2] hF hS rfl fun a hF=>dv 3 rfl hF hS (y_loadOwn hF rfl 2 rfl rfl Tryz.underlying58 rfl) fun a hF=>dq 1 [4] hF hS rfl fun a hF=>dv 5 rfl hF hS (y_indexS hF rfl rfl Od Tryz.underlying58 sz_75 (fun w h=>(hy.cellsR).wd h)) fun a hF=>dv 6 rfl hF hS (y_loadRowW hF rfl (fun w h=>(hy.cellsR).wd h) Od Tryz.underlying75 rfl (by rw[hz];exact sz_75)) fun a hF=>?_;replace hF:=Fr.cast (v':=.agg #[.int .i64 at_,.int .i64 r0,.int .i64 r1,.int .i64 r2,.int .i64 r3,.int .i64 m0,.int .i64 m1,.int .i64 m2,.int .i64 m3,.int .i64 m4,.int .i64 m5,.int .i64 m6,.int .i64 m7,.int .i64 rd,.slice qa out.length qk,.int .i64 en]) (by rw[hz];rfl) hF;refine d_2 1 7 Kr ?_ ?_;refine d_opval rfl hF rfl hW (y_loadOwn hF rfl 2 rfl rfl Tryz.underlying58 rfl) rfl rfl fun a hF=>ai (hW.ds [1,1] rfl) fun hS=>d_1 7 Kr ?_;refine d_op rfl rfl (e_callA hF rfl rfl en_145 Rl (hoc _ (hcat.below hW.below)) ?_);rintro e w1 ⟨A1,n1,rfl,hr,hb⟩;replace hW:=hW.gotR hb hr;refine⟨_,rfl,fun a hF=>?_⟩;refine ai (hW.ds [0,1,1] rfl) fun hS=>d_1 8 Kr<|d_op rfl rfl<|e_buildSlice hF hW rfl (fun w=>bs_KernOw_58_1_0 _ _ _ _ _ _ _ _ _ _ _ _ _ _ _ _ _ _ w) rfl rfl rfl fun b5 a wc hF hW=>ai (hW.ds [0,0,1,1] rfl) fun hS=>d_1 9 Kr<|d_op rfl rfl<|e_append hF hW 3 rfl rfl rfl Tryz.underlying58 inf_75 rfl Dc (rowAt_blk (hW.blk 0 rfl) 16 1 rfl) Oc (show _=k+1 by omega) (show _=(L++[CD.mk ⟨at_,[r0,r1,r2,r3],[m0,m1,m2,m3,m4,m5,m6,m7],rd,out,en⟩ hwf A1 n1]).flatMap encC by simp[encC,cellL,CD.ov]) Ox Ml rfl rfl fun A6 c7 a wc hF hW=>ai (hW.ds [0,0,1,1] rfl) fun hS=>dq 1 [10] hF hS rfl fun a hF=>d_1 11 Kr<|d_op rfl rfl<|e_store rfl hF hW rfl rfl 4 rfl rfl rfl sz_58 fun wc hW=>ai (hW.ds [0,0,1,1] rfl) fun hS=>?_;clear hS;refine d_nil Kr ?_;replace hF:=hF.ks [0,1,2,3,4,13] rfl;refine b_n ?_;replace hW:=hW.del 0 rfl;refine t_n ?_;refine⟨(⟨⟨at_,[r0,r1,r2,r3],[m0,m1,m2,m3,m4,m5,m6,m7],rd,out,en⟩,hwf,A1,n1⟩,A6,c7),?_,?_,?_⟩
 exact hF.al rfl
 exact hW.res2 fun u h1 h3 p hp=>(List.mem_append.1 hp).elim (h3 p) fun h=>by rw[List.mem_singleton.1 h];exact h1
 rw[hz]
 refine d_op rfl rfl (e_callA hF rfl rfl en_145 Rl (hoc _ (hcat.below hW.below)) ?_);rintro e w1 ⟨A1,n1,rfl,hr,hb⟩;replace hW:=hW.gotR hb hr;refine⟨_,rfl,fun a hF=>?_⟩;refine ai (hW.ds [0,1,1] rfl) fun hS=>?_;refine d_2 1 8 Kr ?_ ?_;refine d_opval rfl hF rfl hW (y_loadOwn hF rfl 3 rfl rfl Tryz.underlying58 rfl) rfl rfl fun a hF=>ai (hW.ds [0,1,1] rfl) fun hS=>d_1 8 Kr<|d_op rfl rfl<|e_buildSlice hF hW rfl (fun w=>bs_KernOw_58_1_0 _ _ _ _ _ _ _ _ _ _ _ _ _ _ _ _ _ _ w) rfl rfl rfl fun b8 a wc hF hW=>ai (hW.ds [0,0,1,1] rfl) fun hS=>d_1 9 Kr<|d_op rfl rfl<|e_append hF hW 3 rfl rfl rfl Tryz.underlying58 inf_75 rfl Dc (rowAt_blk (hW.blk 0 rfl) 16 1 rfl) Oc (show _=k+1 by omega) (show _=(L++[CD.mk ⟨at_,[r0,r1,r2,r3],[m0,m1,m2,m3,m4,m5,m6,m7],rd,out,en⟩ hwf A1 n1]).flatMap encC by simp[encC,cellL,CD.ov]) Ox Ml rfl rfl fun A9 c10 a wc hF hW=>ai (hW.ds [0,0,1,1] rfl) fun hS=>dq 1 [10] hF hS rfl fun a hF=>d_1 11 Kr<|d_op rfl rfl<|e_store rfl hF hW rfl rfl 4 rfl rfl rfl sz_58 fun wc hW=>ai (hW.ds [0,0,1,1] rfl) fun hS=>?_;clear hS;refine d_nil Kr ?_;replace hF:=hF.ks [0,1,2,3,4,13] rfl;refine b_n ?_;replace hW:=hW.del 0 rfl;refine t_n ?_;refine⟨(⟨⟨at_,[r0,r1,r2,r3],[m0,m1,m2,m3,m4,m5,m6,m7],rd,out,en⟩,hwf,A1,n1⟩,A9,c10),?_,?_,?_⟩
 exact hF.al rfl
 exact hW.res2 fun u h1 h3 p hp=>(List.mem_append.1 hp).elim (h3 p) fun h=>by rw[List.mem_singleton.1 h];exact h1
 rw[hz]
 refine d_op rfl rfl<|e_buildSlice hF hW rfl (fun w=>bs_KernOw_58_1_0 _ _ _ _ _ _ _ _ _ _ _ _ _ _ _ _ _ _ w) rfl rfl rfl fun b11 a wc hF hW=>ai (hW.ds [0,0,1,1] rfl) fun hS=>d_1 1 Kr<|d_opval rfl hF rfl hW (y_loadOwn hF rfl 4 rfl rfl Tryz.underlying58 rfl) rfl rfl fun a hF=>ai (hW.ds [0,0,1,1] rfl) fun hS=>d_1 9 Kr<|d_op rfl rfl<|e_append hF hW 3 rfl rfl rfl Tryz.underlying58 inf_75 rfl Dc (rowAt_blk (hW.blk 0 rfl) 16 1 rfl) Oc (show _=k+1 by omega) (show _=(L++[CD.mk ⟨at_,[r0,r1,r2,r3],[m0,m1,m2,m3,m4,m5,m6,m7],rd,out,en⟩ hwf A1 n1]).flatMap encC by simp[encC,cellL,CD.ov]) Ox Ml rfl rfl fun A12 c13 a wc hF hW=>ai (hW.ds [0,0,1,1] rfl) fun hS=>dq 1 [10] hF hS rfl fun a hF=>d_1 11 Kr<|d_op rfl rfl<|e_store rfl hF hW rfl rfl 4 rfl rfl rfl sz_58 fun wc hW=>ai (hW.ds [0,0,1,1] rfl) fun hS=>?_;clear hS;refine d_nil Kr ?_;replace hF:=hF.ks [0,1,2,3,4,13] rfl;refine b_n ?_;replace hW:=hW.del 0 rfl;refine t_n ?_;refine⟨(⟨⟨at_,[r0,r1,r2,r3],[m0,m1,m2,m3,m4,m5,m6,m7],rd,out,en⟩,hwf,A1,n1⟩,A12,c13),?_,?_,?_⟩
 exact hF.al rfl
 exact hW.res2 fun u h1 h3 p hp=>(List.mem_append.1 hp).elim (h3 p) fun h=>by rw[List.mem_singleton.1 h];exact h1
 rw[hz]
 clear hF hW
 try clear a
 intro gq a wc hC hF hW
 obtain⟨q',A',c'⟩:=gq
 dsimp only at hC
 have hq1:=hC
 refine c_r<|pq 1 hF rfl fun a hF=>pv hF hW (y_add hF rfl rfl (IntWalk.i64_in _ Om)) fun a hF=>pq 1 hF rfl fun a hF=>l_nil<|t_n ?_;refine⟨(k+1,L++[q'],A',c'),?_,?_,?_,?_⟩
 exact⟨by simp[hL],by omega,fun i hi=>by rcases Nat.lt_or_ge i k with h|h;rw[getD_app_l Om];exact hq i h;(have hik:i=k:=by omega);rw[hik,←hL,getD_app_r,hq1,hL]⟩
 first|omega|(dsimp only;omega)
 exact hF.a1 rfl rfl
 exact hW
 refine l_nil<|t_n<|c_f hF rfl<|wp_exit<|t_x<|t_x<|b_h<|t_n<|c_s ?_
 obtain rfl:k=y.cells.length:=Om
 refine c_sr<|pq 1 hF rfl fun a hF=>l_nil<|t_n<|wp_block ?_;replace hW:=hW.nil_row 195 1;replace hW:=hW.free (R:=fun u=>∀q,q∈([]:List LD)→q.Own u) (fun _ _ h=>by cases h);replace hW:=hW.fs [4,2,2] rfl;refine c_loop (G:=Nat×List LD×Option Addr×Nat) (fun⟨j,M,B,d⟩=>[(5,.int .i64 (j:Int))]) (fun⟨j,M,B,d⟩=>[.res (fun u=>∀q,q∈M→q.Own u),.row 195 1 (.slice B j d) j (M.flatMap encL),.blk b3 61 [.int .i64 y.tick,.slice A y.cells.length c,.slice B j d]]) (fun⟨j,M,B,d⟩=>M.length=j∧j≤y.lines.length∧∀i,i<j→(M.getD i LD0).vals=(y.lines.getD i LD0).vals) (fun⟨j,M,B,d⟩=>y.lines.length - j) (0,[],none,0) (hF.ks [0,1,2,3,4,13] rfl) (Fr.cons hF (t:=5) rfl Rg (Fr.nil hF)) (hW) ?_ ?_
 exact⟨rfl,by omega,fun i hi=>by omega⟩
 clear hF hW
 try clear a
 intro gq a wc hC hF hW
 obtain⟨j,M,B,d⟩:=gq
 dsimp only at hC
 obtain⟨hM,hj,hm⟩:=hC
 refine c_s<|c_sr<|pq 2 hF rfl fun a hF=>pv hF hW (y_loadOwn hF rfl 6 rfl rfl Tryz.underlying59 rfl) fun a hF=>pq 2 hF rfl fun a hF=>?_;refine Fr.splitD hF (fun h14 hF=>?_) (fun h14 hF=>?_);refine l_nil<|t_n<|c_t hF rfl<|wp_skip<|t_n ?_;refine c_cut (G:=LD×Option Addr×Nat) (fun⟨q',B',d'⟩=>[]) (fun⟨q',B',d'⟩=>[.res (fun u=>∀p,p∈M++[q']→p.Own u),.row 195 1 (.slice B' (j+1) d') (j+1) ((M++[q']).flatMap encL),.blk b3 61 [.int .i64 y.tick,.slice A y.cells.length c,.slice B' (j+1) d']]) (fun⟨q',B',d'⟩=>q'.vals=(y.lines.getD j LD0).vals) (hF.ks [0,1,2,3,4,5,13,31] rfl) (hW.ds [0,0,0] rfl) ?_ ?_;refine wp_block ?_
 have hlat:=hy.line (k:=j) Om
 have hval:=hsv j Om
 obtain⟨z,hz⟩:∃q,y.lines.getD j LD0=q:=⟨_,rfl⟩
 rw[hz] at hlat hval
 obtain⟨lv,qa,qk⟩:=z
 dsimp only at hval
 refine c_d mixed_ok hW ((hW.ds [1,1] rfl)) ?_
 clear hW;intro wc hW hS
 refine dq 2 [0,3] hF hS rfl fun a hF=>dv 4 rfl hF hS (y_loadOwn hF rfl 4 rfl rfl Tryz.underlying59 rfl) fun a hF=>dq 1 [5] hF hS rfl fun a hF=>dv 6 rfl hF hS (y_indexS hF rfl rfl Od Tryz.underlying59 sz_195 (fun w h=>(hy.linesR).wd h)) fun a hF=>dv 7 rfl hF hS (y_fieldRow hF rfl fa_195_0) fun a hF=>dv 8 rfl hF hS (y_loadRow hF rfl (fun w h=>(hy.linesR).wd h) Od (show _=some (.slice qa lv.length qk) by rw[hz];rfl) Tryz.underlying41 rfl) fun a hF=>?_;refine d_2 1 2 Kr ?_ ?_;refine d_opval rfl hF rfl hW (y_loadOwn hF rfl 2 rfl rfl Tryz.underlying59 rfl) rfl rfl fun a hF=>ai (hW.ds [1,1] rfl) fun hS=>d_1 2 Kr<|d_op rfl rfl<|e_buildSlice hF hW rfl (fun w=>bs_KernOw_41_0_ w) rfl rfl rfl fun b15 a wc hF hW=>ai (hW.ds [0,1,1] rfl) fun hS=>d_1 9 Kr ?_;replace hW:=hW.blk_row 0 rfl 1 0 rfl Si;refine d_op rfl rfl<|e_append hF hW 0 rfl rfl rfl Tryz.underlying41 inf_3 rfl Dc ((show Ints _ (.slice qa lv.length qk) lv from hlat.below hW.below).rowAt) (by exact oneCell_ints _) (show _=lv.length by omega) (show _=lv.map (.int .i64) by simp) Ox Ml rfl rfl fun A16 c17 a wc hF hW=>ai (hW.ds [0,1,1] rfl) fun hS=>dv 10 rfl hF hS (y_build hF rfl (fun w=>bu_KernOw_195_0 _ _ _ w)) fun a hF=>d_1 11 Kr<|d_op rfl rfl<|e_buildSlice hF hW rfl (fun w=>bs_KernOw_59_1_0 _ _ _ w) rfl rfl rfl fun b18 a wc hF hW=>ai (hW.ds [0,0,1,1] rfl) fun hS=>d_1 12 Kr<|d_op rfl rfl<|e_append hF hW 3 rfl rfl rfl Tryz.underlying59 inf_195 rfl Dc (rowAt_blk (hW.blk 0 rfl) 1 1 rfl) Oc (show _=j+1 by omega) (show _=(M++[LD.mk lv A16 c17]).flatMap encL by simp[encL]) Ox Ml rfl rfl fun A19 c20 a wc hF hW=>ai (hW.ds [0,0,1,1] rfl) fun hS=>dq 1 [13] hF hS rfl fun a hF=>d_1 14 Kr ?_;refine d_op rfl rfl<|e_store rfl hF hW rfl rfl 4 rfl rfl rfl sz_59 fun wc hW=>ai (hW.ds [0,0,1,1] rfl) fun hS=>?_;clear hS;refine d_nil Kr ?_;replace hF:=hF.ks [0,1,2,3,4,5,13,31] rfl;refine b_n ?_;replace hW:=hW.del 0 rfl;refine t_n ?_;refine⟨(⟨lv,A16,c17⟩,A19,c20),?_,?_,?_⟩
 exact hF.al rfl
 exact hW.row1 fun u h1 h3 p hp=>(List.mem_append.1 hp).elim (h3 p) fun h=>by rw[List.mem_singleton.1 h];exact OwnInts.of_own h1 (Nat.zero_le _)
 rw[hz]
 refine d_op rfl rfl<|e_buildSlice hF hW rfl (fun w=>bs_KernOw_41_0_ w) rfl rfl rfl fun b21 a wc hF hW=>ai (hW.ds [0,1,1] rfl) fun hS=>?_;refine d_2 1 9 Kr ?_ ?_;refine d_opval rfl hF rfl hW (y_loadOwn hF rfl 3 rfl rfl Tryz.underlying59 rfl) rfl rfl fun a hF=>ai (hW.ds [0,1,1] rfl) fun hS=>d_1 9 Kr ?_;replace hW:=hW.blk_row 0 rfl 1 0 rfl Si;refine d_op rfl rfl<|e_append hF hW 0 rfl rfl rfl Tryz.underlying41 inf_3 rfl Dc ((show Ints _ (.slice qa lv.length qk) lv from hlat.below hW.below).rowAt) (by exact oneCell_ints _) (show _=lv.length by omega) (show _=lv.map (.int .i64) by simp) Ox Ml rfl rfl fun A22 c23 a wc hF hW=>ai (hW.ds [0,1,1] rfl) fun hS=>dv 10 rfl hF hS (y_build hF rfl (fun w=>bu_KernOw_195_0 _ _ _ w)) fun a hF=>d_1 11 Kr<|d_op rfl rfl<|e_buildSlice hF hW rfl (fun w=>bs_KernOw_59_1_0 _ _ _ w) rfl rfl rfl fun b24 a wc hF hW=>ai (hW.ds [0,0,1,1] rfl) fun hS=>d_1 12 Kr<|d_op rfl rfl<|e_append hF hW 3 rfl rfl rfl Tryz.underlying59 inf_195 rfl Dc (rowAt_blk (hW.blk 0 rfl) 1 1 rfl) Oc (show _=j+1 by omega) (show _=(M++[LD.mk lv A22 c23]).flatMap encL by simp[encL]) Ox Ml rfl rfl fun A25 c26 a wc hF hW=>ai (hW.ds [0,0,1,1] rfl) fun hS=>dq 1 [13] hF hS rfl fun a hF=>d_1 14 Kr ?_;refine d_op rfl rfl<|e_store rfl hF hW rfl rfl 4 rfl rfl rfl sz_59 fun wc hW=>ai (hW.ds [0,0,1,1] rfl) fun hS=>?_;clear hS;refine d_nil Kr ?_;replace hF:=hF.ks [0,1,2,3,4,5,13,31] rfl;refine b_n ?_;replace hW:=hW.del 0 rfl;refine t_n ?_;refine⟨(⟨lv,A22,c23⟩,A25,c26),?_,?_,?_⟩
 exact hF.al rfl
 exact hW.row1 fun u h1 h3 p hp=>(List.mem_append.1 hp).elim (h3 p) fun h=>by rw[List.mem_singleton.1 h];exact OwnInts.of_own h1 (Nat.zero_le _)
 rw[hz]
 replace hW:=hW.blk_row 0 rfl 1 0 rfl Si;refine d_op rfl rfl<|e_append hF hW 0 rfl rfl rfl Tryz.underlying41 inf_3 rfl Dc ((show Ints _ (.slice qa lv.length qk) lv from hlat.below hW.below).rowAt) (by exact oneCell_ints _) (show _=lv.length by omega) (show _=lv.map (.int .i64) by simp) Ox Ml rfl rfl fun A27 c28 a wc hF hW=>ai (hW.ds [0,1,1] rfl) fun hS=>dv 10 rfl hF hS (y_build hF rfl (fun w=>bu_KernOw_195_0 _ _ _ w)) fun a hF=>?_;refine d_2 1 11 Kr ?_ ?_;refine d_opval rfl hF rfl hW (y_loadOwn hF rfl 3 rfl rfl Tryz.underlying59 rfl) rfl rfl fun a hF=>ai (hW.ds [0,1,1] rfl) fun hS=>d_1 11 Kr<|d_op rfl rfl<|e_buildSlice hF hW rfl (fun w=>bs_KernOw_59_1_0 _ _ _ w) rfl rfl rfl fun b29 a wc hF hW=>ai (hW.ds [0,0,1,1] rfl) fun hS=>d_1 12 Kr<|d_op rfl rfl<|e_append hF hW 3 rfl rfl rfl Tryz.underlying59 inf_195 rfl Dc (rowAt_blk (hW.blk 0 rfl) 1 1 rfl) Oc (show _=j+1 by omega) (show _=(M++[LD.mk lv A27 c28]).flatMap encL by simp[encL]) Ox Ml rfl rfl fun A30 c31 a wc hF hW=>ai (hW.ds [0,0,1,1] rfl) fun hS=>dq 1 [13] hF hS rfl fun a hF=>d_1 14 Kr<|d_op rfl rfl<|e_store rfl hF hW rfl rfl 4 rfl rfl rfl sz_59 fun wc hW=>ai (hW.ds [0,0,1,1] rfl) fun hS=>?_;clear hS;refine d_nil Kr ?_;replace hF:=hF.ks [0,1,2,3,4,5,13,31] rfl;refine b_n ?_;replace hW:=hW.del 0 rfl;refine t_n ?_;refine⟨(⟨lv,A27,c28⟩,A30,c31),?_,?_,?_⟩
 exact hF.al rfl
 exact hW.row1 fun u h1 h3 p hp=>(List.mem_append.1 hp).elim (h3 p) fun h=>by rw[List.mem_singleton.1 h];exact OwnInts.of_own h1 (Nat.zero_le _)
 rw[hz]
 refine d_op rfl rfl<|e_buildSlice hF hW rfl (fun w=>bs_KernOw_59_1_0 _ _ _ w) rfl rfl rfl fun b32 a wc hF hW=>ai (hW.ds [0,0,1,1] rfl) fun hS=>d_1 1 Kr<|d_opval rfl hF rfl hW (y_loadOwn hF rfl 4 rfl rfl Tryz.underlying59 rfl) rfl rfl fun a hF=>ai (hW.ds [0,0,1,1] rfl) fun hS=>d_1 12 Kr<|d_op rfl rfl<|e_append hF hW 3 rfl rfl rfl Tryz.underlying59 inf_195 rfl Dc (rowAt_blk (hW.blk 0 rfl) 1 1 rfl) Oc (show _=j+1 by omega) (show _=(M++[LD.mk lv A27 c28]).flatMap encL by simp[encL]) Ox Ml rfl rfl fun A33 c34 a wc hF hW=>ai (hW.ds [0,0,1,1] rfl) fun hS=>dq 1 [13] hF hS rfl fun a hF=>d_1 14 Kr<|d_op rfl rfl<|e_store rfl hF hW rfl rfl 4 rfl rfl rfl sz_59 fun wc hW=>ai (hW.ds [0,0,1,1] rfl) fun hS=>?_;clear hS;refine d_nil Kr ?_;replace hF:=hF.ks [0,1,2,3,4,5,13,31] rfl;refine b_n ?_;replace hW:=hW.del 0 rfl;refine t_n ?_;refine⟨(⟨lv,A27,c28⟩,A33,c34),?_,?_,?_⟩
 exact hF.al rfl
 exact hW.row1 fun u h1 h3 p hp=>(List.mem_append.1 hp).elim (h3 p) fun h=>by rw[List.mem_singleton.1 h];exact OwnInts.of_own h1 (Nat.zero_le _)
 rw[hz]
 clear hF hW
 try clear a
 intro gq a wc hC hF hW
 obtain⟨q',B',d'⟩:=gq
 dsimp only at hC
 have hq1:=hC
 refine c_r<|pq 1 hF rfl fun a hF=>pv hF hW (y_add hF rfl rfl (IntWalk.i64_in _ Om)) fun a hF=>pq 1 hF rfl fun a hF=>l_nil<|t_n ?_;refine⟨(j+1,M++[q'],B',d'),?_,?_,?_,?_⟩
 exact⟨by simp[hM],by omega,fun i hi=>by rcases Nat.lt_or_ge i j with h|h;rw[getD_app_l Om];exact hm i h;(have hik:i=j:=by omega);rw[hik,←hM,getD_app_r,hq1,hM]⟩
 first|omega|(dsimp only;omega)
 exact hF.a1 rfl rfl
 exact hW
 refine l_nil<|t_n<|c_f hF rfl<|wp_exit<|t_x<|t_x<|b_h<|t_n<|c_sr<|pv hF hW (y_loadAll hF rfl 2 rfl Tryz.underlying61 rfl sz_61) fun a hF=>pe<|e_storeAll rfl hF hW rfl rfl 5 rfl rfl rfl Kr sz_61 fun wc hW=>l_nil<|t_n<|wp_ret<|ret1 Tryz.results114 hF (rv_c hF rfl hW 5 rfl Tryz.underlying61 rfl sz_61) ?_;replace hW:=hW.ds [2,4,4] rfl;replace hW:=hW.fs [1,3,2,3] rfl
 obtain rfl:j=y.lines.length:=Om
 replace hW:=hW.res2 (R:=WD.Rest ⟨y.tick,L,A,c,M,B,d⟩) fun u h1 h2=>⟨h1,h2⟩
 replace hW:=hW.fs [2,2] rfl;refine⟨⟨y.tick,L,A,c,M,B,d⟩,by simp only[WD.val,hL,hM],wrl_eq rfl hL hM hq hm,?_⟩
 simp only[WD.rowC,WD.rowL,hL,hM]
 exact hW
end
section
open Go.ChangeShapes Go.WideShapes Go.ChangeAt Go.RowKit
set_option maxRecDepth 100000
theorem stepErrW_zero{s:Sys}{w:Wrl}(h:stepErrW s w=0):chkSys s=0∧Right s w∧w.tick<300:=by
 unfold stepErrW at h
 by_cases h1:chkWorld s w=0
 ·rw[if_pos h1] at h
  by_cases h2:w.tick=300
  ·rw[if_pos h2] at h;cases h
  ·obtain⟨h3,h4⟩:=chkWorld_zero h1
   have hr:=right_iff.1 h4
   exact⟨h3,hr,by have:=hr.t1;omega⟩
 ·rw[if_neg h1] at h;exact absurd h h1
def setRead(w:Wrl)(u:Nat)(r:Int):Wrl:=⟨w.tick,w.cells.set u {w.cells.getD u Cel.zero with read:=r},w.lines⟩
end
end Go.Proofs.YtndcjmopebcdgaaGreatDoor
