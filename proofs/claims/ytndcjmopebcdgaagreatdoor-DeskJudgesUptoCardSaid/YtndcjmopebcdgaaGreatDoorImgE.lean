/- The reference's ImageBytes. -/
import Derived.Test.YtndcjmopebcdgaaGreatDoorImgW
set_option linter.unusedSimpArgs false
set_option linter.unusedVariables false
namespace Go.Proofs.YtndcjmopebcdgaaGreatDoor
open Go.ChangeShapes Go.WideShapes Go.ChangeAt Go.RowKit
theorem cw_ImgE_3_5(n:Int)(w:World):(convert 3 5 (.int .i64 n)).run Tryz.prog w=.ok (.int .u8 ((byt n).toNat:Int)) w:=by
 rw[←byt_wrap]
 simp[convert,run_underlying Tryz.underlying3,run_underlying Tryz.underlying5,Conv.intToInt]
theorem bs_ImgE_66_1_0(x0:Int)(w:World):(Instr.buildSlice 66 1 #[(0,(.int .u8 x0))]).run Tryz.prog w=.ok (.slice (some ⟨w.heap.size,0,none⟩) 1 1) (w.alloc (.cells #[(.int .u8 x0)] 5)):=by kernel_rfl
theorem bs_ImgE_66_2_0_1(x0:Int)(x1:Int)(w:World):(Instr.buildSlice 66 2 #[(0,(.int .u8 x0)),(1,(.int .u8 x1))]).run Tryz.prog w=.ok (.slice (some ⟨w.heap.size,0,none⟩) 2 2) (w.alloc (.cells #[(.int .u8 x0),(.int .u8 x1)] 5)):=by kernel_rfl
theorem bs_ImgE_66_3_0_1_2(x0:Int)(x1:Int)(x2:Int)(w:World):(Instr.buildSlice 66 3 #[(0,(.int .u8 x0)),(1,(.int .u8 x1)),(2,(.int .u8 x2))]).run Tryz.prog w=.ok (.slice (some ⟨w.heap.size,0,none⟩) 3 3) (w.alloc (.cells #[(.int .u8 x0),(.int .u8 x1),(.int .u8 x2)] 5)):=by kernel_rfl
theorem bs_ImgE_66_8_0_1_2_3_4_5_6_7(x0:Int)(x1:Int)(x2:Int)(x3:Int)(x4:Int)(x5:Int)(x6:Int)(x7:Int)(w:World):(Instr.buildSlice 66 8 #[(0,(.int .u8 x0)),(1,(.int .u8 x1)),(2,(.int .u8 x2)),(3,(.int .u8 x3)),(4,(.int .u8 x4)),(5,(.int .u8 x5)),(6,(.int .u8 x6)),(7,(.int .u8 x7))]).run Tryz.prog w=.ok (.slice (some ⟨w.heap.size,0,none⟩) 8 8) (w.alloc (.cells #[(.int .u8 x0),(.int .u8 x1),(.int .u8 x2),(.int .u8 x3),(.int .u8 x4),(.int .u8 x5),(.int .u8 x6),(.int .u8 x7)] 5)):=by kernel_rfl
set_option maxRecDepth 100000
theorem eight_any{w:World}{n:Int}:Calls Tryz.prog 111 #[.int .i64 n] w fun e w'=>∃b,e=.returned (.slice (some ⟨b,0,none⟩) 8 8)∧Wd w NoB [.blk b 5 (bcs (num8 n))] w':=by
 refine enter Tryz.func111 rfl Tryz.ntmps111 rfl fun a hF=>?_
 have hW:=Wd.start w NoB
 refine c_sr<|pq 1 hF rfl fun a hF=>lts<|pq 1 hF rfl fun a hF=>pv hF hW (y_shr hF rfl rfl (by first|decide|(show _≤64;omega))) fun a hF=>pv hF hW (y_convert hF rfl (cw_ImgE_3_5 _)) fun a hF=>pq 1 hF rfl fun a hF=>pv hF hW (y_shr hF rfl rfl (by first|decide|(show _≤64;omega))) fun a hF=>pv hF hW (y_convert hF rfl (cw_ImgE_3_5 _)) fun a hF=>pq 1 hF rfl fun a hF=>pv hF hW (y_shr hF rfl rfl (by first|decide|(show _≤64;omega))) fun a hF=>pv hF hW (y_convert hF rfl (cw_ImgE_3_5 _)) fun a hF=>pq 1 hF rfl fun a hF=>pv hF hW (y_shr hF rfl rfl (by first|decide|(show _≤64;omega))) fun a hF=>pv hF hW (y_convert hF rfl (cw_ImgE_3_5 _)) fun a hF=>pq 1 hF rfl fun a hF=>pv hF hW (y_shr hF rfl rfl (by first|decide|(show _≤64;omega))) fun a hF=>pv hF hW (y_convert hF rfl (cw_ImgE_3_5 _)) fun a hF=>pq 1 hF rfl fun a hF=>pv hF hW (y_shr hF rfl rfl (by first|decide|(show _≤64;omega))) fun a hF=>pv hF hW (y_convert hF rfl (cw_ImgE_3_5 _)) fun a hF=>pq 1 hF rfl fun a hF=>pv hF hW (y_shr hF rfl rfl (by first|decide|(show _≤64;omega))) fun a hF=>pv hF hW (y_convert hF rfl (cw_ImgE_3_5 _)) fun a hF=>pq 1 hF rfl fun a hF=>pv hF hW (y_convert hF rfl (cw_ImgE_3_5 _)) fun a hF=>pe<|e_buildSlice hF hW rfl (fun w=>bs_ImgE_66_8_0_1_2_3_4_5_6_7 _ _ _ _ _ _ _ _ w) rfl rfl rfl fun b1 a wc hF hW=>pq 1 hF rfl fun a hF=>l_nil ?_;replace hF:=hF.ks [0,2] rfl;refine t_n<|wp_ret<|ret1 Tryz.results111 hF (rv_t hF rfl) ?_
 exact⟨_,rfl,by rw[num8_eq];exact hW⟩
set_option maxHeartbeats 32000000 in
theorem imageBytes_any{x:SysD}{w:World}(hx:x.At w)(h0:chkSys x.sys=0):Calls Tryz.prog 70 #[x.val] w fun e w'=>e=.returned (.string (bstr (imgL x.sys)))∧Below w.heap.size w w':=by
 have hz:=imgSz h0
 have hnp:=hz.np
 have hnc:=hz.nc
 have hns:=hz.ns
 have hie:=imgL_eq x
 have hpl:=fun k=>parB_len hz (k:=k)
 rw[x.val_eq] at*
 refine enter Tryz.func70 rfl Tryz.ntmps70 rfl fun a hF=>?_
 have hW:=Wd.start w NoB
 refine c_sr<|pe<|e_box hF hW rfl rfl rfl rfl fun b1 a wc hF hW=>pq 1 hF rfl fun a hF=>lts<|pq 1 hF rfl fun a hF=>pv hF hW (y_loadOwn hF rfl 0 rfl rfl Tryz.underlying35 rfl) fun a hF=>pq 1 hF rfl fun a hF=>pv hF hW (y_convert hF rfl (cw_ImgE_3_5 _)) fun a hF=>pe<|e_buildSlice hF hW rfl (fun w=>bs_ImgE_66_1_0 _ w) rfl rfl rfl fun b2 a wc hF hW=>pq 1 hF rfl fun a hF=>l_nil<|t_n<|c_s ?_;replace hW:=hW.blk_row 0 rfl 1 1 rfl Dc;refine c_sr<|pq 1 hF rfl fun a hF=>l_nil<|t_n<|wp_block ?_;refine c_loop (G:=Nat×List UInt8×Option Addr×Nat) (fun⟨k,F,A,c⟩=>[(4,.int .i64 (k:Int)),(3,.slice A F.length c)]) (fun⟨k,F,A,c⟩=>[rowU A c F]) (fun⟨k,F,A,c⟩=>k≤x.parts.length∧F=parB x k) (fun⟨k,F,A,c⟩=>x.parts.length - k) (0,[byt (x.parts.length:Int)],some ⟨b2,0,none⟩,1) (hF.ks [0,1,2] rfl) (Fr.cons hF (t:=4) rfl Rg (Fr.cons hF (t:=3) rfl Rg (Fr.nil hF))) (hW) ?_ ?_
 exact⟨by omega,rfl⟩
 clear hF hW
 try clear a
 intro gq a wc hC hF hW
 obtain⟨k,F,A,c⟩:=gq
 dsimp only at hC
 obtain⟨hkl,hF0⟩:=hC
 refine c_s<|c_sr<|pq 2 hF rfl fun a hF=>pv hF hW (y_loadOwn hF rfl 1 rfl rfl Tryz.underlying35 rfl) fun a hF=>pq 2 hF rfl fun a hF=>?_;refine Fr.splitD hF (fun h3 hF=>?_) (fun h3 hF=>?_);refine l_nil<|t_n<|c_t hF rfl<|wp_skip<|t_n<|c_s<|wp_block ?_
 have hk1:k<x.parts.length:=Om
 obtain⟨q,hq⟩:∃q,x.parts.getD k P0=q:=⟨_,rfl⟩
 have hqc:=hx.codeR hk1
 have hqi:=hx.inpR hk1
 have hqz:=hz.part q (by rw[←hq];exact mem_getD P0 hk1)
 have hFl:F.length≤1300:=(by rw[hF0];exact hpl k)
 rw[hq] at hqc hqi
 obtain⟨⟨code,inp⟩,⟨ca,cc,ia,ic⟩⟩:=q
 dsimp only at hqc hqi hqz
 obtain⟨hq20,hq12⟩:=hqz
 refine c_sr<|pq 1 hF rfl fun a hF=>pv hF hW (y_loadOwn hF rfl 1 rfl rfl Tryz.underlying35 rfl) fun a hF=>pq 1 hF rfl fun a hF=>pv hF hW (y_indexS hF rfl rfl (by exact hk1) Tryz.underlying35 sz_43 (fun w h=>(hx.partsR).wd h)) fun a hF=>pv hF hW (y_loadRowW hF rfl (fun w h=>(hx.partsR).wd h) (by exact hk1) Tryz.underlying43 rfl (by rw[hq];exact sz_43)) fun a hF=>?_;replace hF:=Fr.cast (v':=.agg #[.slice ca code.length cc,.slice ia inp.length ic]) (by rw[hq];rfl) hF;refine pe<|e_alloc hF hW ze_43 rfl rfl rfl fun b4 a wc hF hW=>pe<|e_storeAll rfl hF hW rfl rfl 0 rfl rfl rfl Kr sz_43 fun wc hW=>lts<|pq 2 hF rfl fun a hF=>pv hF hW (y_loadOwn hF rfl 0 rfl rfl Tryz.underlying40 rfl) fun a hF=>pq 1 hF rfl fun a hF=>pv hF hW (y_convert hF rfl (cw_ImgE_3_5 _)) fun a hF=>pe<|e_buildSlice hF hW rfl (fun w=>bs_ImgE_66_1_0 _ w) rfl rfl rfl fun b5 a wc hF hW=>pe<|e_append hF hW 2 rfl rfl rfl Tryz.underlying66 inf_5 rfl Dc (rowAt_blk (hW.blk 0 rfl) 1 1 rfl) Oc (show _=(F++[byt (code.length:Int)]).length by simp) (show _=bcs (F++[byt (code.length:Int)]) by rw[bcs_app];rfl) Ox Ml rfl rfl fun A6 c7 a wc hF hW=>pq 1 hF rfl fun a hF=>l_nil ?_;replace hF:=hF.ks [0,1,2,3,4,5,20] rfl;refine t_n<|c_s<|c_sr<|pq 1 hF rfl fun a hF=>l_nil<|t_n<|wp_block ?_;replace hW:=hW.front 2 rfl rfl;refine c_loop (G:=Nat×List UInt8×Option Addr×Nat) (fun⟨j,H,B,d⟩=>[(6,.int .i64 (j:Int)),(3,.slice B H.length d)]) (fun⟨j,H,B,d⟩=>[rowU B d H]) (fun⟨j,H,B,d⟩=>j≤code.length∧H=(F++[byt (code.length:Int)])++(code.take j).flatMap insB) (fun⟨j,H,B,d⟩=>code.length - j) (0,F++[byt (code.length:Int)],A6,c7) (hF.ks [0,1,2,4,5,20] rfl) (Fr.cons hF (t:=6) rfl Rg (Fr.cons hF (t:=3) rfl Rg (Fr.nil hF))) (hW) ?_ ?_
 exact⟨by omega,by simp⟩
 clear hF hW
 try clear a
 intro gq a wc hC hF hW
 obtain⟨j,H,B,d⟩:=gq
 dsimp only at hC
 obtain⟨hjl,hH0⟩:=hC
 refine c_s<|c_sr<|pq 2 hF rfl fun a hF=>pv hF hW (y_loadOwn hF rfl 2 rfl rfl Tryz.underlying40 rfl) fun a hF=>pq 2 hF rfl fun a hF=>?_;refine Fr.splitD hF (fun h8 hF=>?_) (fun h8 hF=>?_);refine l_nil<|t_n<|c_t hF rfl<|wp_skip<|t_n<|c_s<|wp_block ?_
 have hj1:j<code.length:=Om
 obtain⟨i0,hi⟩:∃i,code.getD j I0=i:=⟨_,rfl⟩
 obtain⟨op,ra,rb,n⟩:=i0
 have hHl:=rowsB_len (f:=insB) (n:=11) (code.take j) fun q _=>Nat.le_of_eq (insB_len q)
 rw[List.length_take] at hHl
 have hHl2:=congrArg List.length hH0
 have h8:=num8_len n
 simp only[List.length_append,List.length_cons,List.length_nil] at hHl2
 refine c_sr<|pq 1 hF rfl fun a hF=>pv hF hW (y_loadOwn hF rfl 2 rfl rfl Tryz.underlying40 rfl) fun a hF=>pq 1 hF rfl fun a hF=>pv hF hW (y_indexS hF rfl rfl (by exact hj1) Tryz.underlying40 sz_118 (fun w h=>(hqc).wd h)) fun a hF=>pv hF hW (y_loadRowW hF rfl (fun w h=>(hqc).wd h) (by exact hj1) Tryz.underlying118 rfl (by rw[hi];exact sz_118)) fun a hF=>?_;replace hF:=Fr.cast (v':=.agg #[.int .i64 op,.int .i64 ra,.int .i64 rb,.int .i64 n]) (by rw[hi];rfl) hF;refine pe<|e_alloc hF hW ze_118 rfl rfl rfl fun b9 a wc hF hW=>pe<|e_storeAll rfl hF hW rfl rfl 0 rfl rfl rfl Kr sz_118 fun wc hW=>lts<|pq 2 hF rfl fun a hF=>pv hF hW (y_loadOwn hF rfl 0 rfl rfl Tryz.underlying3 rfl) fun a hF=>pv hF hW (y_convert hF rfl (cw_ImgE_3_5 _)) fun a hF=>pq 1 hF rfl fun a hF=>pv hF hW (y_loadOwn hF rfl 0 rfl rfl Tryz.underlying3 rfl) fun a hF=>pv hF hW (y_convert hF rfl (cw_ImgE_3_5 _)) fun a hF=>pq 1 hF rfl fun a hF=>pv hF hW (y_loadOwn hF rfl 0 rfl rfl Tryz.underlying3 rfl) fun a hF=>pv hF hW (y_convert hF rfl (cw_ImgE_3_5 _)) fun a hF=>pe<|e_buildSlice hF hW rfl (fun w=>bs_ImgE_66_3_0_1_2 _ _ _ w) rfl rfl rfl fun b10 a wc hF hW=>pe<|e_append hF hW 2 rfl rfl rfl Tryz.underlying66 inf_5 rfl Dc (rowAt_blk (hW.blk 0 rfl) 1 3 rfl) Oc (show _=(H++[byt op,byt ra,byt rb]).length by simp) (show _=bcs (H++[byt op,byt ra,byt rb]) by rw[bcs_app];rfl) Ox Ml rfl rfl fun A11 c12 a wc hF hW=>pq 1 hF rfl fun a hF=>l_nil ?_;replace hF:=hF.ks [0,1,2,3,4,5,6,7,20,39] rfl;refine t_n<|c_r<|pq 2 hF rfl fun a hF=>pv hF hW (y_loadOwn hF rfl 1 rfl rfl Tryz.underlying3 rfl) fun a hF=>?_;refine pe (e_callA hF rfl rfl en_111 Rl (eight_any) ?_);rintro e w1 ⟨b8,rfl,hN⟩;replace hW:=hW.comb1 hN;refine⟨_,rfl,fun a hF=>?_⟩;refine pe<|e_append hF hW 3 rfl rfl rfl Tryz.underlying66 inf_5 rfl Dc (rowAt_blk (hW.blk 0 rfl) 1 8 (by rw[bcs_len,num8_len])) (by exact oneCell_bcs _) (show _=((H++[byt op,byt ra,byt rb])++num8 n).length by simp only[List.length_append,num8_len]) (show _=bcs ((H++[byt op,byt ra,byt rb])++num8 n) by simp only[bcs_app]) Ox Ml rfl rfl fun A13 c14 a wc hF hW=>pq 1 hF rfl fun a hF=>l_nil<|b_n<|t_n<|c_r<|pq 1 hF rfl fun a hF=>pv hF hW (y_add hF rfl rfl (IntWalk.i64_in _ Om)) fun a hF=>pq 1 hF rfl fun a hF=>?_
 refine l_nil ?_;replace hW:=hW.ds [0,0,0] rfl;refine t_n ?_;refine⟨(j+1,(H++[byt op,byt ra,byt rb])++num8 n,A13,c14),?_,?_,?_,?_⟩
 exact⟨by omega,by rw[hH0,takeB_flat I0 _ hj1,hi];simp[insB]⟩
 first|omega|(dsimp only;omega)
 exact hF.a2 rfl rfl rfl
 exact hW
 refine l_nil<|t_n<|c_f hF rfl<|wp_exit<|t_x<|t_x<|b_h<|t_n ?_
 have hHl:=rowsB_len (f:=insB) (n:=11) (code.take j) fun q _=>Nat.le_of_eq (insB_len q)
 rw[List.length_take] at hHl
 have hHl2:=congrArg List.length hH0
 simp only[List.length_append,List.length_cons,List.length_nil] at hHl2
 refine c_sr<|pq 2 hF rfl fun a hF=>pv hF hW (y_loadOwn hF rfl 2 rfl rfl Tryz.underlying41 rfl) fun a hF=>pq 1 hF rfl fun a hF=>pv hF hW (y_convert hF rfl (cw_ImgE_3_5 _)) fun a hF=>pe<|e_buildSlice hF hW rfl (fun w=>bs_ImgE_66_1_0 _ w) rfl rfl rfl fun b15 a wc hF hW=>pe<|e_append hF hW 1 rfl rfl rfl Tryz.underlying66 inf_5 rfl Dc (rowAt_blk (hW.blk 0 rfl) 1 1 rfl) Oc (show _=(H++[byt (inp.length:Int)]).length by simp) (show _=bcs (H++[byt (inp.length:Int)]) by rw[bcs_app];rfl) Ox Ml rfl rfl fun A16 c17 a wc hF hW=>pq 1 hF rfl fun a hF=>lts<|pq 1 hF rfl fun a hF=>l_nil<|t_n<|wp_block ?_;replace hW:=hW.front 1 rfl rfl;refine c_loop (G:=Nat×List UInt8×Option Addr×Nat) (fun⟨i,H2,B2,d2⟩=>[(8,.int .i64 (i:Int)),(3,.slice B2 H2.length d2)]) (fun⟨i,H2,B2,d2⟩=>[rowU B2 d2 H2]) (fun⟨i,H2,B2,d2⟩=>i≤inp.length∧H2=(H++[byt (inp.length:Int)])++(inp.take i).flatMap num8) (fun⟨i,H2,B2,d2⟩=>inp.length - i) (0,H++[byt (inp.length:Int)],A16,c17) (hF.ks [0,1,2,4,5,6,20,39] rfl) (Fr.cons hF (t:=8) rfl Rg (Fr.cons hF (t:=3) rfl Rg (Fr.nil hF))) (hW) ?_ ?_
 exact⟨by omega,by simp⟩
 clear hF hW
 try clear a
 intro gq a wc hC hF hW
 obtain⟨i,H2,B2,d2⟩:=gq
 dsimp only at hC
 obtain⟨hil,hH20⟩:=hC
 refine c_s<|c_sr<|pq 2 hF rfl fun a hF=>pv hF hW (y_loadOwn hF rfl 3 rfl rfl Tryz.underlying41 rfl) fun a hF=>pq 2 hF rfl fun a hF=>?_;refine Fr.splitD hF (fun h18 hF=>?_) (fun h18 hF=>?_);refine l_nil<|t_n<|c_t hF rfl<|wp_skip<|t_n<|c_s<|wp_block ?_
 have hi1:i<inp.length:=Om
 have hIl:=rowsB_len (f:=num8) (n:=8) (inp.take i) fun q _=>Nat.le_of_eq (num8_len q)
 rw[List.length_take] at hIl
 have hIl2:=congrArg List.length hH20
 have h8:(H2++num8 (inp.getD i 0)).length=H2.length+8:=(by rw[List.length_append,num8_len])
 simp only[List.length_append,List.length_cons,List.length_nil] at hIl2
 refine c_r<|pq 2 hF rfl fun a hF=>pv hF hW (y_loadOwn hF rfl 3 rfl rfl Tryz.underlying41 rfl) fun a hF=>pq 1 hF rfl fun a hF=>pv hF hW (y_indexS hF rfl rfl (by exact hi1) Tryz.underlying41 sz_3 (fun w h=>(hqi).wd h)) fun a hF=>pv hF hW (y_loadRow hF rfl (fun w h=>(hqi).wd h) (by exact hi1) rfl Tryz.underlying3 rfl) fun a hF=>?_;refine pe (e_callA hF rfl rfl en_111 Rl (eight_any) ?_);rintro e w1 ⟨b8,rfl,hN⟩;replace hW:=hW.comb1 hN;refine⟨_,rfl,fun a hF=>?_⟩;refine pe<|e_append hF hW 1 rfl rfl rfl Tryz.underlying66 inf_5 rfl Dc (rowAt_blk (hW.blk 0 rfl) 1 8 (by rw[bcs_len,num8_len])) (by exact oneCell_bcs _) (show _=(H2++num8 (inp.getD i 0)).length by rw[List.length_append,num8_len]) (show _=bcs (H2++num8 (inp.getD i 0)) by rw[bcs_app]) Ox Ml rfl rfl fun A19 c20 a wc hF hW=>pq 1 hF rfl fun a hF=>l_nil<|b_n<|t_n<|c_r<|pq 1 hF rfl fun a hF=>pv hF hW (y_add hF rfl rfl (IntWalk.i64_in _ Om)) fun a hF=>pq 1 hF rfl fun a hF=>l_nil ?_;replace hF:=hF.ks [0,1,2,3,4,5,6,8,20,39,75] rfl;replace hW:=hW.del 0 rfl;refine t_n ?_;refine⟨(i+1,H2++num8 (inp.getD i 0),A19,c20),?_,?_,?_,?_⟩
 exact⟨by omega,by rw[hH20,takeB_flat 0 _ hi1,List.append_assoc]⟩
 first|omega|(dsimp only;omega)
 exact hF.a2 rfl rfl rfl
 exact hW
 refine l_nil<|t_n<|c_f hF rfl<|wp_exit<|t_x<|t_x<|b_h<|b_n<|t_n<|c_r<|pq 1 hF rfl fun a hF=>pv hF hW (y_add hF rfl rfl (IntWalk.i64_in _ Om)) fun a hF=>pq 1 hF rfl fun a hF=>l_nil ?_;replace hW:=hW.ds [1,1,1] rfl;refine t_n ?_;refine⟨(k+1,H2,B2,d2),?_,?_,?_,?_⟩
 exact⟨by omega,by rw[parB_succ hk1 hq,←hF0,hH20,hH0,show j=code.length by omega,show i=inp.length by omega,List.take_of_length_le (Nat.le_refl _),List.take_of_length_le (Nat.le_refl _)];simp[prtB,encB8]⟩
 first|omega|(dsimp only;omega)
 exact hF.a2 rfl rfl rfl
 exact hW
 refine l_nil<|t_n<|c_f hF rfl<|wp_exit<|t_x<|t_x<|b_h<|t_n ?_
 have hFl:F.length≤1300:=(by rw[hF0];exact hpl k)
 rw[show k=x.parts.length by omega] at hF0
 refine c_sr<|pq 2 hF rfl fun a hF=>pv hF hW (y_loadOwn hF rfl 1 rfl rfl Tryz.underlying36 rfl) fun a hF=>pq 1 hF rfl fun a hF=>pv hF hW (y_convert hF rfl (cw_ImgE_3_5 _)) fun a hF=>pe<|e_buildSlice hF hW rfl (fun w=>bs_ImgE_66_1_0 _ w) rfl rfl rfl fun b21 a wc hF hW=>pe<|e_append hF hW 1 rfl rfl rfl Tryz.underlying66 inf_5 rfl Dc (rowAt_blk (hW.blk 0 rfl) 1 1 rfl) Oc (show _=(F++[byt (x.chans.length:Int)]).length by simp) (show _=bcs (F++[byt (x.chans.length:Int)]) by rw[bcs_app];rfl) Ox Ml rfl rfl fun A22 c23 a wc hF hW=>pq 1 hF rfl fun a hF=>l_nil<|t_n<|c_s<|c_sr<|pq 1 hF rfl fun a hF=>l_nil<|t_n<|wp_block ?_;replace hW:=hW.front 1 rfl rfl;refine c_loop (G:=Nat×List UInt8×Option Addr×Nat) (fun⟨j,H,B,d⟩=>[(9,.int .i64 (j:Int)),(3,.slice B H.length d)]) (fun⟨j,H,B,d⟩=>[rowU B d H]) (fun⟨j,H,B,d⟩=>j≤x.chans.length∧H=(F++[byt (x.chans.length:Int)])++(x.chans.take j).flatMap chnB) (fun⟨j,H,B,d⟩=>x.chans.length - j) (0,F++[byt (x.chans.length:Int)],A22,c23) (hF.ks [0,1,2,4,20] rfl) (Fr.cons hF (t:=9) rfl Rg (Fr.cons hF (t:=3) rfl Rg (Fr.nil hF))) (hW) ?_ ?_
 exact⟨by omega,by simp⟩
 clear hF hW
 try clear a
 intro gq a wc hC hF hW
 obtain⟨j,H,B,d⟩:=gq
 dsimp only at hC
 obtain⟨hjl,hH0⟩:=hC
 refine c_s<|c_sr<|pq 2 hF rfl fun a hF=>pv hF hW (y_loadOwn hF rfl 2 rfl rfl Tryz.underlying36 rfl) fun a hF=>pq 2 hF rfl fun a hF=>?_;refine Fr.splitD hF (fun h24 hF=>?_) (fun h24 hF=>?_);refine l_nil<|t_n<|c_t hF rfl<|wp_skip<|t_n<|c_s<|wp_block ?_
 have hj1:j<x.chans.length:=Om
 obtain⟨i0,hi⟩:∃i,x.chans.getD j C0=i:=⟨_,rfl⟩
 obtain⟨kd,fr,tt⟩:=i0
 have hHl:=rowsB_len (f:=chnB) (n:=3) (x.chans.take j) fun q _=>Nat.le_refl _
 rw[List.length_take] at hHl
 have hHl2:=congrArg List.length hH0
 simp only[List.length_append,List.length_cons,List.length_nil] at hHl2
 refine c_d mixed_ok hW ((hW.del 0 rfl)) ?_
 clear hW;intro wc hW hS
 refine dq 2 [0,1] hF hS rfl fun a hF=>dv 2 rfl hF hS (y_loadOwn hF rfl 1 rfl rfl Tryz.underlying36 rfl) fun a hF=>dq 1 [3] hF hS rfl fun a hF=>dv 4 rfl hF hS (y_indexS hF rfl rfl (by exact hj1) Tryz.underlying36 sz_121 (fun w h=>(hx.chansR).wd h)) fun a hF=>dv 5 rfl hF hS (y_fieldRow hF rfl fa_121_0) fun a hF=>dv 6 rfl hF hS (y_loadRow hF rfl (fun w h=>(hx.chansR).wd h) (by exact hj1) (show _=some (.int .i64 kd) by rw[hi];rfl) Tryz.underlying3 rfl) fun a hF=>dv 7 rfl hF hS (y_convert hF rfl (cw_ImgE_3_5 _)) fun a hF=>dq 1 [8] hF hS rfl fun a hF=>dv 9 rfl hF hS (y_loadOwn hF rfl 1 rfl rfl Tryz.underlying36 rfl) fun a hF=>dq 1 [10] hF hS rfl fun a hF=>dv 11 rfl hF hS (y_indexS hF rfl rfl (by exact hj1) Tryz.underlying36 sz_121 (fun w h=>(hx.chansR).wd h)) fun a hF=>dv 12 rfl hF hS (y_fieldRow hF rfl fa_121_1) fun a hF=>dv 13 rfl hF hS (y_loadRow hF rfl (fun w h=>(hx.chansR).wd h) (by exact hj1) (show _=some (.int .i64 fr) by rw[hi];rfl) Tryz.underlying3 rfl) fun a hF=>dv 14 rfl hF hS (y_convert hF rfl (cw_ImgE_3_5 _)) fun a hF=>dq 1 [15] hF hS rfl fun a hF=>dv 16 rfl hF hS (y_loadOwn hF rfl 1 rfl rfl Tryz.underlying36 rfl) fun a hF=>dq 1 [17] hF hS rfl fun a hF=>dv 18 rfl hF hS (y_indexS hF rfl rfl (by exact hj1) Tryz.underlying36 sz_121 (fun w h=>(hx.chansR).wd h)) fun a hF=>dv 19 rfl hF hS (y_fieldRow hF rfl fa_121_2) fun a hF=>dv 20 rfl hF hS (y_loadRow hF rfl (fun w h=>(hx.chansR).wd h) (by exact hj1) (show _=some (.int .i64 tt) by rw[hi];rfl) Tryz.underlying3 rfl) fun a hF=>dv 21 rfl hF hS (y_convert hF rfl (cw_ImgE_3_5 _)) fun a hF=>d_1 22 Kr<|d_op rfl rfl<|e_buildSlice hF hW rfl (fun w=>bs_ImgE_66_3_0_1_2 _ _ _ w) rfl rfl rfl fun b25 a wc hF hW=>ai (hW.ds [0,0] rfl) fun hS=>d_1 23 Kr<|d_op rfl rfl<|e_append hF hW 1 rfl rfl rfl Tryz.underlying66 inf_5 rfl Dc (rowAt_blk (hW.blk 0 rfl) 1 3 rfl) Oc (show _=(H++[byt kd,byt fr,byt tt]).length by simp) (show _=bcs (H++[byt kd,byt fr,byt tt]) by rw[bcs_app];rfl) Ox Ml rfl rfl fun A26 c27 a wc hF hW=>ai (hW.ds [0,0] rfl) fun hS=>dq 1 [24] hF hS rfl fun a hF=>?_;clear hS;refine d_nil Kr ?_;replace hF:=hF.ks [0,1,2,3,4,9,20,97] rfl;refine b_n<|t_n<|c_r<|pq 1 hF rfl fun a hF=>pv hF hW (y_add hF rfl rfl (IntWalk.i64_in _ Om)) fun a hF=>pq 1 hF rfl fun a hF=>l_nil ?_;replace hW:=hW.del 0 rfl;refine t_n ?_
 refine⟨(j+1,H++[byt kd,byt fr,byt tt],A26,c27),?_,?_,?_,?_⟩
 exact⟨by omega,by rw[hH0,takeB_flat C0 _ hj1,hi];simp[chnB]⟩
 first|omega|(dsimp only;omega)
 exact hF.a2 rfl rfl rfl
 exact hW
 refine l_nil<|t_n<|c_f hF rfl<|wp_exit<|t_x<|t_x<|b_h<|t_n ?_
 have hHl:=rowsB_len (f:=chnB) (n:=3) (x.chans.take j) fun q _=>Nat.le_refl _
 rw[List.length_take] at hHl
 have hHl2:=congrArg List.length hH0
 simp only[List.length_append,List.length_cons,List.length_nil] at hHl2
 refine c_sr<|pq 2 hF rfl fun a hF=>pv hF hW (y_loadOwn hF rfl 2 rfl rfl Tryz.underlying37 rfl) fun a hF=>pq 1 hF rfl fun a hF=>pv hF hW (y_convert hF rfl (cw_ImgE_3_5 _)) fun a hF=>pe<|e_buildSlice hF hW rfl (fun w=>bs_ImgE_66_1_0 _ w) rfl rfl rfl fun b28 a wc hF hW=>pe<|e_append hF hW 1 rfl rfl rfl Tryz.underlying66 inf_5 rfl Dc (rowAt_blk (hW.blk 0 rfl) 1 1 rfl) Oc (show _=(H++[byt (x.slots.length:Int)]).length by simp) (show _=bcs (H++[byt (x.slots.length:Int)]) by rw[bcs_app];rfl) Ox Ml rfl rfl fun A29 c30 a wc hF hW=>pq 1 hF rfl fun a hF=>l_nil<|t_n<|c_s<|c_sr<|pq 1 hF rfl fun a hF=>l_nil<|t_n<|wp_block ?_;replace hW:=hW.front 1 rfl rfl;refine c_loop (G:=Nat×List UInt8×Option Addr×Nat) (fun⟨i,H2,B2,d2⟩=>[(10,.int .i64 (i:Int)),(3,.slice B2 H2.length d2)]) (fun⟨i,H2,B2,d2⟩=>[rowU B2 d2 H2]) (fun⟨i,H2,B2,d2⟩=>i≤x.slots.length∧H2=(H++[byt (x.slots.length:Int)])++(x.slots.take i).flatMap sltB) (fun⟨i,H2,B2,d2⟩=>x.slots.length - i) (0,H++[byt (x.slots.length:Int)],A29,c30) (hF.ks [0,1,2,4,9,20,97] rfl) (Fr.cons hF (t:=10) rfl Rg (Fr.cons hF (t:=3) rfl Rg (Fr.nil hF))) (hW) ?_ ?_
 exact⟨by omega,by simp⟩
 clear hF hW
 try clear a
 intro gq a wc hC hF hW
 obtain⟨i,H2,B2,d2⟩:=gq
 dsimp only at hC
 obtain⟨hil,hH20⟩:=hC
 refine c_s<|c_sr<|pq 2 hF rfl fun a hF=>pv hF hW (y_loadOwn hF rfl 3 rfl rfl Tryz.underlying37 rfl) fun a hF=>pq 2 hF rfl fun a hF=>?_;refine Fr.splitD hF (fun h31 hF=>?_) (fun h31 hF=>?_);refine l_nil<|t_n<|c_t hF rfl<|wp_skip<|t_n<|c_s<|wp_block ?_
 have hi1:i<x.slots.length:=Om
 obtain⟨s0,hs⟩:∃s,x.slots.getD i S0=s:=⟨_,rfl⟩
 obtain⟨pt,tk⟩:=s0
 have hIl:=rowsB_len (f:=sltB) (n:=2) (x.slots.take i) fun q _=>Nat.le_refl _
 rw[List.length_take] at hIl
 have hIl2:=congrArg List.length hH20
 simp only[List.length_append,List.length_cons,List.length_nil] at hIl2
 refine c_d mixed_ok hW ((hW.del 0 rfl)) ?_
 clear hW;intro wc hW hS
 refine dq 2 [0,1] hF hS rfl fun a hF=>dv 2 rfl hF hS (y_loadOwn hF rfl 2 rfl rfl Tryz.underlying37 rfl) fun a hF=>dq 1 [3] hF hS rfl fun a hF=>dv 4 rfl hF hS (y_indexS hF rfl rfl (by exact hi1) Tryz.underlying37 sz_123 (fun w h=>(hx.slotsR).wd h)) fun a hF=>dv 5 rfl hF hS (y_fieldRow hF rfl fa_123_0) fun a hF=>dv 6 rfl hF hS (y_loadRow hF rfl (fun w h=>(hx.slotsR).wd h) (by exact hi1) (show _=some (.int .i64 pt) by rw[hs];rfl) Tryz.underlying3 rfl) fun a hF=>dv 7 rfl hF hS (y_convert hF rfl (cw_ImgE_3_5 _)) fun a hF=>dq 1 [8] hF hS rfl fun a hF=>dv 9 rfl hF hS (y_loadOwn hF rfl 2 rfl rfl Tryz.underlying37 rfl) fun a hF=>dq 1 [10] hF hS rfl fun a hF=>dv 11 rfl hF hS (y_indexS hF rfl rfl (by exact hi1) Tryz.underlying37 sz_123 (fun w h=>(hx.slotsR).wd h)) fun a hF=>dv 12 rfl hF hS (y_fieldRow hF rfl fa_123_1) fun a hF=>dv 13 rfl hF hS (y_loadRow hF rfl (fun w h=>(hx.slotsR).wd h) (by exact hi1) (show _=some (.int .i64 tk) by rw[hs];rfl) Tryz.underlying3 rfl) fun a hF=>dv 14 rfl hF hS (y_convert hF rfl (cw_ImgE_3_5 _)) fun a hF=>d_1 15 Kr<|d_op rfl rfl<|e_buildSlice hF hW rfl (fun w=>bs_ImgE_66_2_0_1 _ _ w) rfl rfl rfl fun b32 a wc hF hW=>ai (hW.ds [0,0] rfl) fun hS=>d_1 16 Kr<|d_op rfl rfl<|e_append hF hW 1 rfl rfl rfl Tryz.underlying66 inf_5 rfl Dc (rowAt_blk (hW.blk 0 rfl) 1 2 rfl) Oc (show _=(H2++[byt pt,byt tk]).length by simp) (show _=bcs (H2++[byt pt,byt tk]) by rw[bcs_app];rfl) Ox Ml rfl rfl fun A33 c34 a wc hF hW=>ai (hW.ds [0,0] rfl) fun hS=>dq 1 [17] hF hS rfl fun a hF=>?_;clear hS;refine d_nil Kr ?_;replace hF:=hF.ks [0,1,2,3,4,9,10,20,97,135] rfl;refine b_n<|t_n<|c_r<|pq 1 hF rfl fun a hF=>pv hF hW (y_add hF rfl rfl (IntWalk.i64_in _ Om)) fun a hF=>pq 1 hF rfl fun a hF=>l_nil ?_;replace hW:=hW.del 0 rfl;refine t_n ?_;refine⟨(i+1,H2++[byt pt,byt tk],A33,c34),?_,?_,?_,?_⟩
 exact⟨by omega,by rw[hH20,takeB_flat S0 _ hi1,hs];simp[sltB]⟩
 first|omega|(dsimp only;omega)
 exact hF.a2 rfl rfl rfl
 exact hW
 refine l_nil<|t_n<|c_f hF rfl<|wp_exit<|t_x<|t_x<|b_h<|t_n ?_
 have hE:H2=imgL x.sys:=(by rw[hie,hH20,hH0,hF0,show j=x.chans.length by omega,show i=x.slots.length by omega,List.take_of_length_le (Nat.le_refl _),List.take_of_length_le (Nat.le_refl _)];simp[encB8])
 have hpos:0<H2.length:=(by rw[hH20,List.length_append,List.length_append,List.length_cons];omega)
 refine c_sr<|pq 1 hF rfl fun a hF=>pv hF hW (y_bytesStr hF rfl (fun w h=>RowAt.of_own (h.row 0 rfl)) (by exact hpos) Tryz.underlying66 Tryz.underlying5 Tryz.underlying9) fun a hF=>pq 1 hF rfl fun a hF=>l_nil<|t_n<|wp_ret<|ret1 Tryz.results70 hF (rv_t hF rfl) ?_
 exact⟨by rw[hE],hW.below⟩
end Go.Proofs.YtndcjmopebcdgaaGreatDoor
