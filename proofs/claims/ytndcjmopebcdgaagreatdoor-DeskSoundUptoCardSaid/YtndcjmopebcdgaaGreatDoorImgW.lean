/- image.Write: a pen writes bytes. -/
import Derived.Test.YtndcjmopebcdgaaGreatDoorSkB
import Derived.Test.YtndcjmopebcdgaaGreatDoorImgP
import Derived.Test.YtndcjmopebcdgaaGreatDoorConfC1
set_option linter.unusedSimpArgs false
set_option linter.unusedVariables false
namespace Go.Proofs.YtndcjmopebcdgaaGreatDoor
open Go.ChangeShapes Go.WideShapes Go.ChangeAt Go.RowKit
theorem cw_ImgW_3_5(n:Int)(w:World):(convert 3 5 (.int .i64 n)).run Tryz.prog w=.ok (.int .u8 ((byt n).toNat:Int)) w:=by
 rw[←byt_wrap]
 simp[convert,run_underlying Tryz.underlying3,run_underlying Tryz.underlying5,Conv.intToInt]
theorem bs_ImgW_41_1_0(x0:Int)(w:World):(Instr.buildSlice 41 1 #[(0,(.int .i64 x0))]).run Tryz.prog w=.ok (.slice (some ⟨w.heap.size,0,none⟩) 1 1) (w.alloc (.cells #[(.int .i64 x0)] 3)):=by kernel_rfl
theorem bs_ImgW_41_2_0_1(x0:Int)(x1:Int)(w:World):(Instr.buildSlice 41 2 #[(0,(.int .i64 x0)),(1,(.int .i64 x1))]).run Tryz.prog w=.ok (.slice (some ⟨w.heap.size,0,none⟩) 2 2) (w.alloc (.cells #[(.int .i64 x0),(.int .i64 x1)] 3)):=by kernel_rfl
theorem bs_ImgW_41_3_0_1_2(x0:Int)(x1:Int)(x2:Int)(w:World):(Instr.buildSlice 41 3 #[(0,(.int .i64 x0)),(1,(.int .i64 x1)),(2,(.int .i64 x2))]).run Tryz.prog w=.ok (.slice (some ⟨w.heap.size,0,none⟩) 3 3) (w.alloc (.cells #[(.int .i64 x0),(.int .i64 x1),(.int .i64 x2)] 3)):=by kernel_rfl
theorem bs_ImgW_66_1_0(x0:Int)(w:World):(Instr.buildSlice 66 1 #[(0,(.int .u8 x0))]).run Tryz.prog w=.ok (.slice (some ⟨w.heap.size,0,none⟩) 1 1) (w.alloc (.cells #[(.int .u8 x0)] 5)):=by kernel_rfl
theorem bu_ImgW_115_(w:World):(Instr.build 115 #[]).run Tryz.prog w=.ok (.agg #[(.slice none 0 0)]) w:=by kernel_rfl
set_option maxRecDepth 100000
abbrev rowU(A:Option Addr)(c:Nat)(L:List UInt8):Asn:=.row 5 1 (.slice A L.length c) L.length (bcs L)
abbrev penB(bp:Nat)(A:Option Addr)(c:Nat)(L:List UInt8):Asn:=.blk bp 115 [.slice A L.length c]
theorem bytes_in{w:World}{X:Nat→Prop}{bp:Nat}{A A2:Option Addr}{c c2:Nat}{L:List UInt8}{M:List Int}(hW:Wd w X [penB bp A c L,rowU A c L] w)(hM:∀u,Wd w X [] u→RowAt u 1 A2 M.length (M.map (.int .i64)))(hb:L.length+M.length≤100000):
  Calls Tryz.prog 47 #[.pointer (some ⟨bp,0,none⟩),.slice A2 M.length c2] w fun e w'=>∃A' c',e=.returned (.tuple #[])∧Wd w X [penB bp A' c' (L++M.map byt),rowU A' c' (L++M.map byt)] w':=by
 have hR:=rfs_ints hM
 refine enter Tryz.func47 rfl Tryz.ntmps47 rfl fun a hF=>c_sr<|pq 3 hF rfl fun a hF=>l_nil<|t_n<|wp_block ?_;replace hW:=hW.fs [1,1] rfl;refine c_loop (G:=Nat×List UInt8×Option Addr×Nat) (fun⟨k,F,B,d⟩=>[(8,.int .i64 (k:Int))]) (fun⟨k,F,B,d⟩=>[penB bp B d F,rowU B d F]) (fun⟨k,F,B,d⟩=>k≤M.length∧F=L++(M.take k).map byt) (fun⟨k,F,B,d⟩=>M.length - k) (0,L,A,c) (hF.ks [0,1,6,7] rfl) (Fr.cons hF (t:=8) rfl Rg (Fr.nil hF)) (hW) ?_ ?_
 exact⟨by omega,by simp⟩
 clear hF hW
 try clear a
 intro gq a wc hC hF hW
 obtain⟨k,F,B,d⟩:=gq
 dsimp only at hC
 obtain⟨hkl,hF0⟩:=hC
 refine c_sr<|pq 1 hF rfl fun a hF=>?_;refine Fr.splitD hF (fun h1 hF=>?_) (fun h1 hF=>?_);refine l_nil<|t_n<|c_s<|c_t hF rfl<|wp_skip<|t_n<|c_s<|wp_block ?_
 have hk1:k<M.length:=Om
 have hFl:F.length=L.length+k:=(by rw[hF0,List.length_append,List.length_map,List.length_take];omega)
 refine c_sr<|pv hF hW (y_indexS hF rfl rfl (by exact hk1) Tryz.underlying41 sz_3 (fun w h=>(hR).wd h)) fun a hF=>pv hF hW (y_loadRow hF rfl (fun w h=>(hR).wd h) (by exact hk1) rfl Tryz.underlying3 rfl) fun a hF=>pq 1 hF rfl fun a hF=>ltr<|pq 4 hF rfl fun a hF=>pv hF hW (y_loadOwn hF rfl 0 rfl rfl Tryz.underlying66 rfl) fun a hF=>pq 1 hF rfl fun a hF=>pv hF hW (y_convert hF rfl (cw_ImgW_3_5 _)) fun a hF=>pe<|e_buildSlice hF hW rfl (fun w=>bs_ImgW_66_1_0 _ w) rfl rfl rfl fun b2 a wc hF hW=>pe<|e_append hF hW 2 rfl rfl rfl Tryz.underlying66 inf_5 rfl Dc (rowAt_blk (hW.blk 0 rfl) 1 1 rfl) Oc (show _=(F++[byt (M.getD k 0)]).length by simp) (show _=bcs (F++[byt (M.getD k 0)]) by rw[bcs_app];rfl) Ox Ml rfl rfl fun A3 c4 a wc hF hW=>pq 2 hF rfl fun a hF=>pe<|e_store rfl hF hW rfl rfl 1 rfl rfl rfl sz_66 fun wc hW=>l_nil<|b_n<|t_n<|c_r<|pv hF hW (y_add hF rfl rfl (IntWalk.i64_in _ Om)) fun a hF=>pq 1 hF rfl fun a hF=>l_nil ?_;replace hF:=hF.ks [0,1,5,6,7,8,9] rfl;replace hW:=hW.del 0 rfl;refine t_n ?_;refine⟨(k+1,F++[byt (M.getD k 0)],A3,c4),?_,?_,?_,?_⟩
 exact⟨by omega,by rw[hF0,takeB_getD hk1,List.map_append,List.append_assoc];rfl⟩
 first|omega|(dsimp only;omega)
 exact hF.a1 rfl rfl
 exact hW
 refine l_nil<|t_n<|c_s<|c_f hF rfl<|wp_exit<|t_x<|t_x<|b_h<|end0 Tryz.results47 hF ?_
 rw[show k=M.length by omega,List.take_of_length_le (Nat.le_refl _)] at hF0
 subst hF0
 exact⟨_,_,rfl,hW⟩
theorem bytes_call{w0 w:World}{X:Nat→Prop}{es:List Asn}{bp:Nat}{A A2:Option Addr}{c c2 m:Nat}{L:List UInt8}{M:List Int}(hW:Wd w0 X (penB bp A c L::rowU A c L::es) w)(hM:∀u,Wd w0 X es u→RowAt u 1 A2 m (M.map (.int .i64)))(hm:m=M.length)(hb:L.length+M.length≤100000):
  Calls Tryz.prog 47 #[.pointer (some ⟨bp,0,none⟩),.slice A2 m c2] w fun e w'=>∃A' c',e=.returned (.tuple #[])∧Wd w0 X (penB bp A' c' (L++M.map byt)::rowU A' c' (L++M.map byt)::es) w':=by
 subst hm
 obtain⟨X',hL,hback⟩:=Own.lendI [_,_] hW
 refine(bytes_in hL (fun u h=>hM u (hback _ _ h)) hb).mono ?_
 rintro e w' ⟨A',c',rfl,hN⟩
 exact⟨A',c',rfl,hback _ _ hN⟩
set_option maxHeartbeats 4000000 in
theorem num_in{w:World}{X:Nat→Prop}{bp:Nat}{A:Option Addr}{c:Nat}{L:List UInt8}{n:Int}(hW:Wd w X [penB bp A c L,rowU A c L] w)(hb:L.length≤90000):
  Calls Tryz.prog 48 #[.pointer (some ⟨bp,0,none⟩),.int .i64 n] w fun e w'=>∃A' c',e=.returned (.tuple #[])∧Wd w X [penB bp A' c' (L++num8 n),rowU A' c' (L++num8 n)] w':=by
 refine enter Tryz.func48 rfl Tryz.ntmps48 rfl fun a hF=>c_sr<|pq 1 hF rfl fun a hF=>l_nil<|t_n<|wp_block ?_;replace hW:=hW.fs [1,1] rfl;refine c_loop (G:=Nat×List UInt8×Option Addr×Nat) (fun⟨k,F,B,d⟩=>[(4,.int .i64 (56 - 8*(k:Int)))]) (fun⟨k,F,B,d⟩=>[penB bp B d F,rowU B d F]) (fun⟨k,F,B,d⟩=>k≤8∧F=L++(num8 n).take k) (fun⟨k,F,B,d⟩=>8 - k) (0,L,A,c) (hF.ks [0,1] rfl) (Fr.cons hF (t:=4) rfl Rg (Fr.nil hF)) (hW) ?_ ?_
 exact⟨by omega,by simp⟩
 clear hF hW
 try clear a
 intro gq a wc hC hF hW
 obtain⟨k,F,B,d⟩:=gq
 dsimp only at hC
 obtain⟨hkl,hF0⟩:=hC
 refine c_s<|c_sr<|pq 2 hF rfl fun a hF=>?_;refine Fr.splitD hF (fun h1 hF=>?_) (fun h1 hF=>?_);refine l_nil<|t_n<|c_t hF rfl<|wp_skip<|t_n<|c_s<|wp_block ?_
 have hk8:k<8:=Om
 have hFl:F.length=L.length+k:=(by rw[hF0,List.length_append,List.length_take,num8_len];omega)
 refine c_r<|pq 3 hF rfl fun a hF=>?_;replace hF:=Fr.cast (v':=.int .i64 ((56 - 8*k:Nat):Int)) (by congr 1;omega) hF;refine pv hF hW (y_shr hF rfl rfl (by show _≤64;omega)) fun a hF=>pe<|e_buildSlice hF hW rfl (fun w=>bs_ImgW_41_1_0 _ w) rfl rfl rfl fun b2 a wc hF hW=>?_;refine pe (e_callA hF rfl rfl en_47 Rl (bytes_call (M:=[n/2 ^(56 - 8*k)]) ((hW.front 2 rfl rfl).front 2 rfl rfl) (fun _ h=>rowAt_blk (h.blk 0 rfl) 1 1 rfl) rfl (by simp only[List.length_cons,List.length_nil];omega)) ?_);rintro e w1 ⟨A3,c3,rfl,hN⟩;replace hW:=hN;refine⟨_,rfl,fun a hF=>?_⟩;refine l_nil<|b_n<|t_n<|c_r<|pq 1 hF rfl fun a hF=>pv hF hW (y_sub hF rfl rfl (IntWalk.i64_in _ Om)) fun a hF=>pq 1 hF rfl fun a hF=>l_nil ?_;replace hW:=hW.del 2 rfl;refine t_n ?_;refine⟨(k+1,F++[byt (n/2 ^(56 - 8*k))],A3,c3),?_,?_,?_,?_⟩
 exact⟨by omega,by rw[hF0,num8_take n hk8,List.append_assoc]⟩
 first|omega|(dsimp only;omega)
 exact Fr.app (Fr.cons hF (t:=4) rfl (by first|rfl|(congr 1;omega)|(simp;done)|omega) (Fr.nil hF)) (hF.ks [0,1] rfl)
 exact hW
 refine l_nil<|t_n<|c_f hF rfl<|wp_exit<|t_x<|t_x<|b_h<|end0 Tryz.results48 hF ?_
 rw[show k=8 by omega,List.take_of_length_le (by rw[num8_len];exact Nat.le_refl _)] at hF0
 subst hF0
 exact⟨_,_,rfl,hW⟩
theorem num_call{w0 w:World}{X:Nat→Prop}{es:List Asn}{bp:Nat}{A:Option Addr}{c:Nat}{L:List UInt8}{n:Int}(hW:Wd w0 X (penB bp A c L::rowU A c L::es) w)(hb:L.length≤90000):
  Calls Tryz.prog 48 #[.pointer (some ⟨bp,0,none⟩),.int .i64 n] w fun e w'=>∃A' c',e=.returned (.tuple #[])∧Wd w0 X (penB bp A' c' (L++num8 n)::rowU A' c' (L++num8 n)::es) w':=by
 obtain⟨X',hL,hback⟩:=Own.lendI [_,_] hW
 refine(num_in hL hb).mono ?_
 rintro e w' ⟨A',c',rfl,hN⟩
 exact⟨A',c',rfl,hback _ _ hN⟩
structure ImgSz(x:SysD):Prop where
 np:x.parts.length≤4
 nc:x.chans.length≤6
 ns:x.slots.length≤6
 pos:1≤x.parts.length
 part:∀q,q∈x.parts→q.1.code.length≤20∧q.1.inp.length≤12
theorem imgSz{x:SysD}(h:chkSys x.sys=0):ImgSz x:=by
 obtain⟨h1,h2,-⟩:=chkSys_zero h
 obtain⟨⟨hp1,hp2⟩,hc6,⟨hs1,hs2⟩,hin⟩:=sizes_get h1
 refine⟨hp2,hc6,hs2,hp1,fun q hq=>⟨?_,?_⟩⟩
 ·exact(chkCode_all (firstCode_zeroI h2 q.1 (List.mem_map.2 ⟨q,hq,rfl⟩))).1.2
 ·obtain⟨k,hk,rfl⟩:=List.mem_iff_getElem.1 hq
  have:=hin k hk
  rwa [List.getD,List.getElem?_eq_getElem hk] at this
def parB(x:SysD)(k:Nat):List UInt8:=byt (x.parts.length:Int)::(x.parts.take k).flatMap (fun q=>prtB q.1)
theorem parB_succ{x:SysD}{k:Nat}{q:PP}(hk:k<x.parts.length)(hq:x.parts.getD k P0=q):parB x (k+1)=parB x k++prtB q.1:=by
 unfold parB
 rw[takeB_flat P0 _ hk,hq]
 rfl
theorem parB_len{x:SysD}(h:ImgSz x){k:Nat}:(parB x k).length≤1300:=by
 have h1:=rowsB_len (f:=fun q:PP=>prtB q.1) (n:=318) (x.parts.take k) fun q hq=>prtB_len (h.part q (List.mem_of_mem_take hq)).1 (h.part q (List.mem_of_mem_take hq)).2
 have h2:=h.np
 unfold parB
 rw[List.length_cons]
 rw[List.length_take] at h1
 omega
theorem imgL_eq(x:SysD):imgL x.sys=(parB x x.parts.length++encB8 chnB x.chans)++encB8 sltB x.slots:=by
 unfold imgL parB encB8
 rw[List.take_of_length_le (Nat.le_refl _)]
 show byt ((x.parts.map Prod.fst).length:Int)::(x.parts.map Prod.fst).flatMap prtB++(byt (x.chans.length:Int)::x.chans.flatMap chnB++(byt (x.slots.length:Int)::x.slots.flatMap sltB))=_
 rw[List.length_map,List.flatMap_map]
 simp
set_option maxHeartbeats 32000000 in
theorem imageWrite_any{x:SysD}{w:World}(hx:x.At w):Calls Tryz.prog 14 #[x.val] w fun e w'=>e=.returned (.tuple #[.string (bstr (imgOr x.sys)),.int .i64 (chkSys x.sys)])∧Below w.heap.size w w':=by
 have hck:=fun w1 (hb:Below w.heap.size w w1)=>confCheck_any (hx.below hb)
 unfold imgOr
 by_cases h0:chkSys x.sys=0
 ·have hz:=imgSz h0
  have hnp:=hz.np
  have hnc:=hz.nc
  have hns:=hz.ns
  rw[h0] at hck⊢
  rw[if_pos rfl]
  have hie:=imgL_eq x
  have hpl:=fun k=>parB_len hz (k:=k)
  rw[x.val_eq] at*
  refine enter Tryz.func14 rfl Tryz.ntmps14 rfl fun a hF=>?_
  have hW:=Wd.start w NoB
  refine c_sr<|pe<|e_box hF hW rfl rfl rfl rfl fun b1 a wc hF hW=>pq 2 hF rfl fun a hF=>l_nil<|t_n<|c_s<|c_sr<|pv hF hW (y_loadAll hF rfl 0 rfl Tryz.underlying39 rfl sz_39) fun a hF=>pe<|e_callK hF hW rfl rfl en_46 Rl (hck _ hW.below) fun a w1 hW hF=>pq 1 hF rfl fun a hF=>lts<|pq 2 hF rfl fun a hF=>?_;replace hF:=hF.ff;refine l_nil<|t_n<|c_f hF rfl<|wp_skip<|t_n<|c_sr<|pv hF hW (y_build hF rfl (fun w=>bu_ImgW_115_ w)) fun a hF=>pe<|e_box hF hW rfl rfl rfl rfl fun b2 a wc hF hW=>pq 1 hF rfl fun a hF=>l_nil<|t_n ?_;replace hW:=hW.nil_row 5 1;refine c_sr<|pq 2 hF rfl fun a hF=>pv hF hW (y_loadOwn hF rfl 2 rfl rfl Tryz.underlying35 rfl) fun a hF=>pq 1 hF rfl fun a hF=>pe<|e_buildSlice hF hW rfl (fun w=>bs_ImgW_41_1_0 _ w) rfl rfl rfl fun b3 a wc hF hW=>?_;refine pe (e_callA hF rfl rfl en_47 Rl (bytes_call (L:=[]) (M:=[(x.parts.length:Int)]) ((hW.front 1 rfl rfl).front 2 rfl rfl) (fun _ h=>rowAt_blk (h.blk 0 rfl) 1 1 rfl) rfl Si) ?_);rintro e w1 ⟨A3,c3,rfl,hN⟩;replace hW:=hN;refine⟨_,rfl,fun a hF=>?_⟩;refine l_nil<|t_n<|c_s<|c_sr<|pq 1 hF rfl fun a hF=>pv hF hW (y_loadOwn hF rfl 3 rfl rfl Tryz.underlying35 rfl) fun a hF=>pq 2 hF rfl fun a hF=>l_nil<|t_n<|wp_block ?_;replace hW:=hW.fs [1,1] rfl;refine c_loop (G:=Nat×List UInt8×Option Addr×Nat) (fun⟨k,F,A,c⟩=>[(32,.int .i64 (k:Int))]) (fun⟨k,F,A,c⟩=>[penB b2 A c F,rowU A c F]) (fun⟨k,F,A,c⟩=>k≤x.parts.length∧F=parB x k) (fun⟨k,F,A,c⟩=>x.parts.length - k) (0,[byt (x.parts.length:Int)],A3,c3) (hF.ks [0,1,2,3,4,5,19,30,31] rfl) (Fr.cons hF (t:=32) rfl Rg (Fr.nil hF)) (hW) ?_ ?_
  exact⟨by omega,rfl⟩
  clear hF hW
  try clear a
  intro gq a wc hC hF hW
  obtain⟨k,F,A,c⟩:=gq
  dsimp only at hC
  obtain⟨hkl,hF0⟩:=hC
  refine c_sr<|pq 1 hF rfl fun a hF=>?_;refine Fr.splitD hF (fun h4 hF=>?_) (fun h4 hF=>?_);refine l_nil<|t_n<|c_s<|c_t hF rfl<|wp_skip<|t_n<|c_s<|wp_block ?_
  have hk1:k<x.parts.length:=Om
  obtain⟨q,hq⟩:∃q,x.parts.getD k P0=q:=⟨_,rfl⟩
  have hqc:=hx.codeR hk1
  have hqi:=hx.inpR hk1
  have hqz:=hz.part q (by rw[←hq];exact mem_getD P0 hk1)
  have hFl:F.length≤1300:=(by rw[hF0];exact hpl k)
  rw[hq] at hqc hqi
  obtain⟨⟨code,inp⟩,⟨ca,cc,ia,ic⟩⟩:=q
  dsimp only at hqc hqi hqz
  obtain⟨hq20,hq12⟩:=hqz
  refine c_sr<|pv hF hW (y_indexS hF rfl rfl (by exact hk1) Tryz.underlying35 sz_43 (fun w h=>(hx.partsR).wd h)) fun a hF=>pv hF hW (y_loadRowW hF rfl (fun w h=>(hx.partsR).wd h) (by exact hk1) Tryz.underlying43 rfl (by rw[hq];exact sz_43)) fun a hF=>?_;replace hF:=Fr.cast (v':=.agg #[.slice ca code.length cc,.slice ia inp.length ic]) (by rw[hq];rfl) hF;refine pe<|e_alloc hF hW ze_43 rfl rfl rfl fun b5 a wc hF hW=>pe<|e_storeAll rfl hF hW rfl rfl 0 rfl rfl rfl Kr sz_43 fun wc hW=>lts<|pq 2 hF rfl fun a hF=>pv hF hW (y_loadOwn hF rfl 0 rfl rfl Tryz.underlying40 rfl) fun a hF=>pq 1 hF rfl fun a hF=>pe<|e_buildSlice hF hW rfl (fun w=>bs_ImgW_41_1_0 _ w) rfl rfl rfl fun b6 a wc hF hW=>?_;refine pe (e_callA hF rfl rfl en_47 Rl (bytes_call (M:=[(code.length:Int)]) ((hW.front 3 rfl rfl).front 3 rfl rfl) (fun _ h=>rowAt_blk (h.blk 0 rfl) 1 1 rfl) rfl (by simp only[List.length_cons,List.length_nil];omega)) ?_);rintro e w1 ⟨A4,c4,rfl,hN⟩;replace hW:=hN;refine⟨_,rfl,fun a hF=>?_⟩;refine l_nil<|t_n<|c_s<|c_sr<|pq 1 hF rfl fun a hF=>pv hF hW (y_loadOwn hF rfl 3 rfl rfl Tryz.underlying40 rfl) fun a hF=>pq 2 hF rfl fun a hF=>l_nil<|t_n<|wp_block ?_;replace hW:=hW.fs [1,1] rfl;refine c_loop (G:=Nat×List UInt8×Option Addr×Nat) (fun⟨j,H,B,d⟩=>[(45,.int .i64 (j:Int))]) (fun⟨j,H,B,d⟩=>[penB b2 B d H,rowU B d H]) (fun⟨j,H,B,d⟩=>j≤code.length∧H=(F++[byt (code.length:Int)])++(code.take j).flatMap insB) (fun⟨j,H,B,d⟩=>code.length - j) (0,F++[byt (code.length:Int)],A4,c4) (hF.ks [0,1,2,3,4,5,7,19,30,31,32,33,43,44] rfl) (Fr.cons hF (t:=45) rfl Rg (Fr.nil hF)) (hW) ?_ ?_
  exact⟨by omega,by simp⟩
  clear hF hW
  try clear a
  intro gq a wc hC hF hW
  obtain⟨j,H,B,d⟩:=gq
  dsimp only at hC
  obtain⟨hjl,hH0⟩:=hC
  refine c_sr<|pq 1 hF rfl fun a hF=>?_;refine Fr.splitD hF (fun h7 hF=>?_) (fun h7 hF=>?_);refine l_nil<|t_n<|c_s<|c_t hF rfl<|wp_skip<|t_n<|c_s<|wp_block ?_
  have hj1:j<code.length:=Om
  obtain⟨i0,hi⟩:∃i,code.getD j I0=i:=⟨_,rfl⟩
  obtain⟨op,ra,rb,n⟩:=i0
  have hHl:=rowsB_len (f:=insB) (n:=11) (code.take j) fun q _=>Nat.le_of_eq (insB_len q)
  rw[List.length_take] at hHl
  have hHl2:=congrArg List.length hH0
  simp only[List.length_append,List.length_cons,List.length_nil] at hHl2
  refine c_sr<|pv hF hW (y_indexS hF rfl rfl (by exact hj1) Tryz.underlying40 sz_118 (fun w h=>(hqc).wd h)) fun a hF=>pv hF hW (y_loadRowW hF rfl (fun w h=>(hqc).wd h) (by exact hj1) Tryz.underlying118 rfl (by rw[hi];exact sz_118)) fun a hF=>?_;replace hF:=Fr.cast (v':=.agg #[.int .i64 op,.int .i64 ra,.int .i64 rb,.int .i64 n]) (by rw[hi];rfl) hF;refine pe<|e_alloc hF hW ze_118 rfl rfl rfl fun b8 a wc hF hW=>pe<|e_storeAll rfl hF hW rfl rfl 0 rfl rfl rfl Kr sz_118 fun wc hW=>lts<|pq 2 hF rfl fun a hF=>pv hF hW (y_loadOwn hF rfl 0 rfl rfl Tryz.underlying3 rfl) fun a hF=>pq 1 hF rfl fun a hF=>pv hF hW (y_loadOwn hF rfl 0 rfl rfl Tryz.underlying3 rfl) fun a hF=>pq 1 hF rfl fun a hF=>pv hF hW (y_loadOwn hF rfl 0 rfl rfl Tryz.underlying3 rfl) fun a hF=>pe<|e_buildSlice hF hW rfl (fun w=>bs_ImgW_41_3_0_1_2 _ _ _ w) rfl rfl rfl fun b9 a wc hF hW=>?_;refine pe (e_callA hF rfl rfl en_47 Rl (bytes_call (M:=[op,ra,rb]) ((hW.front 3 rfl rfl).front 3 rfl rfl) (fun _ h=>rowAt_blk (h.blk 0 rfl) 1 3 rfl) rfl (by simp only[List.length_cons,List.length_nil];omega)) ?_);rintro e w1 ⟨A5,c5,rfl,hN⟩;replace hW:=hN;refine⟨_,rfl,fun a hF=>?_⟩;refine ltr<|pq 2 hF rfl fun a hF=>pv hF hW (y_loadOwn hF rfl 3 rfl rfl Tryz.underlying3 rfl) fun a hF=>?_;refine pe (e_callA hF rfl rfl en_48 Rl (num_call (L:=H++[byt op,byt ra,byt rb]) ((hW.front 1 rfl rfl).front 1 rfl rfl) (by simp only[List.length_append,List.length_cons,List.length_nil];omega)) ?_);rintro e w1 ⟨A6,c6,rfl,hN⟩;replace hW:=hN;refine⟨_,rfl,fun a hF=>?_⟩;refine l_nil ?_;replace hF:=hF.ks [0,1,2,3,4,5,7,9,19,30,31,32,33,43,44,45,46] rfl;refine b_n<|t_n<|c_r<|pv hF hW (y_add hF rfl rfl (IntWalk.i64_in _ Om)) fun a hF=>pq 1 hF rfl fun a hF=>l_nil ?_;replace hW:=hW.ds [2,2] rfl;refine t_n ?_;refine⟨(j+1,(H++[byt op,byt ra,byt rb])++num8 n,A6,c6),?_,?_,?_,?_⟩
  exact⟨by omega,by rw[hH0,takeB_flat I0 _ hj1,hi];simp[insB]⟩
  first|omega|(dsimp only;omega)
  exact hF.a1 rfl rfl
  exact hW
  refine l_nil<|t_n<|c_s<|c_f hF rfl<|wp_exit<|t_x<|t_x<|b_h<|t_n ?_
  have hHl:=rowsB_len (f:=insB) (n:=11) (code.take j) fun q _=>Nat.le_of_eq (insB_len q)
  rw[List.length_take] at hHl
  have hHl2:=congrArg List.length hH0
  simp only[List.length_append,List.length_cons,List.length_nil] at hHl2
  refine c_sr<|pq 2 hF rfl fun a hF=>pv hF hW (y_loadOwn hF rfl 3 rfl rfl Tryz.underlying41 rfl) fun a hF=>pq 1 hF rfl fun a hF=>pe<|e_buildSlice hF hW rfl (fun w=>bs_ImgW_41_1_0 _ w) rfl rfl rfl fun b10 a wc hF hW=>?_;refine pe (e_callA hF rfl rfl en_47 Rl (bytes_call (M:=[(inp.length:Int)]) ((hW.front 2 rfl rfl).front 2 rfl rfl) (fun _ h=>rowAt_blk (h.blk 0 rfl) 1 1 rfl) rfl (by simp only[List.length_cons,List.length_nil];omega)) ?_);rintro e w1 ⟨A7,c7,rfl,hN⟩;replace hW:=hN;refine⟨_,rfl,fun a hF=>?_⟩;refine lts<|pq 1 hF rfl fun a hF=>pv hF hW (y_loadOwn hF rfl 4 rfl rfl Tryz.underlying41 rfl) fun a hF=>pq 2 hF rfl fun a hF=>l_nil<|t_n<|wp_block ?_;replace hW:=hW.fs [1,1] rfl;refine c_loop (G:=Nat×List UInt8×Option Addr×Nat) (fun⟨i,H2,B2,d2⟩=>[(72,.int .i64 (i:Int))]) (fun⟨i,H2,B2,d2⟩=>[penB b2 B2 d2 H2,rowU B2 d2 H2]) (fun⟨i,H2,B2,d2⟩=>i≤inp.length∧H2=(H++[byt (inp.length:Int)])++(inp.take i).flatMap num8) (fun⟨i,H2,B2,d2⟩=>inp.length - i) (0,H++[byt (inp.length:Int)],A7,c7) (hF.ks [0,1,2,3,4,5,7,19,30,31,32,33,43,44,45,46,70,71] rfl) (Fr.cons hF (t:=72) rfl Rg (Fr.nil hF)) (hW) ?_ ?_
  exact⟨by omega,by simp⟩
  clear hF hW
  try clear a
  intro gq a wc hC hF hW
  obtain⟨i,H2,B2,d2⟩:=gq
  dsimp only at hC
  obtain⟨hil,hH20⟩:=hC
  refine c_sr<|pq 1 hF rfl fun a hF=>?_;refine Fr.splitD hF (fun h11 hF=>?_) (fun h11 hF=>?_);refine l_nil<|t_n<|c_s<|c_t hF rfl<|wp_skip<|t_n<|c_s<|wp_block ?_
  have hi1:i<inp.length:=Om
  have hIl:=rowsB_len (f:=num8) (n:=8) (inp.take i) fun q _=>Nat.le_of_eq (num8_len q)
  rw[List.length_take] at hIl
  have hIl2:=congrArg List.length hH20
  simp only[List.length_append,List.length_cons,List.length_nil] at hIl2
  refine c_sr<|pv hF hW (y_indexS hF rfl rfl (by exact hi1) Tryz.underlying41 sz_3 (fun w h=>(hqi).wd h)) fun a hF=>pv hF hW (y_loadRow hF rfl (fun w h=>(hqi).wd h) (by exact hi1) rfl Tryz.underlying3 rfl) fun a hF=>pq 1 hF rfl fun a hF=>ltr<|pq 2 hF rfl fun a hF=>?_;refine pe (e_callA hF rfl rfl en_48 Rl (num_call (L:=H2) ((hW.front 1 rfl rfl).front 1 rfl rfl) Om) ?_);rintro e w1 ⟨A8,c8,rfl,hN⟩;replace hW:=hN;refine⟨_,rfl,fun a hF=>?_⟩;refine l_nil<|b_n<|t_n<|c_r<|pv hF hW (y_add hF rfl rfl (IntWalk.i64_in _ Om)) fun a hF=>pq 1 hF rfl fun a hF=>l_nil<|t_n ?_;refine⟨(i+1,H2++num8 (inp.getD i 0),A8,c8),?_,?_,?_,?_⟩
  exact⟨by omega,by rw[hH20,takeB_flat 0 _ hi1,List.append_assoc]⟩
  first|omega|(dsimp only;omega)
  exact hF.a1 rfl rfl
  exact hW
  refine l_nil<|t_n<|c_s<|c_f hF rfl<|wp_exit<|t_x<|t_x<|b_h<|b_n<|t_n<|c_r<|pv hF hW (y_add hF rfl rfl (IntWalk.i64_in _ Om)) fun a hF=>pq 1 hF rfl fun a hF=>l_nil ?_;replace hW:=hW.ds [2,2,2] rfl;refine t_n ?_;refine⟨(k+1,H2,B2,d2),?_,?_,?_,?_⟩
  exact⟨by omega,by rw[parB_succ hk1 hq,←hF0,hH20,hH0,show j=code.length by omega,show i=inp.length by omega,List.take_of_length_le (Nat.le_refl _),List.take_of_length_le (Nat.le_refl _)];simp[prtB,encB8]⟩
  first|omega|(dsimp only;omega)
  exact hF.a1 rfl rfl
  exact hW
  refine l_nil<|t_n<|c_s<|c_f hF rfl<|wp_exit<|t_x<|t_x<|b_h<|t_n ?_
  have hFl:F.length≤1300:=(by rw[hF0];exact hpl k)
  rw[show k=x.parts.length by omega] at hF0
  refine c_sr<|pq 2 hF rfl fun a hF=>pv hF hW (y_loadOwn hF rfl 3 rfl rfl Tryz.underlying36 rfl) fun a hF=>pq 1 hF rfl fun a hF=>pe<|e_buildSlice hF hW rfl (fun w=>bs_ImgW_41_1_0 _ w) rfl rfl rfl fun b12 a wc hF hW=>?_;refine pe (e_callA hF rfl rfl en_47 Rl (bytes_call (M:=[(x.chans.length:Int)]) ((hW.front 2 rfl rfl).front 2 rfl rfl) (fun _ h=>rowAt_blk (h.blk 0 rfl) 1 1 rfl) rfl (by simp only[List.length_cons,List.length_nil];omega)) ?_);rintro e w1 ⟨A4,c4,rfl,hN⟩;replace hW:=hN;refine⟨_,rfl,fun a hF=>?_⟩;refine l_nil<|t_n<|c_s<|c_sr<|pq 1 hF rfl fun a hF=>pv hF hW (y_loadOwn hF rfl 4 rfl rfl Tryz.underlying36 rfl) fun a hF=>pq 2 hF rfl fun a hF=>l_nil<|t_n<|wp_block ?_;replace hW:=hW.fs [1,1] rfl;refine c_loop (G:=Nat×List UInt8×Option Addr×Nat) (fun⟨j,H,B,d⟩=>[(90,.int .i64 (j:Int))]) (fun⟨j,H,B,d⟩=>[penB b2 B d H,rowU B d H]) (fun⟨j,H,B,d⟩=>j≤x.chans.length∧H=(F++[byt (x.chans.length:Int)])++(x.chans.take j).flatMap chnB) (fun⟨j,H,B,d⟩=>x.chans.length - j) (0,F++[byt (x.chans.length:Int)],A4,c4) (hF.ks [0,1,2,3,4,5,19,30,31,32,33,88,89] rfl) (Fr.cons hF (t:=90) rfl Rg (Fr.nil hF)) (hW) ?_ ?_
  exact⟨by omega,by simp⟩
  clear hF hW
  try clear a
  intro gq a wc hC hF hW
  obtain⟨j,H,B,d⟩:=gq
  dsimp only at hC
  obtain⟨hjl,hH0⟩:=hC
  refine c_sr<|pq 1 hF rfl fun a hF=>?_;refine Fr.splitD hF (fun h13 hF=>?_) (fun h13 hF=>?_);refine l_nil<|t_n<|c_s<|c_t hF rfl<|wp_skip<|t_n<|c_s<|wp_block ?_
  have hj1:j<x.chans.length:=Om
  obtain⟨i0,hi⟩:∃i,x.chans.getD j C0=i:=⟨_,rfl⟩
  obtain⟨kd,fr,tt⟩:=i0
  have hHl:=rowsB_len (f:=chnB) (n:=3) (x.chans.take j) fun q _=>Nat.le_refl _
  rw[List.length_take] at hHl
  have hHl2:=congrArg List.length hH0
  simp only[List.length_append,List.length_cons,List.length_nil] at hHl2
  refine c_sr<|pv hF hW (y_indexS hF rfl rfl (by exact hj1) Tryz.underlying36 sz_121 (fun w h=>(hx.chansR).wd h)) fun a hF=>pv hF hW (y_loadRowW hF rfl (fun w h=>(hx.chansR).wd h) (by exact hj1) Tryz.underlying121 rfl (by rw[hi];exact sz_121)) fun a hF=>?_;replace hF:=Fr.cast (v':=.agg #[.int .i64 kd,.int .i64 fr,.int .i64 tt]) (by rw[hi];rfl) hF;refine pe<|e_alloc hF hW ze_121 rfl rfl rfl fun b14 a wc hF hW=>pe<|e_storeAll rfl hF hW rfl rfl 0 rfl rfl rfl Kr sz_121 fun wc hW=>ltr<|pq 2 hF rfl fun a hF=>pv hF hW (y_loadOwn hF rfl 0 rfl rfl Tryz.underlying3 rfl) fun a hF=>pq 1 hF rfl fun a hF=>pv hF hW (y_loadOwn hF rfl 0 rfl rfl Tryz.underlying3 rfl) fun a hF=>pq 1 hF rfl fun a hF=>pv hF hW (y_loadOwn hF rfl 0 rfl rfl Tryz.underlying3 rfl) fun a hF=>pe<|e_buildSlice hF hW rfl (fun w=>bs_ImgW_41_3_0_1_2 _ _ _ w) rfl rfl rfl fun b15 a wc hF hW=>?_;refine pe (e_callA hF rfl rfl en_47 Rl (bytes_call (M:=[kd,fr,tt]) ((hW.front 3 rfl rfl).front 3 rfl rfl) (fun _ h=>rowAt_blk (h.blk 0 rfl) 1 3 rfl) rfl (by simp only[List.length_cons,List.length_nil];omega)) ?_);rintro e w1 ⟨A5,c5,rfl,hN⟩;replace hW:=hN;refine⟨_,rfl,fun a hF=>?_⟩;refine l_nil<|b_n<|t_n<|c_r<|pv hF hW (y_add hF rfl rfl (IntWalk.i64_in _ Om)) fun a hF=>pq 1 hF rfl fun a hF=>l_nil ?_;replace hW:=hW.ds [2,2] rfl;refine t_n ?_;refine⟨(j+1,H++[byt kd,byt fr,byt tt],A5,c5),?_,?_,?_,?_⟩
  exact⟨by omega,by rw[hH0,takeB_flat C0 _ hj1,hi];simp[chnB]⟩
  first|omega|(dsimp only;omega)
  exact hF.a1 rfl rfl
  exact hW
  refine l_nil<|t_n<|c_s<|c_f hF rfl<|wp_exit<|t_x<|t_x<|b_h<|t_n ?_
  have hHl:=rowsB_len (f:=chnB) (n:=3) (x.chans.take j) fun q _=>Nat.le_refl _
  rw[List.length_take] at hHl
  have hHl2:=congrArg List.length hH0
  simp only[List.length_append,List.length_cons,List.length_nil] at hHl2
  refine c_sr<|pq 2 hF rfl fun a hF=>pv hF hW (y_loadOwn hF rfl 4 rfl rfl Tryz.underlying37 rfl) fun a hF=>pq 1 hF rfl fun a hF=>pe<|e_buildSlice hF hW rfl (fun w=>bs_ImgW_41_1_0 _ w) rfl rfl rfl fun b16 a wc hF hW=>?_;refine pe (e_callA hF rfl rfl en_47 Rl (bytes_call (M:=[(x.slots.length:Int)]) ((hW.front 2 rfl rfl).front 2 rfl rfl) (fun _ h=>rowAt_blk (h.blk 0 rfl) 1 1 rfl) rfl (by simp only[List.length_cons,List.length_nil];omega)) ?_);rintro e w1 ⟨A7,c7,rfl,hN⟩;replace hW:=hN;refine⟨_,rfl,fun a hF=>?_⟩;refine l_nil<|t_n<|c_s<|c_sr<|pq 1 hF rfl fun a hF=>pv hF hW (y_loadOwn hF rfl 5 rfl rfl Tryz.underlying37 rfl) fun a hF=>pq 2 hF rfl fun a hF=>l_nil<|t_n<|wp_block ?_;replace hW:=hW.fs [1,1] rfl;refine c_loop (G:=Nat×List UInt8×Option Addr×Nat) (fun⟨i,H2,B2,d2⟩=>[(113,.int .i64 (i:Int))]) (fun⟨i,H2,B2,d2⟩=>[penB b2 B2 d2 H2,rowU B2 d2 H2]) (fun⟨i,H2,B2,d2⟩=>i≤x.slots.length∧H2=(H++[byt (x.slots.length:Int)])++(x.slots.take i).flatMap sltB) (fun⟨i,H2,B2,d2⟩=>x.slots.length - i) (0,H++[byt (x.slots.length:Int)],A7,c7) (hF.ks [0,1,2,3,4,5,19,30,31,32,33,88,89,90,91,111,112] rfl) (Fr.cons hF (t:=113) rfl Rg (Fr.nil hF)) (hW) ?_ ?_
  exact⟨by omega,by simp⟩
  clear hF hW
  try clear a
  intro gq a wc hC hF hW
  obtain⟨i,H2,B2,d2⟩:=gq
  dsimp only at hC
  obtain⟨hil,hH20⟩:=hC
  refine c_sr<|pq 1 hF rfl fun a hF=>?_;refine Fr.splitD hF (fun h17 hF=>?_) (fun h17 hF=>?_);refine l_nil<|t_n<|c_s<|c_t hF rfl<|wp_skip<|t_n<|c_s<|wp_block ?_
  have hi1:i<x.slots.length:=Om
  obtain⟨s0,hs⟩:∃s,x.slots.getD i S0=s:=⟨_,rfl⟩
  obtain⟨pt,tk⟩:=s0
  have hIl:=rowsB_len (f:=sltB) (n:=2) (x.slots.take i) fun q _=>Nat.le_refl _
  rw[List.length_take] at hIl
  have hIl2:=congrArg List.length hH20
  simp only[List.length_append,List.length_cons,List.length_nil] at hIl2
  refine c_sr<|pv hF hW (y_indexS hF rfl rfl (by exact hi1) Tryz.underlying37 sz_123 (fun w h=>(hx.slotsR).wd h)) fun a hF=>pv hF hW (y_loadRowW hF rfl (fun w h=>(hx.slotsR).wd h) (by exact hi1) Tryz.underlying123 rfl (by rw[hs];exact sz_123)) fun a hF=>?_;replace hF:=Fr.cast (v':=.agg #[.int .i64 pt,.int .i64 tk]) (by rw[hs];rfl) hF;refine pe<|e_alloc hF hW ze_123 rfl rfl rfl fun b18 a wc hF hW=>pe<|e_storeAll rfl hF hW rfl rfl 0 rfl rfl rfl Kr sz_123 fun wc hW=>ltr<|pq 2 hF rfl fun a hF=>pv hF hW (y_loadOwn hF rfl 0 rfl rfl Tryz.underlying3 rfl) fun a hF=>pq 1 hF rfl fun a hF=>pv hF hW (y_loadOwn hF rfl 0 rfl rfl Tryz.underlying3 rfl) fun a hF=>pe<|e_buildSlice hF hW rfl (fun w=>bs_ImgW_41_2_0_1 _ _ w) rfl rfl rfl fun b19 a wc hF hW=>?_;refine pe (e_callA hF rfl rfl en_47 Rl (bytes_call (M:=[pt,tk]) ((hW.front 3 rfl rfl).front 3 rfl rfl) (fun _ h=>rowAt_blk (h.blk 0 rfl) 1 2 rfl) rfl (by simp only[List.length_cons,List.length_nil];omega)) ?_);rintro e w1 ⟨A8,c8,rfl,hN⟩;replace hW:=hN;refine⟨_,rfl,fun a hF=>?_⟩;refine l_nil<|b_n<|t_n<|c_r<|pv hF hW (y_add hF rfl rfl (IntWalk.i64_in _ Om)) fun a hF=>pq 1 hF rfl fun a hF=>l_nil ?_;replace hW:=hW.ds [2,2] rfl;refine t_n ?_;refine⟨(i+1,H2++[byt pt,byt tk],A8,c8),?_,?_,?_,?_⟩
  exact⟨by omega,by rw[hH20,takeB_flat S0 _ hi1,hs];simp[sltB]⟩
  first|omega|(dsimp only;omega)
  exact hF.a1 rfl rfl
  exact hW
  refine l_nil<|t_n<|c_s<|c_f hF rfl<|wp_exit<|t_x<|t_x<|b_h<|t_n ?_
  have hE:H2=imgL x.sys:=(by rw[hie,hH20,hH0,hF0,show j=x.chans.length by omega,show i=x.slots.length by omega,List.take_of_length_le (Nat.le_refl _),List.take_of_length_le (Nat.le_refl _)];simp[encB8])
  have hpos:0<H2.length:=(by rw[hH20,List.length_append,List.length_append,List.length_cons];omega)
  refine c_sr<|pq 3 hF rfl fun a hF=>pv hF hW (y_loadOwn hF rfl 0 rfl rfl Tryz.underlying66 rfl) fun a hF=>pv hF hW (y_bytesStr hF rfl (fun w h=>RowAt.of_own (h.row 1 rfl)) (by exact hpos) Tryz.underlying66 Tryz.underlying5 Tryz.underlying9) fun a hF=>pq 2 hF rfl fun a hF=>l_nil<|t_n<|wp_ret<|ret2 Tryz.results14 hF (rv_t hF rfl) (rv_t hF rfl) ?_
  exact⟨by rw[hE],hW.below⟩
 ·rw[if_neg h0]
  generalize chkSys x.sys=E at*
  rw[x.val_eq] at*
  refine enter Tryz.func14 rfl Tryz.ntmps14 rfl fun a hF=>?_
  have hW:=Wd.start w NoB
  refine c_sr<|pe<|e_box hF hW rfl rfl rfl rfl fun b1 a wc hF hW=>pq 2 hF rfl fun a hF=>l_nil<|t_n<|c_s<|c_sr<|pv hF hW (y_loadAll hF rfl 0 rfl Tryz.underlying39 rfl sz_39) fun a hF=>pe<|e_callK hF hW rfl rfl en_46 Rl (hck _ hW.below) fun a w1 hW hF=>pq 1 hF rfl fun a hF=>lts<|pq 2 hF rfl fun a hF=>?_;refine Fr.splitD hF (fun h2 hF=>?_) (fun h2 hF=>?_);refine l_nil<|t_n<|c_t hF rfl<|c_sr<|pq 3 hF rfl fun a hF=>l_nil<|t_n<|wp_ret<|t_r<|ret2 Tryz.results14 hF (rv_t hF rfl) (rv_t hF rfl) ?_
  exact⟨rfl,hW.below⟩
  exfalso
  exact h2 h0
end Go.Proofs.YtndcjmopebcdgaaGreatDoor
