/- The reference's eye and ImageFrom. -/
import Derived.Test.YtndcjmopebcdgaaGreatDoorImgE
import Derived.Test.YtndcjmopebcdgaaGreatDoorDkB
import Derived.Test.YtndcjmopebcdgaaGreatDoorSysRef
set_option linter.unusedSimpArgs false
set_option linter.unusedVariables false
namespace Go.Proofs.YtndcjmopebcdgaaGreatDoor
open Go.ChangeShapes Go.WideShapes Go.ChangeAt Go.RowKit
theorem ck_ImgF_5_3(n:Int)(h: -9223372036854775808≤n∧n≤9223372036854775807)(w:World):(convert 5 3 (.int .u8 n)).run Tryz.prog w=.ok (.int .i64 n) w:=by
 have:=IntWalk.i64_in n h
 simp[convert,run_underlying Tryz.underlying5,run_underlying Tryz.underlying3,Conv.intToInt,this]
theorem bs_ImgF_35_1_0(x0:Option Addr)(x0n x0c:Nat)(x1:Option Addr)(x1n x1c:Nat)(w:World):(Instr.buildSlice 35 1 #[(0,(.agg #[(.slice x0 x0n x0c),(.slice x1 x1n x1c)]))]).run Tryz.prog w=.ok (.slice (some ⟨w.heap.size,0,none⟩) 1 1) (w.alloc (.cells #[(.slice x0 x0n x0c),(.slice x1 x1n x1c)] 43)):=by kernel_rfl
theorem bs_ImgF_36_1_0(x0:Int)(x1:Int)(x2:Int)(w:World):(Instr.buildSlice 36 1 #[(0,(.agg #[(.int .i64 x0),(.int .i64 x1),(.int .i64 x2)]))]).run Tryz.prog w=.ok (.slice (some ⟨w.heap.size,0,none⟩) 1 1) (w.alloc (.cells #[(.int .i64 x0),(.int .i64 x1),(.int .i64 x2)] 121)):=by kernel_rfl
theorem bs_ImgF_37_1_0(x0:Int)(x1:Int)(w:World):(Instr.buildSlice 37 1 #[(0,(.agg #[(.int .i64 x0),(.int .i64 x1)]))]).run Tryz.prog w=.ok (.slice (some ⟨w.heap.size,0,none⟩) 1 1) (w.alloc (.cells #[(.int .i64 x0),(.int .i64 x1)] 123)):=by kernel_rfl
theorem bs_ImgF_40_1_0(x0:Int)(x1:Int)(x2:Int)(x3:Int)(w:World):(Instr.buildSlice 40 1 #[(0,(.agg #[(.int .i64 x0),(.int .i64 x1),(.int .i64 x2),(.int .i64 x3)]))]).run Tryz.prog w=.ok (.slice (some ⟨w.heap.size,0,none⟩) 1 1) (w.alloc (.cells #[(.int .i64 x0),(.int .i64 x1),(.int .i64 x2),(.int .i64 x3)] 118)):=by kernel_rfl
theorem bs_ImgF_41_1_0(x0:Int)(w:World):(Instr.buildSlice 41 1 #[(0,(.int .i64 x0))]).run Tryz.prog w=.ok (.slice (some ⟨w.heap.size,0,none⟩) 1 1) (w.alloc (.cells #[(.int .i64 x0)] 3)):=by kernel_rfl
theorem bu_ImgF_118_0(x0:Int)(w:World):(Instr.build 118 #[(0,(.int .i64 x0))]).run Tryz.prog w=.ok (.agg #[(.int .i64 x0),(.int .i64 0),(.int .i64 0),(.int .i64 0)]) w:=by kernel_rfl
theorem bu_ImgF_121_0(x0:Int)(w:World):(Instr.build 121 #[(0,(.int .i64 x0))]).run Tryz.prog w=.ok (.agg #[(.int .i64 x0),(.int .i64 0),(.int .i64 0)]) w:=by kernel_rfl
theorem bu_ImgF_123_0(x0:Int)(w:World):(Instr.build 123 #[(0,(.int .i64 x0))]).run Tryz.prog w=.ok (.agg #[(.int .i64 x0),(.int .i64 0)]) w:=by kernel_rfl
theorem bu_ImgF_157_0(x0:ByteArray)(w:World):(Instr.build 157 #[(0,(.string x0))]).run Tryz.prog w=.ok (.agg #[(.string x0)]) w:=by kernel_rfl
theorem bu_ImgF_39_(w:World):(Instr.build 39 #[]).run Tryz.prog w=.ok (.agg #[(.slice none 0 0),(.slice none 0 0),(.slice none 0 0)]) w:=by kernel_rfl
set_option maxRecDepth 100000
abbrev eyeS(be:Nat)(l:List UInt8):Asn:=.blk be 157 [.string (bstr l)]
theorem eyeB_in{w:World}{X:Nat→Prop}{be:Nat}{l:List UInt8}(hW:Wd w X [eyeS be l] w):
  Calls Tryz.prog 67 #[.pointer (some ⟨be,0,none⟩)] w fun e w'=>e=.returned (.int .i64 (b0 l 0))∧Wd w X [eyeS be (l.drop 1)] w':=by
 refine enter Tryz.func67 rfl Tryz.ntmps67 rfl fun a hF=>c_sr<|pq 1 hF rfl fun a hF=>l_nil<|t_n<|c_s<|c_sr<|pq 3 hF rfl fun a hF=>pv hF hW (y_loadOwn hF rfl 0 rfl rfl Tryz.underlying9 rfl) fun a hF=>pv hF hW (y_eqB hF rfl rfl) fun a hF=>?_;refine Fr.splitD hF (fun h1 hF=>?_) (fun h1 hF=>?_);refine l_nil<|t_n<|c_t hF rfl<|c_sr<|pq 1 hF rfl fun a hF=>l_nil<|t_n<|wp_ret<|t_r<|ret1 Tryz.results67 hF (rv_t hF rfl) ?_
 obtain rfl:l=[]:=Am
 exact⟨rfl,hW⟩
 refine l_nil<|t_n<|c_f hF rfl<|wp_skip<|t_n ?_
 have hl0:0<l.length:=List.length_pos_iff.2 Am
 refine c_sr<|pq 3 hF rfl fun a hF=>pv hF hW (y_loadOwn hF rfl 0 rfl rfl Tryz.underlying9 rfl) fun a hF=>pv hF hW (y_indexStr hF rfl rfl (by exact hl0) Tryz.underlying9) fun a hF=>?_;replace hF:=Fr.cast (v':=.int .u8 ((l.getD 0 0).toNat:Int)) Rl hF;refine pv hF hW (y_convert hF rfl (ck_ImgF_5_3 _ (by have:=(l.getD 0 0).toNat_lt;omega))) fun a hF=>pq 1 hF rfl fun a hF=>lts<|pq 4 hF rfl fun a hF=>pv hF hW (y_loadOwn hF rfl 0 rfl rfl Tryz.underlying9 rfl) fun a hF=>pv hF hW (y_sliceStrL hF rfl rfl (by exact hl0) Tryz.underlying9) fun a hF=>pq 2 hF rfl fun a hF=>pe<|e_store rfl hF hW rfl rfl 0 rfl rfl rfl sz_9 fun wc hW=>l_nil ?_;replace hF:=hF.ks [0,2,3,8] rfl;refine t_n<|c_sr<|pq 2 hF rfl fun a hF=>l_nil<|t_n<|wp_ret<|ret1 Tryz.results67 hF (rv_t hF rfl) ?_
 exact⟨rfl,hW⟩
theorem eyeB_call{w0 w:World}{X:Nat→Prop}{es:List Asn}{be:Nat}{l:List UInt8}(hW:Wd w0 X (eyeS be l::es) w):
  Calls Tryz.prog 67 #[.pointer (some ⟨be,0,none⟩)] w fun e w'=>e=.returned (.int .i64 (b0 l 0))∧Wd w0 X (eyeS be (l.drop 1)::es) w':=by
 obtain⟨X',hL,hback⟩:=Own.lendI [_] hW
 exact(eyeB_in hL).mono fun e w' h=>⟨h.1,hback _ _ h.2⟩
theorem eye_byte{l:List UInt8}{k:Nat}(hk:k<8):b0 (l.drop k) 0=(((l++List.replicate 8 0).getD k 0).toNat:Int):=by
 rw[b0_drop]
 unfold b0
 by_cases h:k<l.length
 ·simp[List.getD,List.getElem?_append_left h]
 ·rw[show l.getD k 0=0 by simp[List.getD,List.getElem?_eq_none (Nat.le_of_not_lt h)]]
  rw[List.getD,List.getElem?_append_right Om]
  have h2:k - l.length<8:=by omega
  rw[List.getElem?_replicate,if_pos h2]
  rfl
set_option maxHeartbeats 4000000 in
theorem eyeN_in{w:World}{X:Nat→Prop}{be:Nat}{l:List UInt8}(hW:Wd w X [eyeS be l] w):
  Calls Tryz.prog 68 #[.pointer (some ⟨be,0,none⟩)] w fun e w'=>e=.returned (.int .i64 (eyeN 8 l).1)∧Wd w X [eyeS be (eyeN 8 l).2] w':=by
 refine enter Tryz.func68 rfl Tryz.ntmps68 rfl fun a hF=>c_sr<|pq 1 hF rfl fun a hF=>lts<|pq 1 hF rfl fun a hF=>l_nil<|t_n<|c_s<|c_sr<|pq 1 hF rfl fun a hF=>l_nil<|t_n<|wp_block ?_;refine c_loop (G:=Nat) (fun k:Nat=>[(4,.int .i64 (k:Int)),(3,.int .i64 (foldB ((l++List.replicate 8 0).take k)))]) (fun k:Nat=>[eyeS be (l.drop k)]) (fun k:Nat=>k≤8) (fun k:Nat=>8 - k) 0 (hF.ks [0,2] rfl) (Fr.cons hF (t:=4) rfl Rg (Fr.cons hF (t:=3) rfl Rg (Fr.nil hF))) (hW) ?_ ?_
 omega
 clear hF hW
 try clear a
 intro k a wc hC hF hW
 have hk0:=hC
 refine c_s<|c_sr<|pq 2 hF rfl fun a hF=>?_;refine Fr.splitD hF (fun h1 hF=>?_) (fun h1 hF=>?_);refine l_nil<|t_n<|c_t hF rfl<|wp_skip<|t_n<|c_s<|wp_block ?_
 have hk8:k<8:=Om
 refine c_r<|pq 1 hF rfl fun a hF=>pv hF hW (y_shl hF rfl rfl (by first|decide|(show _≤64;omega))) fun a hF=>pq 1 hF rfl fun a hF=>?_;refine pe (e_callA hF rfl rfl en_67 Rl (eyeB_call (hW.front 0 rfl rfl)) ?_);rintro e w1 ⟨rfl,hN⟩;replace hW:=hN;refine⟨_,rfl,fun a hF=>?_⟩;refine pv hF hW (y_or hF rfl rfl) fun a hF=>?_;replace hF:=Fr.cast (v':=.int .i64 (step8 (foldB ((l++List.replicate 8 0).take k)) ((l++List.replicate 8 0).getD k 0))) (by rw[eye_byte hk8];exact congrArg _ (step8_or _ _)) hF;refine pq 1 hF rfl fun a hF=>l_nil<|b_n<|t_n<|c_r<|pq 1 hF rfl fun a hF=>pv hF hW (y_add hF rfl rfl (IntWalk.i64_in _ Om)) fun a hF=>pq 1 hF rfl fun a hF=>l_nil<|t_n ?_
 rw[List.drop_drop] at hW
 refine⟨k+1,?_,?_,?_,?_⟩
 omega
 first|omega|(dsimp only;omega)
 focus
  exact Fr.app (Fr.cons hF (t:=4) rfl (by first|rfl|(exact congrArg _ (foldB_take (by rw[List.length_append,List.length_replicate];omega)).symm)|(simp;done)|omega) (Fr.cons hF (t:=3) rfl (by first|rfl|(exact congrArg _ (foldB_take (by rw[List.length_append,List.length_replicate];omega)).symm)|(simp;done)|omega) (Fr.nil hF))) (hF.ks [0,2] rfl)
 exact hW
 refine l_nil<|t_n<|c_f hF rfl<|wp_exit<|t_x<|t_x<|b_h<|t_n<|c_sr<|pq 2 hF rfl fun a hF=>l_nil<|t_n<|wp_ret<|ret1 Tryz.results68 hF (rv_t hF rfl) ?_
 rw[show k=8 by omega] at hW⊢
 exact⟨rfl,hW⟩
theorem eyeN_call{w0 w:World}{X:Nat→Prop}{es:List Asn}{be:Nat}{l:List UInt8}(hW:Wd w0 X (eyeS be l::es) w):
  Calls Tryz.prog 68 #[.pointer (some ⟨be,0,none⟩)] w fun e w'=>e=.returned (.int .i64 (eyeN 8 l).1)∧Wd w0 X (eyeS be (eyeN 8 l).2::es) w':=by
 obtain⟨X',hL,hback⟩:=Own.lendI [_] hW
 exact(eyeN_in hL).mono fun e w' h=>⟨h.1,hback _ _ h.2⟩
theorem manyE_step{α:Type}{one:List UInt8→α×List UInt8}{m:Nat}{F:List UInt8}{L:List α}(hm:0<m):(L++(manyE one m F).1,(manyE one m F).2)=((L++[(one F).1])++(manyE one (m - 1) (one F).2).1,(manyE one (m - 1) (one F).2).2):=by
 cases m with
 |zero=>omega
 |succ m=>rw[manyE,Nat.add_sub_cancel];simp
theorem listE_done{α:Type}{one:List UInt8→α×List UInt8}{l F:List UInt8}{m:Nat}{L:List α}(h:manyE one (l.getD 0 0).toNat (l.drop 1)=(L++(manyE one m F).1,(manyE one m F).2))(hm:m=0):listE one l=(L,F):=by
 subst hm
 unfold listE
 rw[h]
 simp[manyE]
theorem byte_le(l:List UInt8):(l.getD 0 0).toNat≤255:=by have:=(l.getD 0 0).toNat_lt;omega
def EyeBack(w:World)(l:List UInt8)(e:Ending)(w':World):Prop:=∃y:SysD,e=.returned (.tuple #[y.val,.bool (readL l).isSome])∧y.sys=(readL l).getD Sys.zero∧Below w.heap.size w w'∧OwnRes w w' y.At
theorem eye_none{w w':World}{l:List UInt8}(h:readL l=none)(hb:Below w.heap.size w w'):EyeBack w l (.returned (.tuple #[SysD.zero.val,.bool false])) w':=⟨SysD.zero,by rw[h];rfl,by rw[h];rfl,hb,fun _ _=>SysD.zero_at _⟩
set_option maxHeartbeats 64000000 in
theorem imageFrom_any{w:World}{l:List UInt8}:Calls Tryz.prog 21 #[.string (bstr l)] w (EyeBack w l):=by
 have hfr:=from_read l
 refine enter Tryz.func21 rfl Tryz.ntmps21 rfl fun a hF=>?_
 have hW:=Wd.start w NoB
 refine c_sr<|pe<|e_alloc hF hW ze_39 rfl rfl rfl fun b1 a wc hF hW=>pq 1 hF rfl fun a hF=>lts<|pq 1 hF rfl fun a hF=>pv hF hW (y_build hF rfl (fun w=>bu_ImgF_157_0 _ w)) fun a hF=>pe<|e_box hF hW rfl rfl rfl rfl fun b2 a wc hF hW=>pq 1 hF rfl fun a hF=>lts<|pe<|e_alloc hF hW ze_39 rfl rfl rfl fun b3 a wc hF hW=>l_nil<|t_n<|c_s<|c_sr<|pq 1 hF rfl fun a hF=>?_;refine pe (e_callA hF rfl rfl en_67 Rl (eyeB_call (hW.front 1 rfl rfl)) ?_);rintro e w1 ⟨rfl,hN⟩;replace hW:=hN;refine⟨_,rfl,fun a hF=>?_⟩;refine pq 1 hF rfl fun a hF=>l_nil<|t_n<|wp_block ?_;replace hW:=hW.nil_row 43 2;replace hW:=hW.free (R:=fun u=>∀q,q∈([]:List PP)→q.At u) (fun _ _ h=>by cases h);replace hW:=hW.fs [2,3,3,3] rfl;refine c_loop (G:=Nat×List PP×Option Addr×Nat×List UInt8) (fun⟨n,P,A,c,F⟩=>[(6,.int .i64 (n:Int))]) (fun⟨n,P,A,c,F⟩=>[.res (fun u=>∀q,q∈P→q.At u),.row 43 2 (.slice A P.length c) P.length (P.flatMap encP),.blk b3 39 [.slice A P.length c,.slice none 0 0,.slice none 0 0],eyeS b2 F]) (fun⟨n,P,A,c,F⟩=>n+P.length≤255∧manyE prtE (l.getD 0 0).toNat (l.drop 1)=(P.map Prod.fst++(manyE prtE n F).1,(manyE prtE n F).2)) (fun⟨n,P,A,c,F⟩=>n) ((l.getD 0 0).toNat,[],none,0,l.drop 1) (hF.ks [0,2,3,4,5] rfl) (Fr.cons hF (t:=6) rfl Rg (Fr.nil hF)) (hW) ?_ ?_
 exact⟨by have:=byte_le l;simp only[List.length_nil];omega,by simp⟩
 clear hF hW
 try clear a
 intro gq a wc hC hF hW
 obtain⟨n,P,A,c,F⟩:=gq
 dsimp only at hC
 obtain⟨hnP,hM⟩:=hC
 refine c_s<|c_sr<|pq 2 hF rfl fun a hF=>?_;refine Fr.splitD hF (fun h4 hF=>?_) (fun h4 hF=>?_);refine l_nil<|t_n<|c_t hF rfl<|wp_skip<|t_n<|c_s<|wp_block ?_
 have hn0:0<n:=Om
 refine c_sr<|pe<|e_alloc hF hW ze_43 rfl rfl rfl fun b5 a wc hF hW=>l_nil<|t_n<|c_s<|c_sr<|pq 1 hF rfl fun a hF=>?_;refine pe (e_callA hF rfl rfl en_67 Rl (eyeB_call (hW.front 4 rfl rfl)) ?_);rintro e w1 ⟨rfl,hN⟩;replace hW:=hN;refine⟨_,rfl,fun a hF=>?_⟩;refine pq 1 hF rfl fun a hF=>l_nil<|t_n<|wp_block ?_;replace hW:=hW.nil_row 118 4;replace hW:=hW.fs [1,2,2] rfl;refine c_loop (G:=Nat×List Ins×Option Addr×Nat×List UInt8) (fun⟨m,C,A1,c1,F1⟩=>[(8,.int .i64 (m:Int))]) (fun⟨m,C,A1,c1,F1⟩=>[.row 118 4 (.slice A1 C.length c1) C.length (C.flatMap Ins.cells),.blk b5 43 [.slice A1 C.length c1,.slice none 0 0],eyeS b2 F1]) (fun⟨m,C,A1,c1,F1⟩=>m+C.length≤255∧manyE insE (F.getD 0 0).toNat (F.drop 1)=(C++(manyE insE m F1).1,(manyE insE m F1).2)) (fun⟨m,C,A1,c1,F1⟩=>m) ((F.getD 0 0).toNat,[],none,0,F.drop 1) (hF.ks [0,2,3,4,5,6,7,21] rfl) (Fr.cons hF (t:=8) rfl Rg (Fr.nil hF)) (hW) ?_ ?_
 exact⟨by have:=byte_le F;simp only[List.length_nil];omega,by simp⟩
 clear hF hW
 try clear a
 intro gq a wc hC hF hW
 obtain⟨m,C,A1,c1,F1⟩:=gq
 dsimp only at hC
 obtain⟨hmC,hMi⟩:=hC
 refine c_s<|c_sr<|pq 2 hF rfl fun a hF=>?_;refine Fr.splitD hF (fun h6 hF=>?_) (fun h6 hF=>?_);refine l_nil<|t_n<|c_t hF rfl<|wp_skip<|t_n<|c_s<|wp_block ?_
 have hm0:0<m:=Om
 refine c_sr<|pq 1 hF rfl fun a hF=>?_;refine pe (e_callA hF rfl rfl en_67 Rl (eyeB_call (hW.front 2 rfl rfl)) ?_);rintro e w1 ⟨rfl,hN⟩;replace hW:=hN;refine⟨_,rfl,fun a hF=>?_⟩;refine pv hF hW (y_build hF rfl (fun w=>bu_ImgF_118_0 _ w)) fun a hF=>pe<|e_alloc hF hW ze_118 rfl rfl rfl fun b7 a wc hF hW=>?_;refine pe<|e_storeAll rfl hF hW rfl rfl 0 rfl rfl rfl Kr sz_118 fun wc hW=>lts<|pq 1 hF rfl fun a hF=>?_;refine pe (e_callA hF rfl rfl en_67 Rl (eyeB_call (hW.front 1 rfl rfl)) ?_);rintro e w1 ⟨rfl,hN⟩;replace hW:=hN;refine⟨_,rfl,fun a hF=>?_⟩;refine pq 1 hF rfl fun a hF=>pe<|e_store rfl hF hW rfl rfl 1 rfl rfl rfl sz_3 fun wc hW=>lts<|pq 1 hF rfl fun a hF=>?_;refine pe (e_callA hF rfl rfl en_67 Rl (eyeB_call (hW.front 0 rfl rfl)) ?_);rintro e w1 ⟨rfl,hN⟩;replace hW:=hN;refine⟨_,rfl,fun a hF=>?_⟩;refine pq 1 hF rfl fun a hF=>pe<|e_store rfl hF hW rfl rfl 1 rfl rfl rfl sz_3 fun wc hW=>lts<|pq 1 hF rfl fun a hF=>?_;refine pe (e_callA hF rfl rfl en_68 Rl (eyeN_call (hW.front 0 rfl rfl)) ?_);rintro e w1 ⟨rfl,hN⟩;replace hW:=hN;refine⟨_,rfl,fun a hF=>?_⟩;refine pq 1 hF rfl fun a hF=>pe<|e_store rfl hF hW rfl rfl 1 rfl rfl rfl sz_3 fun wc hW=>ltr<|pq 1 hF rfl fun a hF=>pv hF hW (y_loadOwn hF rfl 3 rfl rfl Tryz.underlying40 rfl) fun a hF=>pv hF hW (y_loadAll hF rfl 1 rfl Tryz.underlying118 rfl sz_118) fun a hF=>pe<|e_buildSlice hF hW rfl (fun w=>bs_ImgF_40_1_0 _ _ _ _ w) rfl rfl rfl fun b8 a wc hF hW=>pe<|e_append hF hW 3 rfl rfl rfl Tryz.underlying40 inf_118 rfl Dc (rowAt_blk (hW.blk 0 rfl) 4 1 rfl) Oc (show _=(C++[(insE F1).1]).length by simp) (show _=(C++[(insE F1).1]).flatMap Ins.cells by simp[Ins.cells,insE]) Ox Ml rfl rfl fun A9 c10 a wc hF hW=>pq 1 hF rfl fun a hF=>pe<|e_store rfl hF hW rfl rfl 4 rfl rfl rfl sz_40 fun wc hW=>l_nil ?_;replace hF:=hF.ks [0,2,3,4,5,6,7,8,9,21,27] rfl;refine b_n<|t_n<|c_r<|pq 1 hF rfl fun a hF=>pv hF hW (y_sub hF rfl rfl (IntWalk.i64_in _ Om)) fun a hF=>pq 1 hF rfl fun a hF=>l_nil ?_;replace hW:=hW.ds [0,1] rfl;replace hW:=hW.fs [6,6,6,6,4,6,6] rfl;refine t_n ?_;refine⟨(m - 1,C++[(insE F1).1],A9,c10,(insE F1).2),?_,?_,?_,?_⟩
 exact⟨by rw[List.length_append,List.length_singleton];omega,by rw[hMi,manyE_step hm0]⟩
 exact Nat.sub_lt hm0 Nat.one_pos
 exact Fr.app (Fr.cons hF (t:=8) rfl (by first|rfl|(congr 1;omega)|(simp;done)|omega) (Fr.nil hF)) (hF.ks [0,2,3,4,5,6,7,21] rfl)
 exact hW
 refine l_nil<|t_n<|c_f hF rfl<|wp_exit<|t_x<|t_x<|b_h<|t_n<|c_s<|c_sr<|pq 1 hF rfl fun a hF=>?_;refine pe (e_callA hF rfl rfl en_67 Rl (eyeB_call (hW.front 2 rfl rfl)) ?_);rintro e w1 ⟨rfl,hN⟩;replace hW:=hN;refine⟨_,rfl,fun a hF=>?_⟩;refine pq 1 hF rfl fun a hF=>l_nil<|t_n<|wp_block ?_;replace hW:=hW.nil_row 3 1;replace hW:=hW.fs [1,3,2] rfl;refine c_loop (G:=Nat×List Int×Option Addr×Nat×List UInt8) (fun⟨m,D,A2,c2,F2⟩=>[(10,.int .i64 (m:Int))]) (fun⟨m,D,A2,c2,F2⟩=>[.row 3 1 (.slice A2 D.length c2) D.length (D.map (.int .i64)),.blk b5 43 [.slice A1 C.length c1,.slice A2 D.length c2],eyeS b2 F2]) (fun⟨m,D,A2,c2,F2⟩=>m+D.length≤255∧manyE (eyeN 8) (F1.getD 0 0).toNat (F1.drop 1)=(D++(manyE (eyeN 8) m F2).1,(manyE (eyeN 8) m F2).2)) (fun⟨m,D,A2,c2,F2⟩=>m) ((F1.getD 0 0).toNat,[],none,0,F1.drop 1) (hF.ks [0,2,3,4,5,6,7,8,21,27] rfl) (Fr.cons hF (t:=10) rfl Rg (Fr.nil hF)) (hW) ?_ ?_
 exact⟨by have:=byte_le F1;simp only[List.length_nil];omega,by simp⟩
 clear hF hW
 try clear a
 intro gq a wc hC hF hW
 obtain⟨m,D,A2,c2,F2⟩:=gq
 dsimp only at hC
 obtain⟨hmD,hMd⟩:=hC
 refine c_s<|c_sr<|pq 2 hF rfl fun a hF=>?_;refine Fr.splitD hF (fun h11 hF=>?_) (fun h11 hF=>?_);refine l_nil<|t_n<|c_t hF rfl<|wp_skip<|t_n<|c_s<|wp_block ?_
 have hm1:0<m:=Om
 refine c_d mixed_ok hW ((hW.ds [0,0,0] rfl)) ?_
 clear hW;intro wc hW hS
 refine dq 2 [0,2] hF hS rfl fun a hF=>?_;refine d_2 1 3 Kr ?_ ?_;refine d_opval rfl hF rfl hW (y_loadOwn hF rfl 1 rfl rfl Tryz.underlying41 rfl) rfl rfl fun a hF=>ai (hW.ds [0,0,0] rfl) fun hS=>d_1 3 Kr ?_;refine d_op rfl rfl (e_callA hF rfl rfl en_68 Rl (eyeN_call (hW.front 2 rfl rfl)) ?_);rintro e w1 ⟨rfl,hN⟩;replace hW:=hN;refine⟨_,rfl,fun a hF=>?_⟩;refine ai (hW.ds [0,0,0] rfl) fun hS=>d_1 4 Kr<|d_op rfl rfl<|e_buildSlice hF hW rfl (fun w=>bs_ImgF_41_1_0 _ w) rfl rfl rfl fun b12 a wc hF hW=>ai (hW.ds [0,0,0,0] rfl) fun hS=>d_1 5 Kr<|d_op rfl rfl<|e_append hF hW 2 rfl rfl rfl Tryz.underlying41 inf_3 rfl Dc (rowAt_blk (hW.blk 0 rfl) 1 1 rfl) Oc (show _=(D++[(eyeN 8 F2).1]).length by simp) (show _=(D++[(eyeN 8 F2).1]).map (.int .i64) by simp) Ox Ml rfl rfl fun A13 c14 a wc hF hW=>ai (hW.ds [0,0,0,0] rfl) fun hS=>dq 1 [6] hF hS rfl fun a hF=>d_1 7 Kr<|d_op rfl rfl<|e_store rfl hF hW rfl rfl 3 rfl rfl rfl sz_41 fun wc hW=>ai (hW.ds [0,0,0,0] rfl) fun hS=>?_;clear hS;refine d_nil Kr<|b_n<|t_n<|c_r<|pq 1 hF rfl fun a hF=>pv hF hW (y_sub hF rfl rfl (IntWalk.i64_in _ Om)) fun a hF=>pq 1 hF rfl fun a hF=>l_nil ?_;replace hW:=hW.del 0 rfl;replace hW:=hW.fs [7,7,7,7,7,5,7,7] rfl;refine t_n ?_;refine⟨(m - 1,D++[(eyeN 8 F2).1],A13,c14,(eyeN 8 F2).2),?_,?_,?_,?_⟩
 exact⟨by rw[List.length_append,List.length_singleton];omega,by rw[hMd,manyE_step hm1]⟩
 exact Nat.sub_lt hm1 Nat.one_pos
 exact Fr.app (Fr.cons hF (t:=10) rfl (by first|rfl|(congr 1;omega)|(simp;done)|omega) (Fr.nil hF)) (hF.ks [0,2,3,4,5,6,7,8,21,27] rfl)
 exact hW
 refine d_op rfl rfl (e_callA hF rfl rfl en_68 Rl (eyeN_call (hW.front 2 rfl rfl)) ?_);rintro e w1 ⟨rfl,hN⟩;replace hW:=hN;refine⟨_,rfl,fun a hF=>?_⟩;refine ai (hW.ds [0,0,0] rfl) fun hS=>?_;refine d_2 1 4 Kr ?_ ?_;refine d_opval rfl hF rfl hW (y_loadOwn hF rfl 2 rfl rfl Tryz.underlying41 rfl) rfl rfl fun a hF=>ai (hW.ds [0,0,0] rfl) fun hS=>d_1 4 Kr<|d_op rfl rfl<|e_buildSlice hF hW rfl (fun w=>bs_ImgF_41_1_0 _ w) rfl rfl rfl fun b15 a wc hF hW=>ai (hW.ds [0,0,0,0] rfl) fun hS=>d_1 5 Kr<|d_op rfl rfl<|e_append hF hW 2 rfl rfl rfl Tryz.underlying41 inf_3 rfl Dc (rowAt_blk (hW.blk 0 rfl) 1 1 rfl) Oc (show _=(D++[(eyeN 8 F2).1]).length by simp) (show _=(D++[(eyeN 8 F2).1]).map (.int .i64) by simp) Ox Ml rfl rfl fun A16 c17 a wc hF hW=>ai (hW.ds [0,0,0,0] rfl) fun hS=>dq 1 [6] hF hS rfl fun a hF=>d_1 7 Kr<|d_op rfl rfl<|e_store rfl hF hW rfl rfl 3 rfl rfl rfl sz_41 fun wc hW=>ai (hW.ds [0,0,0,0] rfl) fun hS=>?_;clear hS;refine d_nil Kr<|b_n<|t_n<|c_r<|pq 1 hF rfl fun a hF=>pv hF hW (y_sub hF rfl rfl (IntWalk.i64_in _ Om)) fun a hF=>pq 1 hF rfl fun a hF=>l_nil ?_;replace hW:=hW.del 0 rfl;replace hW:=hW.fs [7,7,7,7,7,5,7,7] rfl;refine t_n ?_;refine⟨(m - 1,D++[(eyeN 8 F2).1],A16,c17,(eyeN 8 F2).2),?_,?_,?_,?_⟩
 exact⟨by rw[List.length_append,List.length_singleton];omega,by rw[hMd,manyE_step hm1]⟩
 exact Nat.sub_lt hm1 Nat.one_pos
 exact Fr.app (Fr.cons hF (t:=10) rfl (by first|rfl|(congr 1;omega)|(simp;done)|omega) (Fr.nil hF)) (hF.ks [0,2,3,4,5,6,7,8,21,27] rfl)
 exact hW
 refine d_op rfl rfl<|e_buildSlice hF hW rfl (fun w=>bs_ImgF_41_1_0 _ w) rfl rfl rfl fun b18 a wc hF hW=>ai (hW.ds [0,0,0,0] rfl) fun hS=>d_1 1 Kr<|d_opval rfl hF rfl hW (y_loadOwn hF rfl 3 rfl rfl Tryz.underlying41 rfl) rfl rfl fun a hF=>ai (hW.ds [0,0,0,0] rfl) fun hS=>d_1 5 Kr<|d_op rfl rfl<|e_append hF hW 2 rfl rfl rfl Tryz.underlying41 inf_3 rfl Dc (rowAt_blk (hW.blk 0 rfl) 1 1 rfl) Oc (show _=(D++[(eyeN 8 F2).1]).length by simp) (show _=(D++[(eyeN 8 F2).1]).map (.int .i64) by simp) Ox Ml rfl rfl fun A19 c20 a wc hF hW=>ai (hW.ds [0,0,0,0] rfl) fun hS=>dq 1 [6] hF hS rfl fun a hF=>d_1 7 Kr<|d_op rfl rfl<|e_store rfl hF hW rfl rfl 3 rfl rfl rfl sz_41 fun wc hW=>ai (hW.ds [0,0,0,0] rfl) fun hS=>?_;clear hS;refine d_nil Kr<|b_n<|t_n<|c_r<|pq 1 hF rfl fun a hF=>pv hF hW (y_sub hF rfl rfl (IntWalk.i64_in _ Om)) fun a hF=>pq 1 hF rfl fun a hF=>l_nil ?_;replace hW:=hW.del 0 rfl;replace hW:=hW.fs [7,7,7,7,7,5,7,7] rfl;refine t_n ?_;refine⟨(m - 1,D++[(eyeN 8 F2).1],A19,c20,(eyeN 8 F2).2),?_,?_,?_,?_⟩
 exact⟨by rw[List.length_append,List.length_singleton];omega,by rw[hMd,manyE_step hm1]⟩
 exact Nat.sub_lt hm1 Nat.one_pos
 exact Fr.app (Fr.cons hF (t:=10) rfl (by first|rfl|(congr 1;omega)|(simp;done)|omega) (Fr.nil hF)) (hF.ks [0,2,3,4,5,6,7,8,21,27] rfl)
 exact hW
 refine l_nil<|t_n<|c_f hF rfl<|wp_exit<|t_x<|t_x<|b_h<|t_n<|c_r<|pq 1 hF rfl fun a hF=>pv hF hW (y_loadOwn hF rfl 6 rfl rfl Tryz.underlying35 rfl) fun a hF=>pv hF hW (y_loadAll hF rfl 1 rfl Tryz.underlying43 rfl sz_43) fun a hF=>pe<|e_buildSlice hF hW rfl (fun w=>bs_ImgF_35_1_0 _ _ _ _ _ _ w) rfl rfl rfl fun b21 a wc hF hW=>pe<|e_append hF hW 6 rfl rfl rfl Tryz.underlying35 inf_43 rfl Dc (rowAt_blk (hW.blk 0 rfl) 2 1 rfl) Oc (show _=(P++[((⟨C,D⟩,⟨A1,c1,A2,c2⟩):PP)]).length by simp) (show _=(P++[((⟨C,D⟩,⟨A1,c1,A2,c2⟩):PP)]).flatMap encP by simp[encP]) Ox Ml rfl rfl fun A22 c23 a wc hF hW=>pq 1 hF rfl fun a hF=>pe<|e_store rfl hF hW rfl rfl 7 rfl rfl rfl sz_35 fun wc hW=>l_nil<|b_n<|t_n<|c_r<|pq 1 hF rfl fun a hF=>pv hF hW (y_sub hF rfl rfl (IntWalk.i64_in _ Om)) fun a hF=>pq 1 hF rfl fun a hF=>l_nil ?_;replace hW:=hW.fs [1,4] rfl
 replace hW:=((hW.row_res 0 rfl).row_res 1 rfl).res2 (R:=PP.At (⟨C,D⟩,⟨A1,c1,A2,c2⟩)) fun u h1 h2=>⟨Flat.of_own h1 rfl,Ints.of_own h2⟩
 replace hW:=hW.fs [4,1] rfl
 replace hW:=hW.res2 (R:=fun u=>∀z,z∈P++[((⟨C,D⟩,⟨A1,c1,A2,c2⟩):PP)]→z.At u) fun u h1 h3 z hz=>(List.mem_append.1 hz).elim (h3 z) fun h=>by rw[List.mem_singleton.1 h];exact h1
 replace hW:=hW.ds [1,1] rfl;replace hW:=hW.fs [4,2,4,4,4] rfl;refine t_n ?_;refine⟨(n - 1,P++[(⟨C,D⟩,⟨A1,c1,A2,c2⟩)],A22,c23,F2),?_,?_,?_,?_⟩
 exact⟨by rw[List.length_append,List.length_singleton];omega,by rw[hM,manyE_step hn0,List.map_append];unfold prtE;rw[listE_done hMi Om];dsimp only;rw[listE_done hMd Om];rfl⟩
 exact Nat.sub_lt hn0 Nat.one_pos
 exact Fr.app (Fr.cons hF (t:=6) rfl (by first|rfl|(congr 1;omega)|(simp;done)|omega) (Fr.nil hF)) (hF.ks [0,2,3,4,5] rfl)
 exact hW
 refine l_nil<|t_n<|c_f hF rfl<|wp_exit<|t_x<|t_x<|b_h<|t_n<|c_s ?_
 have hP:=listE_done hM Om
 refine c_sr<|pq 1 hF rfl fun a hF=>?_;refine pe (e_callA hF rfl rfl en_67 Rl (eyeB_call (hW.front 3 rfl rfl)) ?_);rintro e w1 ⟨rfl,hN⟩;replace hW:=hN;refine⟨_,rfl,fun a hF=>?_⟩;refine pq 1 hF rfl fun a hF=>l_nil<|t_n<|wp_block ?_;replace hW:=hW.nil_row 121 3;replace hW:=hW.fs [1,4,2] rfl;refine c_loop (G:=Nat×List Chn×Option Addr×Nat×List UInt8) (fun⟨m,C,A1,c1,F1⟩=>[(11,.int .i64 (m:Int))]) (fun⟨m,C,A1,c1,F1⟩=>[.row 121 3 (.slice A1 C.length c1) C.length (C.flatMap Chn.cells),.blk b3 39 [.slice A P.length c,.slice A1 C.length c1,.slice none 0 0],eyeS b2 F1]) (fun⟨m,C,A1,c1,F1⟩=>m+C.length≤255∧manyE chnE (F.getD 0 0).toNat (F.drop 1)=(C++(manyE chnE m F1).1,(manyE chnE m F1).2)) (fun⟨m,C,A1,c1,F1⟩=>m) ((F.getD 0 0).toNat,[],none,0,F.drop 1) (hF.ks [0,2,3,4,5,6,21] rfl) (Fr.cons hF (t:=11) rfl Rg (Fr.nil hF)) (hW) ?_ ?_
 exact⟨by have:=byte_le F;simp only[List.length_nil];omega,by simp⟩
 clear hF hW
 try clear a
 intro gq a wc hC hF hW
 obtain⟨m,C,A1,c1,F1⟩:=gq
 dsimp only at hC
 obtain⟨hmC,hMi⟩:=hC
 refine c_s<|c_sr<|pq 2 hF rfl fun a hF=>?_;refine Fr.splitD hF (fun h24 hF=>?_) (fun h24 hF=>?_);refine l_nil<|t_n<|c_t hF rfl<|wp_skip<|t_n<|c_s<|wp_block ?_
 have hm0:0<m:=Om
 refine c_sr<|pq 1 hF rfl fun a hF=>?_;refine pe (e_callA hF rfl rfl en_67 Rl (eyeB_call (hW.front 2 rfl rfl)) ?_);rintro e w1 ⟨rfl,hN⟩;replace hW:=hN;refine⟨_,rfl,fun a hF=>?_⟩;refine pv hF hW (y_build hF rfl (fun w=>bu_ImgF_121_0 _ w)) fun a hF=>pe<|e_alloc hF hW ze_121 rfl rfl rfl fun b25 a wc hF hW=>?_;refine pe<|e_storeAll rfl hF hW rfl rfl 0 rfl rfl rfl Kr sz_121 fun wc hW=>lts<|pq 1 hF rfl fun a hF=>?_;refine pe (e_callA hF rfl rfl en_67 Rl (eyeB_call (hW.front 1 rfl rfl)) ?_);rintro e w1 ⟨rfl,hN⟩;replace hW:=hN;refine⟨_,rfl,fun a hF=>?_⟩;refine pq 1 hF rfl fun a hF=>pe<|e_store rfl hF hW rfl rfl 1 rfl rfl rfl sz_3 fun wc hW=>lts<|pq 1 hF rfl fun a hF=>?_;refine pe (e_callA hF rfl rfl en_67 Rl (eyeB_call (hW.front 0 rfl rfl)) ?_);rintro e w1 ⟨rfl,hN⟩;replace hW:=hN;refine⟨_,rfl,fun a hF=>?_⟩;refine pq 1 hF rfl fun a hF=>pe<|e_store rfl hF hW rfl rfl 1 rfl rfl rfl sz_3 fun wc hW=>ltr<|pq 1 hF rfl fun a hF=>pv hF hW (y_loadOwn hF rfl 3 rfl rfl Tryz.underlying36 rfl) fun a hF=>pv hF hW (y_loadAll hF rfl 1 rfl Tryz.underlying121 rfl sz_121) fun a hF=>pe<|e_buildSlice hF hW rfl (fun w=>bs_ImgF_36_1_0 _ _ _ w) rfl rfl rfl fun b26 a wc hF hW=>pe<|e_append hF hW 3 rfl rfl rfl Tryz.underlying36 inf_121 rfl Dc (rowAt_blk (hW.blk 0 rfl) 3 1 rfl) Oc (show _=(C++[(chnE F1).1]).length by simp) (show _=(C++[(chnE F1).1]).flatMap Chn.cells by simp[Chn.cells,chnE]) Ox Ml rfl rfl fun A27 c28 a wc hF hW=>pq 1 hF rfl fun a hF=>pe<|e_store rfl hF hW rfl rfl 4 rfl rfl rfl sz_36 fun wc hW=>l_nil ?_;replace hF:=hF.ks [0,2,3,4,5,6,11,12,21,70] rfl;refine b_n<|t_n<|c_r<|pq 1 hF rfl fun a hF=>pv hF hW (y_sub hF rfl rfl (IntWalk.i64_in _ Om)) fun a hF=>pq 1 hF rfl fun a hF=>l_nil ?_;replace hW:=hW.ds [0,1] rfl;replace hW:=hW.fs [5,5,5,3,5,5] rfl;refine t_n ?_;refine⟨(m - 1,C++[(chnE F1).1],A27,c28,(chnE F1).2),?_,?_,?_,?_⟩
 exact⟨by rw[List.length_append,List.length_singleton];omega,by rw[hMi,manyE_step hm0]⟩
 exact Nat.sub_lt hm0 Nat.one_pos
 exact Fr.app (Fr.cons hF (t:=11) rfl (by first|rfl|(congr 1;omega)|(simp;done)|omega) (Fr.nil hF)) (hF.ks [0,2,3,4,5,6,21] rfl)
 exact hW
 refine l_nil<|t_n<|c_f hF rfl<|wp_exit<|t_x<|t_x<|b_h<|t_n<|c_s ?_
 have hCh:=listE_done hMi Om
 refine c_sr<|pq 1 hF rfl fun a hF=>?_;refine pe (e_callA hF rfl rfl en_67 Rl (eyeB_call (hW.front 2 rfl rfl)) ?_);rintro e w1 ⟨rfl,hN⟩;replace hW:=hN;refine⟨_,rfl,fun a hF=>?_⟩;refine pq 1 hF rfl fun a hF=>l_nil<|t_n<|wp_block ?_;replace hW:=hW.nil_row 123 2;replace hW:=hW.fs [1,3,2] rfl;refine c_loop (G:=Nat×List Slt×Option Addr×Nat×List UInt8) (fun⟨m,S,A2,c2,F2⟩=>[(13,.int .i64 (m:Int))]) (fun⟨m,S,A2,c2,F2⟩=>[.row 123 2 (.slice A2 S.length c2) S.length (S.flatMap Slt.cells),.blk b3 39 [.slice A P.length c,.slice A1 C.length c1,.slice A2 S.length c2],eyeS b2 F2]) (fun⟨m,S,A2,c2,F2⟩=>m+S.length≤255∧manyE sltE (F1.getD 0 0).toNat (F1.drop 1)=(S++(manyE sltE m F2).1,(manyE sltE m F2).2)) (fun⟨m,S,A2,c2,F2⟩=>m) ((F1.getD 0 0).toNat,[],none,0,F1.drop 1) (hF.ks [0,2,3,4,5,6,11,21,70] rfl) (Fr.cons hF (t:=13) rfl Rg (Fr.nil hF)) (hW) ?_ ?_
 exact⟨by have:=byte_le F1;simp only[List.length_nil];omega,by simp⟩
 clear hF hW
 try clear a
 intro gq a wc hC hF hW
 obtain⟨m,S,A2,c2,F2⟩:=gq
 dsimp only at hC
 obtain⟨hmD,hMd⟩:=hC
 refine c_s<|c_sr<|pq 2 hF rfl fun a hF=>?_;refine Fr.splitD hF (fun h29 hF=>?_) (fun h29 hF=>?_);refine l_nil<|t_n<|c_t hF rfl<|wp_skip<|t_n<|c_s<|wp_block ?_
 have hm1:0<m:=Om
 refine c_sr<|pq 1 hF rfl fun a hF=>?_;refine pe (e_callA hF rfl rfl en_67 Rl (eyeB_call (hW.front 2 rfl rfl)) ?_);rintro e w1 ⟨rfl,hN⟩;replace hW:=hN;refine⟨_,rfl,fun a hF=>?_⟩;refine pv hF hW (y_build hF rfl (fun w=>bu_ImgF_123_0 _ w)) fun a hF=>pe<|e_alloc hF hW ze_123 rfl rfl rfl fun b30 a wc hF hW=>?_;refine pe<|e_storeAll rfl hF hW rfl rfl 0 rfl rfl rfl Kr sz_123 fun wc hW=>lts<|pq 1 hF rfl fun a hF=>?_;refine pe (e_callA hF rfl rfl en_67 Rl (eyeB_call (hW.front 1 rfl rfl)) ?_);rintro e w1 ⟨rfl,hN⟩;replace hW:=hN;refine⟨_,rfl,fun a hF=>?_⟩;refine pq 1 hF rfl fun a hF=>pe<|e_store rfl hF hW rfl rfl 1 rfl rfl rfl sz_3 fun wc hW=>ltr<|pq 1 hF rfl fun a hF=>pv hF hW (y_loadOwn hF rfl 3 rfl rfl Tryz.underlying37 rfl) fun a hF=>pv hF hW (y_loadAll hF rfl 1 rfl Tryz.underlying123 rfl sz_123) fun a hF=>pe<|e_buildSlice hF hW rfl (fun w=>bs_ImgF_37_1_0 _ _ w) rfl rfl rfl fun b31 a wc hF hW=>pe<|e_append hF hW 3 rfl rfl rfl Tryz.underlying37 inf_123 rfl Dc (rowAt_blk (hW.blk 0 rfl) 2 1 rfl) Oc (show _=(S++[(sltE F2).1]).length by simp) (show _=(S++[(sltE F2).1]).flatMap Slt.cells by simp[Slt.cells,sltE]) Ox Ml rfl rfl fun A32 c33 a wc hF hW=>pq 1 hF rfl fun a hF=>pe<|e_store rfl hF hW rfl rfl 4 rfl rfl rfl sz_37 fun wc hW=>l_nil<|b_n<|t_n<|c_r<|pq 1 hF rfl fun a hF=>pv hF hW (y_sub hF rfl rfl (IntWalk.i64_in _ Om)) fun a hF=>pq 1 hF rfl fun a hF=>l_nil ?_;replace hF:=hF.ks [0,2,3,4,5,6,11,13,14,21,70,91] rfl;replace hW:=hW.ds [0,1] rfl;replace hW:=hW.fs [6,6,6,6,4,6,6] rfl;refine t_n ?_;refine⟨(m - 1,S++[(sltE F2).1],A32,c33,(sltE F2).2),?_,?_,?_,?_⟩
 exact⟨by rw[List.length_append,List.length_singleton];omega,by rw[hMd,manyE_step hm1]⟩
 exact Nat.sub_lt hm1 Nat.one_pos
 exact Fr.app (Fr.cons hF (t:=13) rfl (by first|rfl|(congr 1;omega)|(simp;done)|omega) (Fr.nil hF)) (hF.ks [0,2,3,4,5,6,11,21,70] rfl)
 exact hW
 refine l_nil<|t_n<|c_f hF rfl<|wp_exit<|t_x<|t_x<|b_h<|t_n<|c_s ?_
 have hSl:=listE_done hMd Om
 have hsE:sysE l=SysD.sys ⟨P,A,c,C,A1,c1,S,A2,c2⟩:=(by unfold sysE;rw[hP];dsimp only;rw[hCh];dsimp only;rw[hSl];rfl)
 unfold fromL at hfr
 rw[hsE] at hfr
 refine c_sr<|pv hF hW (y_loadAll hF rfl 1 rfl Tryz.underlying39 rfl sz_39) fun a hF=>pe<|e_callK hF hW rfl rfl en_69 Rl (checkSystem_any (x:=⟨P,A,c,C,A1,c1,S,A2,c2⟩) ⟨Flat.of_own (hW.row 5 rfl) rfl,hW.res 4 rfl,Flat.of_own (hW.row 3 rfl) rfl,Flat.of_own (hW.row 0 rfl) rfl⟩) fun a w1 hW hF=>pq 1 hF rfl fun a hF=>?_;refine Fr.splitD hF (fun h34 hF=>?_) (fun h34 hF=>?_);refine pq 6 hF rfl fun a hF=>l_nil<|t_n<|c_t hF rfl<|c_sr<|pv hF hW (y_build hF rfl (fun w=>bu_ImgF_39_ w)) fun a hF=>?_;refine pe<|e_storeAll rfl hF hW rfl rfl 6 rfl rfl rfl Kr sz_39 fun wc hW=>pq 1 hF rfl fun a hF=>l_nil<|t_n<|wp_ret<|t_r<|ret2 Tryz.results21 hF (rv_c hF rfl hW 6 rfl Tryz.underlying39 rfl sz_39) (rv_t hF rfl) ?_
 exact eye_none (by rw[←hfr,if_neg fun h=>absurd h.1 Am]) hW.below
 refine pq 1 hF rfl fun a hF=>pvg hF hW (y_loadAll hF rfl 1 rfl Tryz.underlying39 rfl sz_39) (ws hF rfl rfl) fun a hF=>?_;refine pe (e_callK hF hW rfl rfl en_70 Rl (imageBytes_any (x:=⟨P,A,c,C,A1,c1,S,A2,c2⟩) ⟨Flat.of_own (hW.row 5 rfl) rfl,hW.res 4 rfl,Flat.of_own (hW.row 3 rfl) rfl,Flat.of_own (hW.row 0 rfl) rfl⟩ Om) ?_) (ws hF rfl rfl);intro a w1 hW hF;refine pq 1 hF rfl fun a hF=>pvg hF hW (y_neB hF rfl rfl) (ws hF rfl rfl) fun a hF=>?_;refine Fr.splitD hF (fun h35 hF=>?_) (fun h35 hF=>?_);refine pq 1 hF rfl fun a hF=>l_nil<|t_n<|c_t hF rfl<|c_sr<|pv hF hW (y_build hF rfl (fun w=>bu_ImgF_39_ w)) fun a hF=>?_;refine pe<|e_storeAll rfl hF hW rfl rfl 6 rfl rfl rfl Kr sz_39 fun wc hW=>pq 1 hF rfl fun a hF=>l_nil<|t_n<|wp_ret<|t_r<|ret2 Tryz.results21 hF (rv_c hF rfl hW 6 rfl Tryz.underlying39 rfl sz_39) (rv_t hF rfl) ?_
 exact eye_none (by rw[←hfr,if_neg fun h=>absurd h.2 Am]) hW.below
 refine pq 1 hF rfl fun a hF=>l_nil<|t_n<|c_f hF rfl<|wp_skip<|t_n<|c_sr<|pv hF hW (y_loadAll hF rfl 1 rfl Tryz.underlying39 rfl sz_39) fun a hF=>pe<|e_storeAll rfl hF hW rfl rfl 6 rfl rfl rfl Kr sz_39 fun wc hW=>pq 1 hF rfl fun a hF=>l_nil<|t_n<|wp_ret<|ret2 Tryz.results21 hF (rv_c hF rfl hW 6 rfl Tryz.underlying39 rfl sz_39) (rv_t hF rfl) ?_;replace hW:=hW.ds [1,1,4] rfl;replace hW:=hW.fs [1,2,3] rfl
 have hsome:readL l=some (SysD.sys ⟨P,A,c,C,A1,c1,S,A2,c2⟩):=(by rw[←hfr,if_pos ⟨by omega,Classical.not_not.1 Am⟩])
 have h7:=((hW.row_res 0 rfl).row_res 2 rfl).row_res 3 rfl
 have hOwn:OwnRes w _ (SysD.At ⟨P,A,c,C,A1,c1,S,A2,c2⟩):=((((h7.join rfl).join rfl).join rfl).res_res 0 rfl).mono fun u h=>⟨Flat.of_own h.1.1.1 rfl,h.1.1.2,Flat.of_own h.1.2 rfl,Flat.of_own h.2 rfl⟩
 exact⟨⟨P,A,c,C,A1,c1,S,A2,c2⟩,by rw[hsome];rfl,by rw[hsome];rfl,hW.below,hOwn⟩
end Go.Proofs.YtndcjmopebcdgaaGreatDoor
