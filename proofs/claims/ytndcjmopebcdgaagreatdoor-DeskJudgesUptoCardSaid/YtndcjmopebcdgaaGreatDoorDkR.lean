/- Rows of ints that are the same. Begin, Step and Run of the kernel. The engine, part nine: more values. No program is named. What the kernel makes of the small system. kernBegun answers true. Runs and steps that are right, and that are not. The reference's SameLines. The reference's CheckWorld, SameLines, SameWorlds, OwnWorld. Worlds among a law's arguments; calls whose answer is known. -/
import Derived.Test.YtndcjmopebcdgaaGreatDoorSysB
import Derived.Test.YtndcjmopebcdgaaGreatDoorKernF
import Derived.Test.YtndcjmopebcdgaaGreatDoorDkG
import Derived.Test.YtndcjmopebcdgaaGreatDoorConfD1
set_option linter.unusedSimpArgs false
set_option linter.unusedVariables false
namespace Go.Proofs.YtndcjmopebcdgaaGreatDoor
section
open Go.ChangeShapes Go.WideShapes Go.ChangeAt Go.RowKit
set_option maxRecDepth 100000
end
section
open Go.ChangeShapes Go.WideShapes Go.ChangeAt Go.RowKit
theorem bu_KernG_61_(w:World):(Instr.build 61 #[]).run Tryz.prog w=.ok (.agg #[(.int .i64 0),(.slice none 0 0),(.slice none 0 0)]) w:=by kernel_rfl
theorem bu_KernG_61_1_2(x0:Option Addr)(x0n x0c:Nat)(x1:Option Addr)(x1n x1c:Nat)(w:World):(Instr.build 61 #[(1,(.slice x0 x0n x0c)),(2,(.slice x1 x1n x1c))]).run Tryz.prog w=.ok (.agg #[(.int .i64 0),(.slice x0 x0n x0c),(.slice x1 x1n x1c)]) w:=by kernel_rfl
set_option maxRecDepth 100000
theorem flat_len{α:Type}{enc:α→List Value}{size:Nat}(hs:∀q,(enc q).length=size):∀l:List α,(l.flatMap enc).length=l.length*size
 |[]=>by simp
 |q::r=>by rw[List.flatMap_cons,List.length_append,hs,flat_len hs r,List.length_cons,Nat.succ_mul,Nat.add_comm]
theorem flat_rep{α:Type}{enc:α→List Value}{zl:List Value}{q:α}(hz:zl=enc q):∀n:Nat,(List.replicate n zl).flatten=(List.replicate n q).flatMap enc
 |0=>rfl
 |n+1=>by rw[List.replicate_succ,List.replicate_succ,List.flatten_cons,List.flatMap_cons,flat_rep hz n,hz]
section
variable {w0 w:World} {X:Nat→Prop} {es:List Asn}
theorem Wd.zero_world(hW:Wd w0 X es w):Wd w0 X (WD.zero.rowC::WD.zero.rowL::.res WD.zero.Rest::es) w:=
 ((hW.free (R:=WD.zero.Rest) fun _=>⟨fun _ h=>(by cases h),fun _ h=>(by cases h)⟩).nil_row _ _).nil_row _ _
theorem Wd.made_world{b1 b2 n m:Nat}{l1 l2:List Value}(hW:Wd w0 X (.blk b1 75 l1::.blk b2 195 l2::es) w)(h1:l1=(List.replicate n CD0).flatMap encC)(h2:l2=(List.replicate m LD0).flatMap encL)(hn:n≤1024)(hm:m≤1024):
  ∃y:WD,y=⟨0,List.replicate n CD0,some ⟨b1,0,none⟩,n,List.replicate m LD0,some ⟨b2,0,none⟩,m⟩∧Wd w0 X (y.rowC::y.rowL::.res y.Rest::es) w:=by
 subst h1 h2
 have h3:=(hW.blk_row 0 rfl 16 n (by rw[flat_len encC_len,List.length_replicate]) (by unfold maxLen;omega)).blk_row 1 rfl 1 m (by rw[flat_len encL_len,List.length_replicate]) (by unfold maxLen;omega)
 have h4:=((h3.free (R:=WD.Rest ⟨0,List.replicate n CD0,some ⟨b1,0,none⟩,n,List.replicate m LD0,some ⟨b2,0,none⟩,m⟩) fun u=>⟨fun q hq=>by rw[List.eq_of_mem_replicate hq];exact OwnInts.nil_,fun q hq=>by rw[List.eq_of_mem_replicate hq];exact OwnInts.nil_⟩).front 2 rfl rfl).front 2 rfl rfl
 refine⟨_,rfl,?_⟩
 simp only[WD.rowC,WD.rowL,List.length_replicate]
 exact h4
end
theorem kernbegin_any{x:SysD}{w:World}(hx:x.At w)(hk:chkSys x.sys=0):Calls Tryz.prog 62 #[x.val] w (WrlOwn w (beginW x.sys)):=by
 obtain⟨⟨-,hn⟩,hm,-⟩:=sizes_get (chkSys_zero hk).1
 rw[x.val_eq]
 refine enter Tryz.func62 rfl Tryz.ntmps62 rfl fun a hF=>?_
 have hW:=Wd.start w NoB
 refine c_sr<|pe<|e_box hF hW rfl rfl rfl rfl fun b1 a wc hF hW=>pe<|e_alloc hF hW ze_61 rfl rfl rfl fun b2 a wc hF hW=>l_nil<|t_n<|c_sd mixed_ok hW ((hW.del 0 rfl)) ?_
 clear hW;intro wc hW hS
 refine dq 1 [0] hF hS rfl fun a hF=>dv 1 rfl hF hS (y_loadOwn hF rfl 0 rfl rfl Tryz.underlying35 rfl) fun a hF=>dq 2 [2,4] hF hS rfl fun a hF=>dv 5 rfl hF hS (y_loadOwn hF rfl 0 rfl rfl Tryz.underlying36 rfl) fun a hF=>dq 1 [6] hF hS rfl fun a hF=>?_;refine d_2 3 7 Kr ?_ ?_;refine d_op rfl rfl<|e_makeSlice hF hW rfl rfl Tryz.underlying58 inf_75 rfl rfl Om (by unfold maxLen;omega) rfl rfl fun b3 a wc hF hW=>ai (hW.ds [0,0] rfl) fun hS=>d_1 7 Kr<|d_op rfl rfl<|e_makeSlice hF hW rfl rfl Tryz.underlying59 inf_195 rfl rfl Om (by unfold maxLen;omega) rfl rfl fun b4 a wc hF hW=>ai (hW.ds [0,0,0] rfl) fun hS=>dv 8 rfl hF hS (y_build hF rfl (fun w=>bu_KernG_61_1_2 _ _ _ _ _ _ w)) fun a hF=>d_1 9 Kr ?_;refine d_op rfl rfl<|e_storeAll rfl hF hW rfl rfl 2 rfl rfl rfl Kr sz_61 fun wc hW=>ai (hW.ds [0,0,0] rfl) fun hS=>?_;clear hS;refine d_nil Kr<|t_n<|wp_ret<|ret1 Tryz.results62 hF (rv_c hF rfl hW 2 rfl Tryz.underlying61 rfl sz_61) ?_;replace hW:=hW.ds [2,2] rfl;replace hW:=hW.front 1 rfl rfl
 obtain⟨y,hy,hWy⟩:=hW.made_world (n:=x.parts.length) (m:=x.chans.length) (flat_rep (enc:=encC) (q:=CD0) rfl _) (flat_rep (enc:=encL) (q:=LD0) rfl _) Om Om
 subst hy
 exact⟨_,by simp only[WD.val,List.length_replicate],by simp only[WD.wrl,beginW,SysD.sys,List.map_replicate,List.length_map];rfl,hWy⟩
 refine d_op rfl rfl<|e_makeSlice hF hW rfl rfl Tryz.underlying59 inf_195 rfl rfl Om (by unfold maxLen;omega) rfl rfl fun b5 a wc hF hW=>ai (hW.ds [0,0] rfl) fun hS=>d_1 3 Kr<|d_op rfl rfl<|e_makeSlice hF hW rfl rfl Tryz.underlying58 inf_75 rfl rfl Om (by unfold maxLen;omega) rfl rfl fun b6 a wc hF hW=>ai (hW.ds [0,0,0] rfl) fun hS=>dv 8 rfl hF hS (y_build hF rfl (fun w=>bu_KernG_61_1_2 _ _ _ _ _ _ w)) fun a hF=>d_1 9 Kr ?_;refine d_op rfl rfl<|e_storeAll rfl hF hW rfl rfl 2 rfl rfl rfl Kr sz_61 fun wc hW=>ai (hW.ds [0,0,0] rfl) fun hS=>?_;clear hS;refine d_nil Kr<|t_n<|wp_ret<|ret1 Tryz.results62 hF (rv_c hF rfl hW 2 rfl Tryz.underlying61 rfl sz_61) ?_;replace hW:=hW.ds [2,2] rfl
 obtain⟨y,hy,hWy⟩:=hW.made_world (n:=x.parts.length) (m:=x.chans.length) (flat_rep (enc:=encC) (q:=CD0) rfl _) (flat_rep (enc:=encL) (q:=LD0) rfl _) Om Om
 subst hy
 exact⟨_,by simp only[WD.val,List.length_replicate],by simp only[WD.wrl,beginW,SysD.sys,List.map_replicate,List.length_map];rfl,hWy⟩
theorem beginOf_any{x:SysD}{w:World}(hx:x.At w)(hk:chkSys x.sys=0):Calls Tryz.prog 75 #[x.val] w (WrlOwn w (beginW x.sys)):=by
 obtain⟨⟨-,hn⟩,hm,-⟩:=sizes_get (chkSys_zero hk).1
 rw[x.val_eq]
 refine enter Tryz.func75 rfl Tryz.ntmps75 rfl fun a hF=>?_
 have hW:=Wd.start w NoB
 refine c_sr<|pe<|e_box hF hW rfl rfl rfl rfl fun b1 a wc hF hW=>pe<|e_alloc hF hW ze_61 rfl rfl rfl fun b2 a wc hF hW=>l_nil<|t_n<|c_sd mixed_ok hW ((hW.del 0 rfl)) ?_
 clear hW;intro wc hW hS
 refine dq 1 [0] hF hS rfl fun a hF=>dv 1 rfl hF hS (y_loadOwn hF rfl 0 rfl rfl Tryz.underlying35 rfl) fun a hF=>dq 2 [2,4] hF hS rfl fun a hF=>dv 5 rfl hF hS (y_loadOwn hF rfl 0 rfl rfl Tryz.underlying36 rfl) fun a hF=>dq 1 [6] hF hS rfl fun a hF=>?_;refine d_2 3 7 Kr ?_ ?_;refine d_op rfl rfl<|e_makeSlice hF hW rfl rfl Tryz.underlying58 inf_75 rfl rfl Om (by unfold maxLen;omega) rfl rfl fun b3 a wc hF hW=>ai (hW.ds [0,0] rfl) fun hS=>d_1 7 Kr<|d_op rfl rfl<|e_makeSlice hF hW rfl rfl Tryz.underlying59 inf_195 rfl rfl Om (by unfold maxLen;omega) rfl rfl fun b4 a wc hF hW=>ai (hW.ds [0,0,0] rfl) fun hS=>dv 8 rfl hF hS (y_build hF rfl (fun w=>bu_KernG_61_1_2 _ _ _ _ _ _ w)) fun a hF=>d_1 9 Kr ?_;refine d_op rfl rfl<|e_storeAll rfl hF hW rfl rfl 2 rfl rfl rfl Kr sz_61 fun wc hW=>ai (hW.ds [0,0,0] rfl) fun hS=>?_;clear hS;refine d_nil Kr<|t_n<|wp_ret<|ret1 Tryz.results75 hF (rv_c hF rfl hW 2 rfl Tryz.underlying61 rfl sz_61) ?_;replace hW:=hW.ds [2,2] rfl;replace hW:=hW.front 1 rfl rfl
 obtain⟨y,hy,hWy⟩:=hW.made_world (n:=x.parts.length) (m:=x.chans.length) (flat_rep (enc:=encC) (q:=CD0) rfl _) (flat_rep (enc:=encL) (q:=LD0) rfl _) Om Om
 subst hy
 exact⟨_,by simp only[WD.val,List.length_replicate],by simp only[WD.wrl,beginW,SysD.sys,List.map_replicate,List.length_map];rfl,hWy⟩
 refine d_op rfl rfl<|e_makeSlice hF hW rfl rfl Tryz.underlying59 inf_195 rfl rfl Om (by unfold maxLen;omega) rfl rfl fun b5 a wc hF hW=>ai (hW.ds [0,0] rfl) fun hS=>d_1 3 Kr<|d_op rfl rfl<|e_makeSlice hF hW rfl rfl Tryz.underlying58 inf_75 rfl rfl Om (by unfold maxLen;omega) rfl rfl fun b6 a wc hF hW=>ai (hW.ds [0,0,0] rfl) fun hS=>dv 8 rfl hF hS (y_build hF rfl (fun w=>bu_KernG_61_1_2 _ _ _ _ _ _ w)) fun a hF=>d_1 9 Kr ?_;refine d_op rfl rfl<|e_storeAll rfl hF hW rfl rfl 2 rfl rfl rfl Kr sz_61 fun wc hW=>ai (hW.ds [0,0,0] rfl) fun hS=>?_;clear hS;refine d_nil Kr<|t_n<|wp_ret<|ret1 Tryz.results75 hF (rv_c hF rfl hW 2 rfl Tryz.underlying61 rfl sz_61) ?_;replace hW:=hW.ds [2,2] rfl
 obtain⟨y,hy,hWy⟩:=hW.made_world (n:=x.parts.length) (m:=x.chans.length) (flat_rep (enc:=encC) (q:=CD0) rfl _) (flat_rep (enc:=encL) (q:=LD0) rfl _) Om Om
 subst hy
 exact⟨_,by simp only[WD.val,List.length_replicate],by simp only[WD.wrl,beginW,SysD.sys,List.map_replicate,List.length_map];rfl,hWy⟩
def WrlErr(w:World)(W:Wrl)(E:Int)(e:Ending)(w':World):Prop:=∃y:WD,e=.returned (.tuple #[y.val,.int .i64 E])∧y.wrl=W∧Wd w NoB [y.rowC,y.rowL,.res y.Rest] w'
def stepErrW(s:Sys)(w:Wrl):Int:=if chkWorld s w=0 then(if w.tick=300 then 3 else 0) else chkWorld s w
theorem stepErrW_0{s:Sys}{w:Wrl}(h:chkWorld s w=0)(h2:w.tick≠300):stepErrW s w=0:=by unfold stepErrW;rw[if_pos h,if_neg h2]
def runErr(s:Sys)(n:Int):Int:=if chkSys s=0 then(if 0≤n∧n≤300 then 0 else 3) else chkSys s
def runOr(s:Sys)(n:Int):Wrl:=if runErr s n=0 then runW s n.toNat else Wrl.zero
theorem runErr_c{s:Sys}{n:Int}(h:chkSys s≠0):runErr s n=chkSys s:=if_neg h
theorem runErr_3{s:Sys}{n:Int}(h:chkSys s=0)(h2:¬(0≤n∧n≤300)):runErr s n=3:=by unfold runErr;rw[if_pos h,if_neg h2]
theorem runErr_0{s:Sys}{n:Int}(h:chkSys s=0)(h2:0≤n∧n≤300):runErr s n=0:=by unfold runErr;rw[if_pos h,if_pos h2]
set_option maxHeartbeats 4000000 in
theorem kernRun_any{x:SysD}{w:World}(hx:x.At w)(n:Int):Calls Tryz.prog 17 #[x.val,.int .i64 n] w (WrlErr w (runOr x.sys n) (runErr x.sys n)):=by
 have hb:=fun w1 (hb:Below w.heap.size w w1) hk=>kernbegin_any (hx.below hb) hk
 have hc:=fun w1 (hb:Below w.heap.size w w1)=>confCheck_any (hx.below hb)
 have hst:∀(k:Nat) (y':WD) (w1:World) (X:Nat→Prop) (b:Nat),(∀u,Chg X w1 u→Below w.heap.size w u)→y'.wrl=runW x.sys k→chkSys x.sys=0→k<300→Wd w1 X [.blk b 61 [.int .i64 y'.tick,.slice y'.ca y'.cells.length y'.cc,.slice y'.la y'.lines.length y'.lc],y'.rowC,y'.rowL,.res y'.Rest] w1→Calls Tryz.prog 63 #[x.val,.pointer (some ⟨b,0,none⟩)] w1 fun e w'=>∃y'':WD,e=.returned (.tuple #[])∧y''.wrl=runW x.sys (k+1)∧
   Wd w1 X [.blk b 61 [.int .i64 y''.tick,.slice y''.ca y''.cells.length y''.cc,.slice y''.la y''.lines.length y''.lc],y''.rowC,y''.rowL,.res y''.Rest] w':=fun k y' w1 X b hbl he hk ht hW=>by
  obtain⟨hr,htk⟩:=runW_right hk k Om
  rw[←he] at hr htk
  have:=kernStepIn_any (fun u hc=>hx.below (hbl u hc)) hW hk (rightD_iff.1 hr) (by have:y'.tick=k:=htk;omega)
  rw[he] at this
  exact this
 rw[x.val_eq] at*
 refine enter Tryz.func17 rfl Tryz.ntmps17 rfl fun a hF=>?_
 have hW:=Wd.start w NoB
 refine c_sr<|pe<|e_box hF hW rfl rfl rfl rfl fun b1 a wc hF hW=>pe<|e_alloc hF hW ze_61 rfl rfl rfl fun b2 a wc hF hW=>pq 1 hF rfl fun a hF=>l_nil<|t_n<|c_s<|c_sr<|pv hF hW (y_loadAll hF rfl 1 rfl Tryz.underlying39 rfl sz_39) fun a hF=>pe<|e_callK hF hW rfl rfl en_46 Rl (hc _ hW.below) fun a w1 hW hF=>pq 1 hF rfl fun a hF=>lts<|pq 2 hF rfl fun a hF=>?_;refine Fr.splitD hF (fun h3 hF=>?_) (fun h3 hF=>?_);refine l_nil<|t_n<|c_t hF rfl<|c_sr<|pv hF hW (y_build hF rfl (fun w=>bu_KernG_61_ w)) fun a hF=>pq 1 hF rfl fun a hF=>?_;refine pe<|e_storeAll rfl hF hW rfl rfl 0 rfl rfl rfl Kr sz_61 fun wc hW=>pq 1 hF rfl fun a hF=>l_nil<|t_n<|wp_ret<|t_r<|ret2 Tryz.results17 hF (rv_c hF rfl hW 0 rfl Tryz.underlying61 rfl sz_61) (rv_t hF rfl) ?_;replace hW:=hW.ds [0,0] rfl
 have h1:chkSys x.sys≠0:=Am
 exact⟨WD.zero,(by rw[runErr_c h1];rfl),(if_neg (by rw[runErr_c h1];exact h1)).symm,hW.zero_world⟩
 refine l_nil<|t_n<|c_f hF rfl<|wp_skip<|t_n<|c_s<|c_sr<|pq 2 hF rfl fun a hF=>?_;refine Fr.splitD hF (fun h4 hF=>?_) (fun h4 hF=>?_);refine pq 4 hF rfl fun a hF=>l_nil<|t_n<|c_t hF rfl<|c_sr<|pv hF hW (y_build hF rfl (fun w=>bu_KernG_61_ w)) fun a hF=>?_;refine pe<|e_storeAll rfl hF hW rfl rfl 0 rfl rfl rfl Kr sz_61 fun wc hW=>pq 1 hF rfl fun a hF=>l_nil<|t_n<|wp_ret<|t_r<|ret2 Tryz.results17 hF (rv_c hF rfl hW 0 rfl Tryz.underlying61 rfl sz_61) (rv_t hF rfl) ?_;replace hW:=hW.ds [0,0] rfl
 have h3:=runErr_3 (s:=x.sys) (n:=n) Om Om
 exact⟨WD.zero,(by rw[h3];rfl),(if_neg (by rw[h3];decide)).symm,hW.zero_world⟩
 refine pq 3 hF rfl fun a hF=>?_;refine Fr.splitD hF (fun h5 hF=>?_) (fun h5 hF=>?_);refine pq 1 hF rfl fun a hF=>l_nil<|t_n<|c_t hF rfl<|c_sr<|pv hF hW (y_build hF rfl (fun w=>bu_KernG_61_ w)) fun a hF=>?_;refine pe<|e_storeAll rfl hF hW rfl rfl 0 rfl rfl rfl Kr sz_61 fun wc hW=>pq 1 hF rfl fun a hF=>l_nil<|t_n<|wp_ret<|t_r<|ret2 Tryz.results17 hF (rv_c hF rfl hW 0 rfl Tryz.underlying61 rfl sz_61) (rv_t hF rfl) ?_;replace hW:=hW.ds [0,0] rfl
 have h3:=runErr_3 (s:=x.sys) (n:=n) Om Om
 exact⟨WD.zero,(by rw[h3];rfl),(if_neg (by rw[h3];decide)).symm,hW.zero_world⟩
 refine pq 1 hF rfl fun a hF=>l_nil<|t_n<|c_f hF rfl<|wp_skip<|t_n<|c_sr<|pv hF hW (y_loadAll hF rfl 1 rfl Tryz.underlying39 rfl sz_39) fun a hF=>?_;refine pe (e_callA hF rfl rfl en_62 Rl (hb _ hW.below Om) ?_);rintro e w1 ⟨y0,rfl,hy0,hN⟩;replace hW:=hW.comb3 hN;refine⟨_,rfl,fun a hF=>?_⟩;replace hF:=Fr.cast (v':=.agg #[.int .i64 y0.tick,.slice y0.ca y0.cells.length y0.cc,.slice y0.la y0.lines.length y0.lc]) rfl hF;refine pe<|e_alloc hF hW ze_61 rfl rfl rfl fun b6 a wc hF hW=>pe<|e_storeAll rfl hF hW rfl rfl 0 rfl rfl rfl Kr sz_61 fun wc hW=>l_nil<|t_n<|c_s<|c_sr<|pq 2 hF rfl fun a hF=>l_nil<|t_n<|wp_block ?_;replace hW:=hW.fs [3,3,3,3] rfl;refine c_loop (G:=Nat×WD) (fun⟨k,y⟩=>[(24,.int .i64 (k:Int))]) (fun⟨k,y⟩=>[.blk b6 61 [.int .i64 y.tick,.slice y.ca y.cells.length y.cc,.slice y.la y.lines.length y.lc],y.rowC,y.rowL,.res y.Rest]) (fun⟨k,y⟩=>(k:Int)≤n∧y.wrl=runW x.sys k) (fun⟨k,y⟩=>n.toNat - k) (0,y0) (hF.ks [0,1,2,4,5,6,7,11,19,23] rfl) (Fr.cons hF (t:=24) rfl Rg (Fr.nil hF)) (hW) ?_ ?_
 exact⟨by omega,hy0⟩
 clear hF hW
 try clear a
 intro gq a wc hC hF hW
 obtain⟨k,y⟩:=gq
 dsimp only at hC
 obtain⟨hkn,hyk⟩:=hC
 refine c_sr<|pq 1 hF rfl fun a hF=>?_;refine Fr.splitD hF (fun h7 hF=>?_) (fun h7 hF=>?_);refine l_nil<|t_n<|c_s<|c_t hF rfl<|wp_skip<|t_n<|c_s<|wp_block ?_
 obtain⟨X,hL,hbl,hback⟩:=Wd.lend [_,_,_,_] hW
 refine c_r<|pv hF hW (y_loadAll hF rfl 5 rfl Tryz.underlying39 rfl sz_39) fun a hF=>?_;refine pe (e_callA hF rfl rfl en_63 Rl (hst k y _ X _ hbl hyk Om Om hL) ?_);rintro e w1 ⟨y2,rfl,hy2,hN⟩;replace hW:=hback _ _ hN;refine⟨_,rfl,fun a hF=>?_⟩;refine l_nil<|b_n<|t_n<|c_r<|pv hF hW (y_add hF rfl rfl (IntWalk.i64_in _ Om)) fun a hF=>pq 1 hF rfl fun a hF=>l_nil<|t_n ?_;refine⟨(k+1,y2),?_,?_,?_,?_⟩
 exact⟨by omega,hy2⟩
 first|omega|(dsimp only;omega)
 exact hF.a1 rfl rfl
 exact hW
 refine l_nil<|t_n<|c_s<|c_f hF rfl<|wp_exit<|t_x<|t_x<|b_h<|t_n<|c_sr<|pv hF hW (y_loadAll hF rfl 0 rfl Tryz.underlying61 rfl sz_61) fun a hF=>pe<|e_storeAll rfl hF hW rfl rfl 4 rfl rfl rfl Kr sz_61 fun wc hW=>pq 1 hF rfl fun a hF=>l_nil<|t_n<|wp_ret<|ret2 Tryz.results17 hF (rv_c hF rfl hW 4 rfl Tryz.underlying61 rfl sz_61) (rv_t hF rfl) ?_;replace hW:=hW.ds [0,3,3] rfl
 have h3:=runErr_0 (s:=x.sys) (n:=n) Om Om
 have hkn':n.toNat=k:=by omega
 refine⟨y,(by rw[h3];rfl),?_,hW⟩
 unfold runOr
 rw[if_pos h3,hkn']
 exact hyk
end
section
open Go.ChangeShapes Go.WideShapes Go.ChangeAt Go.RowKit
section
variable {P:Program} {w0 w:World} {X:Nat→Prop} {es:List Asn} {a:Act} {ds:List Deferred} {N:Nat} {env:List (Nat×Value)} {dst:Option Tmp} {ty:TypeId} {ps:String} {af:Array Edge} {gd:Option (Nat×Bool)} {x y:Operand} {k:IntKind} {m n:Int} {at_:Array TypeId}
end
end
section
open Go.ChangeShapes Go.WideShapes Go.ChangeAt Go.RowKit
set_option maxRecDepth 100000
section
variable {L:List PP} {pa sa:Option Addr} {b:Nat} {T:TypeId} {u:World} {y:WD}
end
end
section
open Go.ChangeShapes Go.WideShapes Go.ChangeAt Go.RowKit
set_option maxRecDepth 100000
end
section
open Go.ChangeShapes Go.WideShapes Go.ChangeAt Go.RowKit
set_option maxRecDepth 100000
theorem run_step{s:Sys}(hk:chkSys s=0){n:Nat}(hn:n<300):stepErrW s (runW s n)=0∧stepW s (runW s n)=runW s (n+1):=by
 obtain⟨hr,ht⟩:=runW_right hk n Om
 exact⟨stepErrW_0 (chkWorld_0 hk (right_iff.2 hr)) Om,rfl⟩
end
section
open Go.ChangeShapes Go.WideShapes Go.ChangeAt Go.RowKit
set_option maxRecDepth 100000
end
section
open Go.ChangeShapes Go.WideShapes Go.ChangeAt Go.RowKit
set_option maxRecDepth 100000
end
section
open Go.ChangeShapes Go.WideShapes Go.ChangeAt Go.RowKit
set_option maxRecDepth 100000
section
variable {H:Type} {enc:TypeId×Value→H} {w:World} {base base':Nat} {r:Reach} {spare:Nat→Bool} {held:Bool} {v:Value} {d:DataW H} {p:List MemPlace}
end
end
end Go.Proofs.YtndcjmopebcdgaaGreatDoor
