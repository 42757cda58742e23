/- Begin, Step and Run of the kernel. The reference's SameLines. Runs and steps that are right, and that are not. view.Of: what a partition sees; SameViews. Plain laws: what a partition sees comes from those alone that reach it. -/
import Derived.Test.YtndcjmopebcdgaaGreatDoorKernF
import Derived.Test.YtndcjmopebcdgaaGreatDoorFlowB
import Derived.Test.YtndcjmopebcdgaaGreatDoorConfD1
import Derived.Test.YtndcjmopebcdgaaGreatDoorSkJ
import Derived.Test.YtndcjmopebcdgaaGreatDoorSkH
set_option linter.unusedSimpArgs false
set_option linter.unusedVariables false
namespace Go.Proofs.YtndcjmopebcdgaaGreatDoor
section
open Go.ChangeShapes Go.WideShapes Go.ChangeAt Go.RowKit
theorem bu_KernG_61_(w:World):(Instr.build 61 #[]).run Tryz.prog w=.ok (.agg #[(.int .i64 0),(.slice none 0 0),(.slice none 0 0)]) w:=by kernel_rfl
theorem bu_KernG_61_1_2(x0:Option Addr)(x0n x0c:Nat)(x1:Option Addr)(x1n x1c:Nat)(w:World):(Instr.build 61 #[(1,(.slice x0 x0n x0c)),(2,(.slice x1 x1n x1c))]).run Tryz.prog w=.ok (.agg #[(.int .i64 0),(.slice x0 x0n x0c),(.slice x1 x1n x1c)]) w:=by kernel_rfl
set_option maxRecDepth 100000
theorem flat_len{α:Type}{enc:α→List Value}{size:Nat}(hs:∀q,(enc q).length=size):∀l:List α,(l.flatMap enc).length=l.length*size
 |[]=>by simp
 |q::r=>by rw[List.flatMap_cons,List.length_append,hs,flat_len hs r,List.length_cons,Nat.succ_mul,Nat.add_comm]
theorem flat_rep{α:Type}{enc:α→List Value}{zl:List Value}{q:α}(hz:zl=enc q):∀n:Nat,(List.replicate n zl).flatten=(List.replicate n q).flatMap enc
 |0=>rfl
 |n+1=>by rw[List.replicate_succ,List.replicate_succ,List.flatten_cons,List.flatMap_cons,flat_rep hz n,hz]
section
variable {w0 w:World} {X:Nat→Prop} {es:List Asn}
theorem Wd.zero_world(hW:Wd w0 X es w):Wd w0 X (WD.zero.rowC::WD.zero.rowL::.res WD.zero.Rest::es) w:=
 ((hW.free (R:=WD.zero.Rest) fun _=>⟨fun _ h=>(by cases h),fun _ h=>(by cases h)⟩).nil_row _ _).nil_row _ _
theorem Wd.made_world{b1 b2 n m:Nat}{l1 l2:List Value}(hW:Wd w0 X (.blk b1 75 l1::.blk b2 195 l2::es) w)(h1:l1=(List.replicate n CD0).flatMap encC)(h2:l2=(List.replicate m LD0).flatMap encL)(hn:n≤1024)(hm:m≤1024):
  ∃y:WD,y=⟨0,List.replicate n CD0,some ⟨b1,0,none⟩,n,List.replicate m LD0,some ⟨b2,0,none⟩,m⟩∧Wd w0 X (y.rowC::y.rowL::.res y.Rest::es) w:=by
 subst h1 h2
 have h3:=(hW.blk_row 0 rfl 16 n (by rw[flat_len encC_len,List.length_replicate]) (by unfold maxLen;omega)).blk_row 1 rfl 1 m (by rw[flat_len encL_len,List.length_replicate]) (by unfold maxLen;omega)
 have h4:=((h3.free (R:=WD.Rest ⟨0,List.replicate n CD0,some ⟨b1,0,none⟩,n,List.replicate m LD0,some ⟨b2,0,none⟩,m⟩) fun u=>⟨fun q hq=>by rw[List.eq_of_mem_replicate hq];exact OwnInts.nil_,fun q hq=>by rw[List.eq_of_mem_replicate hq];exact OwnInts.nil_⟩).front 2 rfl rfl).front 2 rfl rfl
 refine⟨_,rfl,?_⟩
 simp only[WD.rowC,WD.rowL,List.length_replicate]
 exact h4
end
theorem kernbegin_any{x:SysD}{w:World}(hx:x.At w)(hk:chkSys x.sys=0):Calls Tryz.prog 62 #[x.val] w (WrlOwn w (beginW x.sys)):=by
 obtain⟨⟨-,hn⟩,hm,-⟩:=sizes_get (chkSys_zero hk).1
 rw[x.val_eq]
 refine enter Tryz.func62 rfl Tryz.ntmps62 rfl fun a hF=>?_
 have hW:=Wd.start w NoB
 refine c_sr<|pe<|e_box hF hW rfl rfl rfl rfl fun b1 a wc hF hW=>pe<|e_alloc hF hW ze_61 rfl rfl rfl fun b2 a wc hF hW=>l_nil<|t_n<|c_sd mixed_ok hW ((hW.del 0 rfl)) ?_
 clear hW;intro wc hW hS
 refine dq 1 [0] hF hS rfl fun a hF=>dv 1 rfl hF hS (y_loadOwn hF rfl 0 rfl rfl Tryz.underlying35 rfl) fun a hF=>dq 2 [2,4] hF hS rfl fun a hF=>dv 5 rfl hF hS (y_loadOwn hF rfl 0 rfl rfl Tryz.underlying36 rfl) fun a hF=>dq 1 [6] hF hS rfl fun a hF=>?_;refine d_2 3 7 Kr ?_ ?_;refine d_op rfl rfl<|e_makeSlice hF hW rfl rfl Tryz.underlying58 inf_75 rfl rfl Om (by unfold maxLen;omega) rfl rfl fun b3 a wc hF hW=>ai (hW.ds [0,0] rfl) fun hS=>d_1 7 Kr<|d_op rfl rfl<|e_makeSlice hF hW rfl rfl Tryz.underlying59 inf_195 rfl rfl Om (by unfold maxLen;omega) rfl rfl fun b4 a wc hF hW=>ai (hW.ds [0,0,0] rfl) fun hS=>dv 8 rfl hF hS (y_build hF rfl (fun w=>bu_KernG_61_1_2 _ _ _ _ _ _ w)) fun a hF=>d_1 9 Kr ?_;refine d_op rfl rfl<|e_storeAll rfl hF hW rfl rfl 2 rfl rfl rfl Kr sz_61 fun wc hW=>ai (hW.ds [0,0,0] rfl) fun hS=>?_;clear hS;refine d_nil Kr<|t_n<|wp_ret<|ret1 Tryz.results62 hF (rv_c hF rfl hW 2 rfl Tryz.underlying61 rfl sz_61) ?_;replace hW:=hW.ds [2,2] rfl;replace hW:=hW.front 1 rfl rfl
 obtain⟨y,hy,hWy⟩:=hW.made_world (n:=x.parts.length) (m:=x.chans.length) (flat_rep (enc:=encC) (q:=CD0) rfl _) (flat_rep (enc:=encL) (q:=LD0) rfl _) Om Om
 subst hy
 exact⟨_,by simp only[WD.val,List.length_replicate],by simp only[WD.wrl,beginW,SysD.sys,List.map_replicate,List.length_map];rfl,hWy⟩
 refine d_op rfl rfl<|e_makeSlice hF hW rfl rfl Tryz.underlying59 inf_195 rfl rfl Om (by unfold maxLen;omega) rfl rfl fun b5 a wc hF hW=>ai (hW.ds [0,0] rfl) fun hS=>d_1 3 Kr<|d_op rfl rfl<|e_makeSlice hF hW rfl rfl Tryz.underlying58 inf_75 rfl rfl Om (by unfold maxLen;omega) rfl rfl fun b6 a wc hF hW=>ai (hW.ds [0,0,0] rfl) fun hS=>dv 8 rfl hF hS (y_build hF rfl (fun w=>bu_KernG_61_1_2 _ _ _ _ _ _ w)) fun a hF=>d_1 9 Kr ?_;refine d_op rfl rfl<|e_storeAll rfl hF hW rfl rfl 2 rfl rfl rfl Kr sz_61 fun wc hW=>ai (hW.ds [0,0,0] rfl) fun hS=>?_;clear hS;refine d_nil Kr<|t_n<|wp_ret<|ret1 Tryz.results62 hF (rv_c hF rfl hW 2 rfl Tryz.underlying61 rfl sz_61) ?_;replace hW:=hW.ds [2,2] rfl
 obtain⟨y,hy,hWy⟩:=hW.made_world (n:=x.parts.length) (m:=x.chans.length) (flat_rep (enc:=encC) (q:=CD0) rfl _) (flat_rep (enc:=encL) (q:=LD0) rfl _) Om Om
 subst hy
 exact⟨_,by simp only[WD.val,List.length_replicate],by simp only[WD.wrl,beginW,SysD.sys,List.map_replicate,List.length_map];rfl,hWy⟩
def WrlErr(w:World)(W:Wrl)(E:Int)(e:Ending)(w':World):Prop:=∃y:WD,e=.returned (.tuple #[y.val,.int .i64 E])∧y.wrl=W∧Wd w NoB [y.rowC,y.rowL,.res y.Rest] w'
def runErr(s:Sys)(n:Int):Int:=if chkSys s=0 then(if 0≤n∧n≤300 then 0 else 3) else chkSys s
def runOr(s:Sys)(n:Int):Wrl:=if runErr s n=0 then runW s n.toNat else Wrl.zero
theorem runErr_c{s:Sys}{n:Int}(h:chkSys s≠0):runErr s n=chkSys s:=if_neg h
theorem runErr_3{s:Sys}{n:Int}(h:chkSys s=0)(h2:¬(0≤n∧n≤300)):runErr s n=3:=by unfold runErr;rw[if_pos h,if_neg h2]
theorem runErr_0{s:Sys}{n:Int}(h:chkSys s=0)(h2:0≤n∧n≤300):runErr s n=0:=by unfold runErr;rw[if_pos h,if_pos h2]
set_option maxHeartbeats 4000000 in
theorem kernRun_any{x:SysD}{w:World}(hx:x.At w)(n:Int):Calls Tryz.prog 17 #[x.val,.int .i64 n] w (WrlErr w (runOr x.sys n) (runErr x.sys n)):=by
 have hb:=fun w1 (hb:Below w.heap.size w w1) hk=>kernbegin_any (hx.below hb) hk
 have hc:=fun w1 (hb:Below w.heap.size w w1)=>confCheck_any (hx.below hb)
 have hst:∀(k:Nat) (y':WD) (w1:World) (X:Nat→Prop) (b:Nat),(∀u,Chg X w1 u→Below w.heap.size w u)→y'.wrl=runW x.sys k→chkSys x.sys=0→k<300→Wd w1 X [.blk b 61 [.int .i64 y'.tick,.slice y'.ca y'.cells.length y'.cc,.slice y'.la y'.lines.length y'.lc],y'.rowC,y'.rowL,.res y'.Rest] w1→Calls Tryz.prog 63 #[x.val,.pointer (some ⟨b,0,none⟩)] w1 fun e w'=>∃y'':WD,e=.returned (.tuple #[])∧y''.wrl=runW x.sys (k+1)∧
   Wd w1 X [.blk b 61 [.int .i64 y''.tick,.slice y''.ca y''.cells.length y''.cc,.slice y''.la y''.lines.length y''.lc],y''.rowC,y''.rowL,.res y''.Rest] w':=fun k y' w1 X b hbl he hk ht hW=>by
  obtain⟨hr,htk⟩:=runW_right hk k Om
  rw[←he] at hr htk
  have:=kernStepIn_any (fun u hc=>hx.below (hbl u hc)) hW hk (rightD_iff.1 hr) (by have:y'.tick=k:=htk;omega)
  rw[he] at this
  exact this
 rw[x.val_eq] at*
 refine enter Tryz.func17 rfl Tryz.ntmps17 rfl fun a hF=>?_
 have hW:=Wd.start w NoB
 refine c_sr<|pe<|e_box hF hW rfl rfl rfl rfl fun b1 a wc hF hW=>pe<|e_alloc hF hW ze_61 rfl rfl rfl fun b2 a wc hF hW=>pq 1 hF rfl fun a hF=>l_nil<|t_n<|c_s<|c_sr<|pv hF hW (y_loadAll hF rfl 1 rfl Tryz.underlying39 rfl sz_39) fun a hF=>pe<|e_callK hF hW rfl rfl en_46 Rl (hc _ hW.below) fun a w1 hW hF=>pq 1 hF rfl fun a hF=>lts<|pq 2 hF rfl fun a hF=>?_;refine Fr.splitD hF (fun h3 hF=>?_) (fun h3 hF=>?_);refine l_nil<|t_n<|c_t hF rfl<|c_sr<|pv hF hW (y_build hF rfl (fun w=>bu_KernG_61_ w)) fun a hF=>pq 1 hF rfl fun a hF=>?_;refine pe<|e_storeAll rfl hF hW rfl rfl 0 rfl rfl rfl Kr sz_61 fun wc hW=>pq 1 hF rfl fun a hF=>l_nil<|t_n<|wp_ret<|t_r<|ret2 Tryz.results17 hF (rv_c hF rfl hW 0 rfl Tryz.underlying61 rfl sz_61) (rv_t hF rfl) ?_;replace hW:=hW.ds [0,0] rfl
 have h1:chkSys x.sys≠0:=Am
 exact⟨WD.zero,(by rw[runErr_c h1];rfl),(if_neg (by rw[runErr_c h1];exact h1)).symm,hW.zero_world⟩
 refine l_nil<|t_n<|c_f hF rfl<|wp_skip<|t_n<|c_s<|c_sr<|pq 2 hF rfl fun a hF=>?_;refine Fr.splitD hF (fun h4 hF=>?_) (fun h4 hF=>?_);refine pq 4 hF rfl fun a hF=>l_nil<|t_n<|c_t hF rfl<|c_sr<|pv hF hW (y_build hF rfl (fun w=>bu_KernG_61_ w)) fun a hF=>?_;refine pe<|e_storeAll rfl hF hW rfl rfl 0 rfl rfl rfl Kr sz_61 fun wc hW=>pq 1 hF rfl fun a hF=>l_nil<|t_n<|wp_ret<|t_r<|ret2 Tryz.results17 hF (rv_c hF rfl hW 0 rfl Tryz.underlying61 rfl sz_61) (rv_t hF rfl) ?_;replace hW:=hW.ds [0,0] rfl
 have h3:=runErr_3 (s:=x.sys) (n:=n) Om Om
 exact⟨WD.zero,(by rw[h3];rfl),(if_neg (by rw[h3];decide)).symm,hW.zero_world⟩
 refine pq 3 hF rfl fun a hF=>?_;refine Fr.splitD hF (fun h5 hF=>?_) (fun h5 hF=>?_);refine pq 1 hF rfl fun a hF=>l_nil<|t_n<|c_t hF rfl<|c_sr<|pv hF hW (y_build hF rfl (fun w=>bu_KernG_61_ w)) fun a hF=>?_;refine pe<|e_storeAll rfl hF hW rfl rfl 0 rfl rfl rfl Kr sz_61 fun wc hW=>pq 1 hF rfl fun a hF=>l_nil<|t_n<|wp_ret<|t_r<|ret2 Tryz.results17 hF (rv_c hF rfl hW 0 rfl Tryz.underlying61 rfl sz_61) (rv_t hF rfl) ?_;replace hW:=hW.ds [0,0] rfl
 have h3:=runErr_3 (s:=x.sys) (n:=n) Om Om
 exact⟨WD.zero,(by rw[h3];rfl),(if_neg (by rw[h3];decide)).symm,hW.zero_world⟩
 refine pq 1 hF rfl fun a hF=>l_nil<|t_n<|c_f hF rfl<|wp_skip<|t_n<|c_sr<|pv hF hW (y_loadAll hF rfl 1 rfl Tryz.underlying39 rfl sz_39) fun a hF=>?_;refine pe (e_callA hF rfl rfl en_62 Rl (hb _ hW.below Om) ?_);rintro e w1 ⟨y0,rfl,hy0,hN⟩;replace hW:=hW.comb3 hN;refine⟨_,rfl,fun a hF=>?_⟩;replace hF:=Fr.cast (v':=.agg #[.int .i64 y0.tick,.slice y0.ca y0.cells.length y0.cc,.slice y0.la y0.lines.length y0.lc]) rfl hF;refine pe<|e_alloc hF hW ze_61 rfl rfl rfl fun b6 a wc hF hW=>pe<|e_storeAll rfl hF hW rfl rfl 0 rfl rfl rfl Kr sz_61 fun wc hW=>l_nil<|t_n<|c_s<|c_sr<|pq 2 hF rfl fun a hF=>l_nil<|t_n<|wp_block ?_;replace hW:=hW.fs [3,3,3,3] rfl;refine c_loop (G:=Nat×WD) (fun⟨k,y⟩=>[(24,.int .i64 (k:Int))]) (fun⟨k,y⟩=>[.blk b6 61 [.int .i64 y.tick,.slice y.ca y.cells.length y.cc,.slice y.la y.lines.length y.lc],y.rowC,y.rowL,.res y.Rest]) (fun⟨k,y⟩=>(k:Int)≤n∧y.wrl=runW x.sys k) (fun⟨k,y⟩=>n.toNat - k) (0,y0) (hF.ks [0,1,2,4,5,6,7,11,19,23] rfl) (Fr.cons hF (t:=24) rfl Rg (Fr.nil hF)) (hW) ?_ ?_
 exact⟨by omega,hy0⟩
 clear hF hW
 try clear a
 intro gq a wc hC hF hW
 obtain⟨k,y⟩:=gq
 dsimp only at hC
 obtain⟨hkn,hyk⟩:=hC
 refine c_sr<|pq 1 hF rfl fun a hF=>?_;refine Fr.splitD hF (fun h7 hF=>?_) (fun h7 hF=>?_);refine l_nil<|t_n<|c_s<|c_t hF rfl<|wp_skip<|t_n<|c_s<|wp_block ?_
 obtain⟨X,hL,hbl,hback⟩:=Wd.lend [_,_,_,_] hW
 refine c_r<|pv hF hW (y_loadAll hF rfl 5 rfl Tryz.underlying39 rfl sz_39) fun a hF=>?_;refine pe (e_callA hF rfl rfl en_63 Rl (hst k y _ X _ hbl hyk Om Om hL) ?_);rintro e w1 ⟨y2,rfl,hy2,hN⟩;replace hW:=hback _ _ hN;refine⟨_,rfl,fun a hF=>?_⟩;refine l_nil<|b_n<|t_n<|c_r<|pv hF hW (y_add hF rfl rfl (IntWalk.i64_in _ Om)) fun a hF=>pq 1 hF rfl fun a hF=>l_nil<|t_n ?_;refine⟨(k+1,y2),?_,?_,?_,?_⟩
 exact⟨by omega,hy2⟩
 first|omega|(dsimp only;omega)
 exact hF.a1 rfl rfl
 exact hW
 refine l_nil<|t_n<|c_s<|c_f hF rfl<|wp_exit<|t_x<|t_x<|b_h<|t_n<|c_sr<|pv hF hW (y_loadAll hF rfl 0 rfl Tryz.underlying61 rfl sz_61) fun a hF=>pe<|e_storeAll rfl hF hW rfl rfl 4 rfl rfl rfl Kr sz_61 fun wc hW=>pq 1 hF rfl fun a hF=>l_nil<|t_n<|wp_ret<|ret2 Tryz.results17 hF (rv_c hF rfl hW 4 rfl Tryz.underlying61 rfl sz_61) (rv_t hF rfl) ?_;replace hW:=hW.ds [0,3,3] rfl
 have h3:=runErr_0 (s:=x.sys) (n:=n) Om Om
 have hkn':n.toNat=k:=by omega
 refine⟨y,(by rw[h3];rfl),?_,hW⟩
 unfold runOr
 rw[if_pos h3,hkn']
 exact hyk
end
section
open Go.ChangeShapes Go.WideShapes Go.ChangeAt Go.RowKit
set_option maxRecDepth 100000
end
section
open Go.ChangeShapes Go.WideShapes Go.ChangeAt Go.RowKit
set_option maxRecDepth 100000
end
section
open Go.ChangeShapes Go.WideShapes Go.ChangeAt Go.RowKit
set_option maxRecDepth 100000
structure Vw where
 cell:Cel
 lines:List (List Int)
instance :DecidableEq Vw:=fun x y=>decidable_of_iff (x.cell=y.cell∧x.lines=y.lines)
 ⟨fun h=>by cases x;cases y;simp_all,fun h=>by subst h;exact⟨rfl,rfl⟩⟩
end
section
set_option maxRecDepth 100000
theorem getD_set_no{α:Type}{l:List α}{n k:Nat}{c d:α}(h:n≠k):(l.set n c).getD k d=l.getD k d:=by
 simp only[List.getD,List.getElem?_set,if_neg h]
structure Agree(s:Sys)(R:Nat→Prop)(w v:Wrl):Prop where
 tick:w.tick=v.tick
 cells:∀n,R n→w.cells.getD n Cel.zero=v.cells.getD n Cel.zero
 lines:∀k n,k<s.chans.length→R n→((s.chans.getD k C0).from_=(n:Int)∨(s.chans.getD k C0).to_=(n:Int))→w.lines.getD k []=v.lines.getD k []
def Shut(s:Sys)(R:Nat→Prop):Prop:=∀a b:Nat,a<s.parts.length→R b→leadsB s.chans a b=true→R a
theorem leads_at{cs:List Chn}{k a b:Nat}(hk:k<cs.length)(h:edgeB (cs.getD k C0) a b=true):leadsB cs a b=true:=
 List.any_eq_true.2 ⟨_,mem_getD C0 hk,h⟩
theorem step_out{s:Sys}{w:Wrl}{p:Nat}{R:Nat→Prop}(hk:chkSys s=0)(hr:Right s w)(hp:p<s.parts.length)(hS:Shut s R)(hR:¬R p):
  (∀n,R n→(stepP s p w).cells.getD n Cel.zero=w.cells.getD n Cel.zero)∧
  ∀k n,k<s.chans.length→R n→((s.chans.getD k C0).from_=(n:Int)∨(s.chans.getD k C0).to_=(n:Int))→(stepP s p w).lines.getD k []=w.lines.getD k []:=by
 obtain⟨⟨c,q⟩,e⟩:∃q,stepOf (s.parts.getD p Pt0) (w.cells.getD p Cel.zero)=q:=⟨_,rfl⟩
 have hw:=stepOf_want (c:=w.cells.getD p Cel.zero) hk hp
 rw[e] at hw
 dsimp only at hw
 have hne:∀n,R n→p≠n:=fun n hn h=>hR (h▸hn)
 by_cases hz:q.kind=0
 ·rw[stepP_0 e hz]
  exact⟨fun n hn=>getD_set_no (hne n hn),fun _ _ _ _ _=>rfl⟩
 ·rw[stepP_1 e hz rfl]
  have hw:Wants s p q:=hw.resolve_left fun h=>hz (by rw[h];rfl)
  refine⟨fun n hn=>getD_set_no (hne n hn),fun k n hkl hn ht=>?_⟩
  dsimp only
  by_cases hkk:q.chan.toNat=k
  ·subst hkk
   have hkd:=kind_ok hk hkl
   rcases hw.kind with⟨h,-⟩|⟨h,-⟩
   ·have hf:=hw.put h
    rcases ht with ht|ht
    ·exact absurd (Int.ofNat.inj (hf.symm.trans ht)) (hne n hn)
    ·exact absurd (hS p n hp hn (leads_at hkl (by unfold edgeB;rw[hf,ht];simp))) hR
   ·have hf:=hw.get h
    rcases ht with ht|ht
    ·rcases hkd with hd|hd
     ·have hl:=hr.line q.chan.toNat (by rw[hr.ll];exact hkl)
      obtain⟨m,v,b,hg,-,hm⟩:=getOf_ok hl
      have:(chanOf (s.chans.getD q.chan.toNat C0).kind q c (w.lines.getD q.chan.toNat [])).2=w.lines.getD q.chan.toNat []:=by
       unfold chanOf
       rw[if_neg (by rw[h];decide)]
       dsimp only
       rw[hg]
       exact hm hd
      rw[this,getD_set (by rw[hr.ll];exact hkl),if_pos rfl]
     ·exact absurd (hS p n hp hn (leads_at hkl (by unfold edgeB;rw[hf,ht,hd];simp))) hR
    ·exact absurd (Int.ofNat.inj (hf.symm.trans ht)) (hne n hn)
  ·exact getD_set_no hkk
theorem getD_set_eq{α:Type}{l m:List α}{n p:Nat}{c d:α}(h:l.length=m.length)(hd:l.getD n d=m.getD n d):(l.set p c).getD n d=(m.set p c).getD n d:=by
 by_cases e:p=n
 ·subst e
  simp only[List.getD,List.getElem?_set,if_true,h]
 ·rw[getD_set_no e,getD_set_no e,hd]
theorem step_in{s s':Sys}{w v:Wrl}{p:Nat}{R:Nat→Prop}(hk:chkSys s=0)(hp:p<s.parts.length)(hR:R p)(hA:Agree s R w v)(hcl:w.cells.length=v.cells.length)(hll:w.lines.length=v.lines.length)
  (hpt:s'.parts.getD p Pt0=s.parts.getD p Pt0) (hch:s'.chans=s.chans):Agree s R (stepP s p w) (stepP s' p v):=by
 obtain⟨⟨c,q⟩,e⟩:∃q,stepOf (s.parts.getD p Pt0) (w.cells.getD p Cel.zero)=q:=⟨_,rfl⟩
 have e':stepOf (s'.parts.getD p Pt0) (v.cells.getD p Cel.zero)=(c,q):=by rw[hpt,←hA.cells p hR,e]
 have hw:=stepOf_want (c:=w.cells.getD p Cel.zero) hk hp
 rw[e] at hw
 dsimp only at hw
 by_cases hz:q.kind=0
 ·rw[stepP_0 e hz,stepP_0 e' hz]
  exact⟨by show w.tick+1=v.tick+1;rw[hA.tick],fun n hn=>getD_set_eq hcl (hA.cells n hn),hA.lines⟩
 ·have hw:Wants s p q:=hw.resolve_left fun h=>hz (by rw[h];rfl)
  have hkl:q.chan.toNat<s.chans.length:=by have:=hw.c0;have:=hw.c1;omega
  have hl:w.lines.getD q.chan.toNat []=v.lines.getD q.chan.toNat []:=by
   rcases hw.kind with⟨h,-⟩|⟨h,-⟩
   ·exact hA.lines _ p hkl hR (.inl (hw.put h))
   ·exact hA.lines _ p hkl hR (.inr (hw.get h))
  rw[stepP_1 e hz rfl,stepP_1 e' hz rfl,hch,hl]
  exact⟨by show w.tick+1=v.tick+1;rw[hA.tick],fun n hn=>getD_set_eq hcl (hA.cells n hn),fun k n h1 h2 h3=>getD_set_eq hll (hA.lines k n h1 h2 h3)⟩
structure Alike(s s':Sys)(R:Nat→Prop):Prop where
 chans:s'.chans=s.chans
 slots:s'.slots=s.slots
 len:s'.parts.length=s.parts.length
 parts:∀n,R n→s'.parts.getD n Pt0=s.parts.getD n Pt0
theorem agree_step{s s':Sys}{w v:Wrl}{R:Nat→Prop}(hk:chkSys s=0)(hk':chkSys s'=0)(hL:Alike s s' R)(hS:Shut s R)(hr:Right s w)(hr':Right s' v)(hA:Agree s R w v):Agree s R (stepW s w) (stepW s' v):=by
 obtain⟨p,e,hp⟩:=who_part hk hr.t0
 have e1:stepW s w=stepP s p w:=by unfold stepW;rw[e,Int.toNat_natCast]
 have e2:stepW s' v=stepP s' p v:=by unfold stepW;rw[hL.slots,←hA.tick,e,Int.toNat_natCast]
 rw[e1,e2]
 have hcl:w.cells.length=v.cells.length:=by rw[hr.cl,hr'.cl,hL.len]
 have hll:w.lines.length=v.lines.length:=by rw[hr.ll,hr'.ll,hL.chans]
 by_cases hR:R p
 ·exact step_in hk hp hR hA hcl hll (hL.parts p hR) hL.chans
 ·have hS':Shut s' R:=fun a b ha hb hl=>hS a b (by rw[←hL.len];exact ha) hb (by rw[←hL.chans];exact hl)
  obtain⟨a1,a2⟩:=step_out hk hr hp hS hR
  obtain⟨b1,b2⟩:=step_out hk' hr' (by rw[hL.len];exact hp) hS' hR
  refine⟨?_,fun n hn=>(a1 n hn).trans ((hA.cells n hn).trans (b1 n hn).symm),fun k n h1 h2 h3=>(a2 k n h1 h2 h3).trans ((hA.lines k n h1 h2 h3).trans (b2 k n (by rw[hL.chans];exact h1) h2 (by rw[hL.chans];exact h3)).symm)⟩
  rw[←e1,←e2,stepW_tick,stepW_tick,hA.tick]
theorem agree_run{s s':Sys}{R:Nat→Prop}(hk:chkSys s=0)(hk':chkSys s'=0)(hL:Alike s s' R)(hS:Shut s R):∀n:Nat,n≤300→Agree s R (runW s n) (runW s' n)
 |0,_=>by
  have:runW s' 0=runW s 0:=by unfold runW beginW;rw[hL.len,hL.chans]
  rw[this]
  exact⟨rfl,fun _ _=>rfl,fun _ _ _ _ _=>rfl⟩
 |n+1,h=>agree_step hk hk' hL hS (runW_right hk n Om).1 (runW_right hk' n Om).1 (agree_run hk hk' hL hS n Om)
def Rchs(s:Sys)(u:Nat)(a:Nat):Prop:=a<s.parts.length∧Rch s.chans s.parts.length a u
theorem rchs_shut{s:Sys}{u:Nat}:Shut s (Rchs s u):=fun _ _ ha hb hl=>⟨ha,.step hl hb.1 hb.2⟩
theorem rchs_self{s:Sys}{u:Nat}(hu:u<s.parts.length):Rchs s u u:=⟨hu,.refl _⟩
end
end Go.Proofs.YtndcjmopebcdgaaGreatDoor
