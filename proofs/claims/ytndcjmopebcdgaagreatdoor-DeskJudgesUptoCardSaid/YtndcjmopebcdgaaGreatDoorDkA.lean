/- The reference's CertifyOf and SameCerts. The reference: what is judged. -/
import Derived.Test.YtndcjmopebcdgaaGreatDoorCertF
import Derived.Test.YtndcjmopebcdgaaGreatDoorDkB
import Derived.Test.YtndcjmopebcdgaaGreatDoorDskC
import Derived.Test.YtndcjmopebcdgaaGreatDoorImgF
import Derived.Test.YtndcjmopebcdgaaGreatDoorKernSR
set_option linter.unusedSimpArgs false
set_option linter.unusedVariables false
namespace Go.Proofs.YtndcjmopebcdgaaGreatDoor
section
open Go.ChangeShapes Go.WideShapes Go.ChangeAt Go.RowKit
theorem bs_CertG_41_1_0(x0:Int)(w:World):(Instr.buildSlice 41 1 #[(0,(.int .i64 x0))]).run Tryz.prog w=.ok (.slice (some ⟨w.heap.size,0,none⟩) 1 1) (w.alloc (.cells #[(.int .i64 x0)] 3)):=by kernel_rfl
theorem bs_CertG_44_1_0(x0:Option Addr)(x0n x0c:Nat)(w:World):(Instr.buildSlice 44 1 #[(0,(.slice x0 x0n x0c))]).run Tryz.prog w=.ok (.slice (some ⟨w.heap.size,0,none⟩) 1 1) (w.alloc (.cells #[(.slice x0 x0n x0c)] 41)):=by kernel_rfl
theorem bu_CertG_46_(w:World):(Instr.build 46 #[]).run Tryz.prog w=.ok (.agg #[(.slice none 0 0)]) w:=by kernel_rfl
set_option maxRecDepth 100000
theorem setOf_snoc{cs:List Chn}{n k:Nat}{qs:List IR}{q:IR}(h:qs.map IR.l=(List.range k).map (setOf cs n))(hq:q.l=setOf cs n k):(qs++[q]).map IR.l=(List.range (k+1)).map (setOf cs n):=by
 rw[List.map_append,h,List.range_succ,List.map_append]
 simp[hq]
set_option maxHeartbeats 16000000 in
theorem certifyOf_any{x:SysD}{w:World}(hx:x.At w)(hk:chkSys x.sys=0){P:List Edg}{A:Option Addr}{c:Nat}(hm:May_ w A c P)(hlm:P.length≤maxLen):
  Calls Tryz.prog 24 #[x.val,.agg #[.slice A P.length c]] w fun e w'=>∃(qs:List IR) (B:Option Addr) (d:Nat) (L:List Int) (A':Option Addr) (c':Nat) (is:Bool),
   e=.returned (.tuple #[.agg #[.slice B qs.length d],.slice A' L.length c',.bool is])∧CertIs x.chans x.parts.length P is L (qs.map IR.l)∧Below w.heap.size w w'∧OwnRes w w' (fun u=>Sets_ u B d qs∧Ints u (.slice A' L.length c') L):=by
 obtain⟨⟨hp1,hp2⟩,hc6,-⟩:=sizes_get (chkSys_zero hk).1
 have hre:=fun w1 (hb:Below w.heap.size w w1) (u v:Nat)=>reaches_any (hx.below hb) u v Om Om
 have hma:=fun w1 (hb:Below w.heap.size w w1) (u v:Int)=>mayR_any (Flat.below hm hb) hlm u v
 have hpa:=fun w1 (hb:Below w.heap.size w w1) (u v:Nat)=>pathOfR_any (f:=u) (t:=v) (hx.below hb) hk
 rw[x.val_eq] at*
 refine enter Tryz.func24 rfl Tryz.ntmps24 rfl fun a hF=>?_
 have hW:=Wd.start w NoB
 refine c_sr<|pe<|e_box hF hW rfl rfl rfl rfl fun b1 a wc hF hW=>pe<|e_box hF hW rfl rfl rfl rfl fun b2 a wc hF hW=>pe<|e_alloc hF hW ze_46 rfl rfl rfl fun b3 a wc hF hW=>pq 2 hF rfl fun a hF=>l_nil<|t_n<|c_s<|c_sr<|pq 1 hF rfl fun a hF=>l_nil<|t_n<|wp_block ?_;refine c_loop (G:=Nat) (fun k:Nat=>[(7,.int .i64 (k:Int))]) (fun k:Nat=>[]) (fun k:Nat=>k≤x.parts.length∧Clean x.chans x.parts.length P k 0) (fun k:Nat=>x.parts.length - k) 0 (hF.ks [0,1,2,3,4] rfl) (Fr.cons hF (t:=7) rfl Rg (Fr.nil hF)) (hW) ?_ ?_
 exact⟨by omega,clean0⟩
 clear hF hW
 try clear a
 intro k a wc hC hF hW
 obtain⟨hkl,hcl⟩:=hC
 refine c_s<|c_sr<|pq 2 hF rfl fun a hF=>pv hF hW (y_loadOwn hF rfl 2 rfl rfl Tryz.underlying35 rfl) fun a hF=>pq 2 hF rfl fun a hF=>?_;refine Fr.splitD hF (fun h4 hF=>?_) (fun h4 hF=>?_);refine l_nil<|t_n<|c_t hF rfl<|wp_skip<|t_n<|c_s<|wp_block<|c_sr<|pq 1 hF rfl fun a hF=>l_nil<|t_n<|wp_block ?_;refine c_loop (G:=Nat) (fun j:Nat=>[(8,.int .i64 (j:Int))]) (fun j:Nat=>[]) (fun j:Nat=>j≤x.parts.length∧Clean x.chans x.parts.length P k j) (fun j:Nat=>x.parts.length - j) 0 (hF.ks [0,1,2,3,4,7,19] rfl) (Fr.cons hF (t:=8) rfl Rg (Fr.nil hF)) (hW) ?_ ?_
 exact⟨by omega,hcl⟩
 clear hF hW
 try clear a
 intro j a wc hC hF hW
 obtain⟨hjl,hcl2⟩:=hC
 refine c_s<|c_sr<|pq 2 hF rfl fun a hF=>pv hF hW (y_loadOwn hF rfl 2 rfl rfl Tryz.underlying35 rfl) fun a hF=>pq 2 hF rfl fun a hF=>?_;refine Fr.splitD hF (fun h5 hF=>?_) (fun h5 hF=>?_);refine l_nil<|t_n<|c_t hF rfl<|wp_skip<|t_n<|c_s<|wp_block<|c_sr<|pv hF hW (y_loadAll hF rfl 2 rfl Tryz.underlying39 rfl sz_39) fun a hF=>pq 2 hF rfl fun a hF=>pe<|e_callK hF hW rfl rfl en_71 Rl (hre _ hW.below k j) fun a w1 hW hF=>?_;refine Fr.splitB hF (fun h6 hF=>?_) (fun h6 hF=>?_);refine pq 1 hF rfl fun a hF=>pvg hF hW (y_loadAll hF rfl 1 rfl Tryz.underlying27 rfl sz_27) (ws hF rfl rfl) fun a hF=>pq 2 hF rfl fun a hF=>?_;refine pe (e_callK hF hW rfl rfl en_72 Rl (hma _ hW.below k j) ?_) (ws hF rfl rfl);intro a w1 hW hF;refine Fr.splitB hF (fun h7 hF=>?_) (fun h7 hF=>?_);refine pq 2 hF rfl fun a hF=>?_;replace hF:=hF.ff;refine l_nil ?_;replace hF:=hF.ks [0,1,2,3,4,7,8,19,26,39] rfl;refine t_n<|c_f hF rfl<|wp_skip<|b_n<|t_n<|c_r<|pq 1 hF rfl fun a hF=>pv hF hW (y_add hF rfl rfl (IntWalk.i64_in _ Om)) fun a hF=>pq 1 hF rfl fun a hF=>l_nil<|t_n ?_;refine⟨(j+1),?_,?_,?_,?_⟩
 exact⟨by omega,hcl2.step (by unfold badB;simp_all)⟩
 first|omega|(dsimp only;omega)
 exact hF.a1 rfl rfl
 exact hW
 refine pq 2 hF rfl fun a hF=>?_;replace hF:=hF.tt;refine l_nil ?_;replace hF:=hF.ks [0,1,2,3,4,7,8,19,26,39] rfl;refine t_n<|c_t hF rfl<|c_sr<|pv hF hW (y_loadAll hF rfl 2 rfl Tryz.underlying39 rfl sz_39) fun a hF=>pq 2 hF rfl fun a hF=>?_;refine pe (e_callA hF rfl rfl en_73 Rl (hpa _ hW.below k j) ?_);rintro e w1 ⟨L,A2,c2,rfl,hLp,hb,hr⟩;replace hW:=hW.gotR hb hr;refine⟨_,rfl,fun a hF=>?_⟩;refine pq 5 hF rfl fun a hF=>lts<|pv hF hW (y_build hF rfl (fun w=>bu_CertG_46_ w)) fun a hF=>pq 1 hF rfl fun a hF=>?_;refine pe<|e_storeAll rfl hF hW rfl rfl 1 rfl rfl rfl Kr sz_46 fun wc hW=>pq 2 hF rfl fun a hF=>l_nil<|t_n<|wp_ret<|b_r<|t_r<|t_r<|b_r<|b_r<|t_r<|t_r<|b_r<|t_r<|ret3 Tryz.results24 hF (rv_c hF rfl hW 1 rfl Tryz.underlying46 rfl sz_46) (rv_t hF rfl) (rv_t hF rfl) ?_;replace hW:=hW.ds [1,1,1] rfl
 exact⟨[],none,0,L,A2,c2,false,rfl,.inr ⟨rfl,k,j,by omega,by omega,by unfold badB;simp_all,hcl2,hLp,rfl⟩,hW.below,(hW.res_res 0 rfl).mono fun u h=>⟨sets_nil u,h⟩⟩
 refine pq 7 hF rfl fun a hF=>l_nil ?_;replace hF:=hF.ks [0,1,2,3,4,7,8,19,26,39] rfl;refine t_n<|c_f hF rfl<|wp_skip<|b_n<|t_n<|c_r<|pq 1 hF rfl fun a hF=>pv hF hW (y_add hF rfl rfl (IntWalk.i64_in _ Om)) fun a hF=>pq 1 hF rfl fun a hF=>l_nil<|t_n ?_;refine⟨(j+1),?_,?_,?_,?_⟩
 exact⟨by omega,hcl2.step (by unfold badB;simp_all)⟩
 first|omega|(dsimp only;omega)
 exact hF.a1 rfl rfl
 exact hW
 refine l_nil<|t_n<|c_f hF rfl<|wp_exit<|t_x<|t_x<|b_h<|b_n<|t_n<|c_r<|pq 1 hF rfl fun a hF=>pv hF hW (y_add hF rfl rfl (IntWalk.i64_in _ Om)) fun a hF=>pq 1 hF rfl fun a hF=>l_nil<|t_n ?_;refine⟨(k+1),?_,?_,?_,?_⟩
 exact⟨by omega,hcl2.line Om⟩
 first|omega|(dsimp only;omega)
 exact hF.a1 rfl rfl
 exact hW
 refine l_nil<|t_n<|c_f hF rfl<|wp_exit<|t_x<|t_x<|b_h<|t_n ?_
 have hall:=hcl.all Om
 refine c_sr<|pe<|e_alloc hF hW ze_46 rfl rfl rfl fun b8 a wc hF hW=>l_nil<|t_n<|c_s<|c_sr<|pq 1 hF rfl fun a hF=>l_nil<|t_n<|wp_block ?_;replace hW:=hW.nil_row 41 1;replace hW:=hW.free (R:=fun u=>∀q,q∈([]:List IR)→q.At u) (fun _ _ h=>by cases h);replace hW:=hW.fs [2,1,2] rfl;refine c_loop (G:=Nat×List IR×Option Addr×Nat) (fun⟨k,qs,B,d⟩=>[(12,.int .i64 (k:Int))]) (fun⟨k,qs,B,d⟩=>[.row 41 1 (.slice B qs.length d) qs.length (qs.flatMap IR.cells),.res (fun u=>∀q,q∈qs→q.At u),.blk b8 46 [.slice B qs.length d]]) (fun⟨k,qs,B,d⟩=>k≤x.parts.length∧qs.map IR.l=(List.range k).map (setOf x.chans x.parts.length)) (fun⟨k,qs,B,d⟩=>x.parts.length - k) (0,[],none,0) (hF.ks [0,1,2,3,4,7,11,19] rfl) (Fr.cons hF (t:=12) rfl Rg (Fr.nil hF)) (hW) ?_ ?_
 exact⟨by omega,rfl⟩
 clear hF hW
 try clear a
 intro gq a wc hC hF hW
 obtain⟨k,qs,B,d⟩:=gq
 dsimp only at hC
 obtain⟨hkl,hqs⟩:=hC
 refine c_s<|c_sr<|pq 2 hF rfl fun a hF=>pv hF hW (y_loadOwn hF rfl 5 rfl rfl Tryz.underlying35 rfl) fun a hF=>pq 2 hF rfl fun a hF=>?_;refine Fr.splitD hF (fun h9 hF=>?_) (fun h9 hF=>?_);refine l_nil<|t_n<|c_t hF rfl<|wp_skip<|t_n<|c_s<|wp_block<|c_sr<|pq 1 hF rfl fun a hF=>l_nil<|t_n<|c_s<|c_sr<|pq 1 hF rfl fun a hF=>l_nil<|t_n<|wp_block ?_;replace hW:=hW.nil_row 3 1;refine c_loop (G:=Nat×List Int×Option Addr×Nat) (fun⟨j,M,E,f⟩=>[(14,.int .i64 (j:Int)),(13,.slice E M.length f)]) (fun⟨j,M,E,f⟩=>[.row 3 1 (.slice E M.length f) M.length (M.map (.int .i64))]) (fun⟨j,M,E,f⟩=>j≤x.parts.length∧M=tl j (fun u=>rch x.chans x.parts.length u k)) (fun⟨j,M,E,f⟩=>x.parts.length - j) (0,[],none,0) (hF.ks [0,1,2,3,4,7,11,12,19,53] rfl) (Fr.cons hF (t:=14) rfl Rg (Fr.cons hF (t:=13) rfl Rg (Fr.nil hF))) (hW) ?_ ?_
 exact⟨by omega,rfl⟩
 clear hF hW
 try clear a
 intro gq a wc hC hF hW
 obtain⟨j,M,E,f⟩:=gq
 dsimp only at hC
 obtain⟨hjl,hM⟩:=hC
 refine c_s<|c_sr<|pq 2 hF rfl fun a hF=>pv hF hW (y_loadOwn hF rfl 6 rfl rfl Tryz.underlying35 rfl) fun a hF=>pq 2 hF rfl fun a hF=>?_;refine Fr.splitD hF (fun h10 hF=>?_) (fun h10 hF=>?_);refine l_nil<|t_n<|c_t hF rfl<|wp_skip<|t_n<|c_s<|wp_block<|c_sr<|pv hF hW (y_loadAll hF rfl 6 rfl Tryz.underlying39 rfl sz_39) fun a hF=>pq 2 hF rfl fun a hF=>pe<|e_callK hF hW rfl rfl en_71 Rl (hre _ hW.below j k) fun a w1 hW hF=>?_;refine Fr.splitB hF (fun h11 hF=>?_) (fun h11 hF=>?_);refine l_nil<|t_n<|c_t hF rfl ?_
 have hMl:M.length≤4:=(by rw[hM];have:=tl_len j (fun u=>rch x.chans x.parts.length u k);omega)
 refine c_r<|pq 2 hF rfl fun a hF=>pe<|e_buildSlice hF hW rfl (fun w=>bs_CertG_41_1_0 _ w) rfl rfl rfl fun b12 a wc hF hW=>pe<|e_append hF hW 1 rfl rfl rfl Tryz.underlying41 inf_3 rfl Dc (rowAt_blk (hW.blk 0 rfl) 1 1 rfl) Oc (show _=(M++[(j:Int)]).length by simp) (show _=(M++[(j:Int)]).map (.int .i64) by simp) Ox Ml rfl rfl fun A13 c14 a wc hF hW=>pq 1 hF rfl fun a hF=>l_nil<|b_n<|t_n<|c_r<|pq 1 hF rfl fun a hF=>pv hF hW (y_add hF rfl rfl (IntWalk.i64_in _ Om)) fun a hF=>pq 1 hF rfl fun a hF=>l_nil ?_;replace hW:=hW.del 0 rfl;refine t_n ?_;refine⟨(j+1,M++[(j:Int)],A13,c14),?_,?_,?_,?_⟩
 exact⟨by omega,by rw[tl_yes Am,hM]⟩
 first|omega|(dsimp only;omega)
 exact hF.a2 rfl rfl rfl
 exact hW
 refine l_nil<|t_n<|c_f hF rfl<|wp_skip<|b_n<|t_n<|c_r<|pq 1 hF rfl fun a hF=>pv hF hW (y_add hF rfl rfl (IntWalk.i64_in _ Om)) fun a hF=>pq 1 hF rfl fun a hF=>l_nil<|t_n ?_;refine⟨(j+1,M,E,f),?_,?_,?_,?_⟩
 exact⟨by omega,by rw[tl_no Am];exact hM⟩
 first|omega|(dsimp only;omega)
 exact hF.a2 rfl rfl rfl
 exact hW
 refine l_nil<|t_n<|c_f hF rfl<|wp_exit<|t_x<|t_x<|b_h<|t_n ?_
 have hqn:qs.length=k:=(by have:=congrArg List.length hqs;simpa using this)
 refine c_r<|pq 1 hF rfl fun a hF=>pv hF hW (y_loadOwn hF rfl 3 rfl rfl Tryz.underlying44 rfl) fun a hF=>pq 1 hF rfl fun a hF=>pe<|e_buildSlice hF hW rfl (fun w=>bs_CertG_44_1_0 _ _ _ w) rfl rfl rfl fun b15 a wc hF hW=>pe<|e_append hF hW 2 rfl rfl rfl Tryz.underlying44 inf_41 rfl Dc (rowAt_blk (hW.blk 0 rfl) 1 1 rfl) Oc (show _=(qs++[IR.mk M E f]).length by simp) (show _=(qs++[IR.mk M E f]).flatMap IR.cells by simp[IR.cells,IR.val]) Ox Ml rfl rfl fun A16 c17 a wc hF hW=>pq 1 hF rfl fun a hF=>pe<|e_store rfl hF hW rfl rfl 4 rfl rfl rfl sz_44 fun wc hW=>l_nil<|b_n<|t_n<|c_r<|pq 1 hF rfl fun a hF=>pv hF hW (y_add hF rfl rfl (IntWalk.i64_in _ Om)) fun a hF=>pq 1 hF rfl fun a hF=>l_nil ?_;replace hW:=hW.fs [3,2] rfl
 replace hW:=hW.row1 (R:=fun u=>∀q,q∈qs++[IR.mk M E f]→q.At u) fun u h1 h2 q hq=>(List.mem_append.1 hq).elim (h2 q) fun h=>by rw[List.mem_singleton.1 h];exact Ints.of_own h1
 replace hW:=hW.del 1 rfl;replace hW:=hW.fs [5,5,5,5,4,5] rfl;refine t_n ?_;refine⟨(k+1,qs++[IR.mk M E f],A16,c17),?_,?_,?_,?_⟩
 exact⟨by omega,setOf_snoc hqs (by rw[hM,show j=x.parts.length by omega];rfl)⟩
 first|omega|(dsimp only;omega)
 exact hF.a1 rfl rfl
 exact hW
 refine l_nil<|t_n<|c_f hF rfl<|wp_exit<|t_x<|t_x<|b_h<|t_n<|c_sr<|pv hF hW (y_loadAll hF rfl 2 rfl Tryz.underlying46 rfl sz_46) fun a hF=>pe<|e_storeAll rfl hF hW rfl rfl 3 rfl rfl rfl Kr sz_46 fun wc hW=>pq 2 hF rfl fun a hF=>l_nil<|t_n<|wp_ret<|ret3 Tryz.results24 hF (rv_c hF rfl hW 3 rfl Tryz.underlying46 rfl sz_46) (rv_t hF rfl) (rv_t hF rfl) ?_;replace hW:=hW.ds [2,2,2,2] rfl
 obtain rfl:k=x.parts.length:=Om
 exact⟨qs,B,d,[],none,0,true,rfl,.inl ⟨rfl,hall,rfl,hqs⟩,hW.below,((hW.row1 fun u h1 h2=>⟨⟨Flat.of_own h1 rfl,h2⟩,Ints.nil_⟩).res_res 0 rfl)⟩
end
section
open Go.ChangeShapes Go.WideShapes Go.ChangeAt Go.RowKit
theorem bs_DskK_86_3_0_1_2(x0:ByteArray)(x1:ByteArray)(x2:ByteArray)(w:World):(Instr.buildSlice 86 3 #[(0,(.string x0)),(1,(.string x1)),(2,(.string x2))]).run Tryz.prog w=.ok (.slice (some ⟨w.heap.size,0,none⟩) 3 3) (w.alloc (.cells #[(.string x0),(.string x1),(.string x2)] 9)):=by kernel_rfl
set_option maxRecDepth 100000
theorem rErr_2{l:List UInt8}(h:l.length>8192):readErr l=2:=if_pos h
theorem rErr_1{l:List UInt8}(h:¬l.length>8192)(h2:(readL l).isSome=false):readErr l=1:=by unfold readErr;rw[if_neg h,if_neg (by rw[h2];decide)]
theorem rErr_0{l:List UInt8}(h:¬l.length>8192)(h2:(readL l).isSome=true):readErr l=0∧readTo l=(readL l).getD Sys.zero:=by unfold readErr;rw[if_neg h,if_pos h2];exact⟨rfl,if_neg h⟩
theorem endL_get{n:Int}(h:0≤n∧n≤2):(#[.string ⟨#[114,117,110,115]⟩,.string ⟨#[115,116,111,112,112,101,100]⟩,.string ⟨#[102,97,117,108,116,101,100]⟩]:Array Value).toList[n.toNat*1]?=some (.string (bstr (endL n))):=by
 have:n=0∨n=1∨n=2:=by omega
 rcases this with rfl|rfl|rfl<;>rfl
set_option maxHeartbeats 16000000 in
theorem judged_any(l s:List UInt8)(n:Int)(hs:s.length≤1048576)(w:World):Calls Tryz.prog 6 #[.string (bstr l),.string (bstr s),.int .i64 n] w fun e w'=>∃T E,e=.returned (.tuple #[.string (bstr T),.int .i64 E])∧JudgeIs l s n T E∧Below w.heap.size w w':=by
 have hcp:=fun(x:SysD) (P:List Edg) (A:Option Addr) (c:Nat) (w1:World) (hx:x.At w1) (hm:May_ w1 A c P)=>checkPolicy_any hx hm (by have:=Flat.len hm;omega)
 have hce:=fun(x:SysD) (P:List Edg) (A:Option Addr) (c:Nat) (w1:World) (hx:x.At w1) (hk:chkSys x.sys=0) (hm:May_ w1 A c P)=>certifyOf_any hx hk hm (by have:=Flat.len hm;omega)
 have hkr:=fun(x:SysD) (w1:World) (hx:x.At w1) (hk:chkSys x.sys=0) (hn:0≤n∧n≤300)=>(show Calls Tryz.prog 26 #[x.val,.int .i64 n] w1 _ by have:=runOf_any (n:=n.toNat) hx hk Om;rw[Int.toNat_of_nonneg hn.1] at this;exact this)
 simp only[SysD.val_eq,WD.val_eq] at hcp hce hkr
 refine enter Tryz.func6 rfl Tryz.ntmps6 rfl fun a hF=>?_
 have hW:=Wd.start w NoB
 refine c_sr<|pq 2 hF rfl fun a hF=>l_nil<|t_n<|c_s<|c_sr<|pq 1 hF rfl fun a hF=>pv hF hW (y_lenB hF rfl Tryz.underlying9) fun a hF=>pq 1 hF rfl fun a hF=>?_;refine Fr.splitD hF (fun h1 hF=>?_) (fun h1 hF=>?_);refine l_nil<|t_n<|c_t hF rfl<|c_sr<|pq 2 hF rfl fun a hF=>l_nil<|t_n<|wp_ret<|t_r<|ret2 Tryz.results6 hF (rv_t hF rfl) (rv_t hF rfl) ?_
 exact⟨[],2,rfl,.inl (by rw[rErr_2 Om];exact⟨by decide,rfl,rfl⟩),hW.below⟩
 refine l_nil<|t_n<|c_f hF rfl<|wp_skip<|t_n<|c_sr<|pq 1 hF rfl fun a hF=>?_;refine pe (e_callA hF rfl rfl en_21 Rl (imageFrom_any) ?_);rintro e w1 ⟨x,rfl,hx,hb,hr⟩;replace hW:=hW.gotR hb hr;refine⟨_,rfl,fun a hF=>?_⟩;replace hF:=Fr.cast (v':=.tuple #[.agg #[.slice x.pa x.parts.length x.pc,.slice x.ha x.chans.length x.hc,.slice x.sa x.slots.length x.sc],.bool (readL l).isSome]) rfl hF;refine pq 3 hF rfl fun a hF=>?_;refine Fr.splitB hF (fun h2 hF=>?_) (fun h2 hF=>?_);refine pe<|e_alloc hF hW ze_39 rfl rfl rfl fun b3 a wc hF hW=>pe<|e_storeAll rfl hF hW rfl rfl 0 rfl rfl rfl Kr sz_39 fun wc hW=>pq 1 hF rfl fun a hF=>l_nil<|t_n<|c_s<|c_sr<|pq 2 hF rfl fun a hF=>l_nil<|t_n<|c_f hF rfl<|wp_skip<|t_n<|c_sr<|pq 1 hF rfl fun a hF=>?_;refine pe (e_callA hF rfl rfl en_8 Rl (rulesOf_any s hs _) ?_);rintro e w1 ⟨P,A,c,ok,rfl,hRu,hb,hr⟩;replace hW:=hW.gotR hb hr;refine⟨_,rfl,fun a hF=>?_⟩;refine pq 3 hF rfl fun a hF=>?_;refine Fr.splitB hF (fun h4 hF=>?_) (fun h4 hF=>?_);refine pe<|e_alloc hF hW ze_27 rfl rfl rfl fun b5 a wc hF hW=>pe<|e_storeAll rfl hF hW rfl rfl 0 rfl rfl rfl Kr sz_27 fun wc hW=>pq 1 hF rfl fun a hF=>l_nil<|t_n<|c_s<|c_sr<|pq 2 hF rfl fun a hF=>l_nil ?_;replace hF:=hF.ks [0,1,2,6,7,8,9,10,20,27,34] rfl;refine t_n<|c_f hF rfl<|wp_skip<|t_n<|c_s<|c_sr<|pv hF hW (y_loadAll hF rfl 2 rfl Tryz.underlying39 rfl sz_39) fun a hF=>pv hF hW (y_loadAll hF rfl 0 rfl Tryz.underlying27 rfl sz_27) fun a hF=>pe<|e_callK hF hW rfl rfl en_22 Rl (hcp x P A c _ (hW.res 3 rfl) (hW.res 1 rfl)) fun a w1 hW hF=>pq 1 hF rfl fun a hF=>lts<|pq 2 hF rfl fun a hF=>?_;refine Fr.splitD hF (fun h6 hF=>?_) (fun h6 hF=>?_);refine l_nil<|t_n<|c_t hF rfl<|c_sr<|pq 3 hF rfl fun a hF=>l_nil<|t_n<|wp_ret<|t_r<|ret2 Tryz.results6 hF (rv_t hF rfl) (rv_t hF rfl) ?_
 rcases hRu with⟨-,hRS⟩|⟨h,-⟩
 have hre:=rErr_0 (l:=l) Om Am
 exact⟨[],certErr x.sys P,rfl,.inr ⟨hre.1,.inr ⟨P,hRS,.inl (by rw[hre.2,←hx];exact⟨by omega,rfl,rfl⟩)⟩⟩,hW.below⟩
 simp_all
 refine l_nil<|t_n<|c_f hF rfl<|wp_skip<|t_n<|c_s<|c_sr<|pq 1 hF rfl fun a hF=>pe<|e_callK hF hW rfl rfl en_23 Rl (withinD_any _ _ _ _) fun a w1 hW hF=>?_;refine Fr.splitD hF (fun h7 hF=>?_) (fun h7 hF=>?_);refine pq 1 hF rfl fun a hF=>l_nil<|t_n<|c_f hF rfl<|wp_skip<|t_n ?_
 have hre:=rErr_0 (l:=l) Om Am
 have hxs:x.sys=readTo l:=hx.trans hre.2.symm
 have hc0:certErr x.sys P=0:=Om
 obtain⟨hk,-⟩:=certErr_zero hc0
 have hn:0≤n∧n≤300:=Om
 obtain⟨⟨hz1,hz2⟩,-⟩:=sizes_get (chkSys_zero hk).1
 refine c_sr<|pq 1 hF rfl fun a hF=>l_nil<|t_n ?_;refine c_cut (G:=Bool×List Int×List (List Int)) (fun⟨is,L,S⟩=>[(12,.string (bstr (headT is L)))]) (fun⟨is,L,S⟩=>[]) (fun⟨is,L,S⟩=>CertIs x.chans x.parts.length P is L S) (hF.ks [0,1,2,6,7,8,9,10,11,20,27,34,39,43] rfl) hW ?_ ?_;refine c_sr<|pv hF hW (y_loadAll hF rfl 2 rfl Tryz.underlying39 rfl sz_39) fun a hF=>pv hF hW (y_loadAll hF rfl 0 rfl Tryz.underlying27 rfl sz_27) fun a hF=>?_;refine pe (e_callA hF rfl rfl en_24 Rl (hce x P A c _ (hW.res 3 rfl) hk (hW.res 1 rfl)) ?_);rintro e w1 ⟨qs,B,d,L,A1,c1,is,rfl,hI,hb,hr⟩;replace hW:=hW.gotR hb hr;refine⟨_,rfl,fun a hF=>?_⟩;refine pq 4 hF rfl fun a hF=>pe<|e_alloc hF hW ze_46 rfl rfl rfl fun b8 a wc hF hW=>pe<|e_storeAll rfl hF hW rfl rfl 0 rfl rfl rfl Kr sz_46 fun wc hW=>pq 2 hF rfl fun a hF=>l_nil ?_;replace hF:=hF.ks [0,1,2,6,7,8,9,10,11,12,14,15,20,27,34,39,43] rfl;refine t_n ?_
 have hLin:=certIs_in hI Om
 have hll:=listT_len hLin.1
 refine c_sr<|pq 1 hF rfl fun a hF=>?_;refine Fr.splitB hF (fun h9 hF=>?_) (fun h9 hF=>?_);refine pq 1 hF rfl fun a hF=>l_nil<|t_n<|c_f hF rfl<|wp_skip ?_;replace hW:=hW.ds [0,0] rfl;refine t_n ?_;refine⟨(is,L,qs.map IR.l),?_,?_,?_⟩
 exact Fr.app (Fr.cons hF (t:=12) rfl (by(try rw[←headT_sound hI Am]);(try rw[←headT_leak (L:=L) Am]);(try rfl)) (Fr.nil hF)) (hF.ks [0,1,2,6,7,8,9,10,11,20,27,34,39,43] rfl)
 exact hW
 exact hI
 refine pq 1 hF rfl fun a hF=>l_nil<|t_n<|c_t hF rfl<|c_r<|pq 1 hF rfl fun a hF=>pe<|e_callK hF hW rfl rfl en_25 Rl (listed_any (hW.res 1 rfl).2 hLin.1 Om) fun a w1 hW hF=>pv hF hW (y_catB hF rfl rfl (by unfold maxLen;simp only[List.length_cons,List.length_nil];omega)) fun a hF=>pv hF hW (y_catB hF rfl rfl (by unfold maxLen;simp only[List.length_append,List.length_cons,List.length_nil];omega)) fun a hF=>pq 1 hF rfl fun a hF=>l_nil ?_;replace hW:=hW.ds [0,0] rfl;refine t_n ?_;refine⟨(is,L,qs.map IR.l),?_,?_,?_⟩
 exact Fr.app (Fr.cons hF (t:=12) rfl (by(try rw[←headT_sound hI Am]);(try rw[←headT_leak (L:=L) Am]);(try rfl)) (Fr.nil hF)) (hF.ks [0,1,2,6,7,8,9,10,11,20,27,34,39,43] rfl)
 exact hW
 exact hI
 clear hF hW
 try clear a
 intro gq a wc hC hF hW
 obtain⟨is,L,S⟩:=gq
 dsimp only at hC
 have hI:=hC;have hLin:=certIs_in hI Om;have hhd:=headT_len (is:=is) hLin.1 hLin.2
 refine c_sr<|pv hF hW (y_loadAll hF rfl 2 rfl Tryz.underlying39 rfl sz_39) fun a hF=>pq 1 hF rfl fun a hF=>?_;refine pe (e_callA hF rfl rfl en_26 Rl (hkr x _ (hW.res 3 rfl) hk hn) ?_);rintro e w1 ⟨y,rfl,hy,hb,hr⟩;replace hW:=hW.gotR hb hr;refine⟨_,rfl,fun a hF=>?_⟩
 have hcl:y.cells.map CD.c=(runW (readTo l) n.toNat).cells:=by rw[←hxs,←hy];rfl
 have htold:=run_told hre.1 hn
 rw[←hcl] at htold
 have hyl:y.cells.length≤6:=(by
 have h1:=(runW_right (hxs▸hk) n.toNat Om).1.cl
 rw[←hcl,List.length_map,←hxs,sys_parts_len] at h1
 omega)
 refine pe<|e_alloc hF hW ze_61 rfl rfl rfl fun b10 a wc hF hW=>pe<|e_storeAll rfl hF hW rfl rfl 0 rfl rfl rfl Kr sz_61 fun wc hW=>l_nil<|t_n<|c_s<|c_sr<|pq 1 hF rfl fun a hF=>l_nil<|t_n<|wp_block ?_;refine c_loop (G:=Nat×List UInt8) (fun⟨k,F⟩=>[(17,.int .i64 (k:Int)),(12,.string (bstr F))]) (fun⟨k,F⟩=>[]) (fun⟨k,F⟩=>k≤y.cells.length∧F=headT is L++cellsT ((y.cells.map CD.c).take k)) (fun⟨k,F⟩=>y.cells.length - k) (0,headT is L) (hF.ks [0,1,2,6,7,8,9,10,11,16,20,27,34,39,43] rfl) (Fr.cons hF (t:=17) rfl Rg (Fr.cons hF (t:=12) rfl Rg (Fr.nil hF))) (hW) ?_ ?_
 exact⟨Nat.zero_le _,(List.append_nil _).symm⟩
 clear hF hW
 try clear a
 intro gq a wc hC hF hW
 obtain⟨k,F⟩:=gq
 dsimp only at hC
 obtain⟨hkl,hF0⟩:=hC
 refine c_s<|c_sr<|pq 2 hF rfl fun a hF=>pv hF hW (y_loadOwn hF rfl 0 rfl rfl Tryz.underlying58 rfl) fun a hF=>pq 2 hF rfl fun a hF=>?_;refine Fr.splitD hF (fun h11 hF=>?_) (fun h11 hF=>?_);refine l_nil<|t_n<|c_t hF rfl<|wp_skip<|t_n<|c_s<|wp_block ?_
 have hkk:k<y.cells.length:=Om
 have hFl:F.length≤140+344*k:=(by
 have h1:=cellsT_len (W:=(y.cells.map CD.c).take k) fun c hc=>(htold c (List.mem_of_mem_take hc)).1
 have h2:=List.length_take (l:=y.cells.map CD.c) (i:=k)
 rw[hF0,List.length_append]
 omega)
 obtain⟨z,hz⟩:∃q,y.cells.getD k CD0=q:=⟨_,rfl⟩
 have hcat:∀u,y.At u→z.At u:=fun u h=>hz▸h.cell hkk
 have hzc:(y.cells.map CD.c).getD k Cel.zero=z.c:=by rw[←hz];simp only[List.getD,List.getElem?_map,List.getElem?_eq_getElem hkk];rfl
 have hzt:=htold z.c (by rw[←hzc];exact mem_getD _ (by rw[List.length_map];exact hkk))
 obtain⟨⟨at_,regs,mem,rd,out,en⟩,hwf,qa,qk⟩:=z
 obtain⟨r0,r1,r2,r3,hregs⟩:=len_four hwf.1
 obtain⟨m0,m1,m2,m3,m4,m5,m6,m7,hmem⟩:=len_eight hwf.2
 dsimp only at hregs hmem hzt hzc
 subst hregs hmem
 have hel:=endL_len en
 have hlo:=listT_len hzt.1.1
 refine c_d mixed_ok hW (hW) ?_
 clear hW;intro wc hW hS
 refine dq 2 [0,2] hF hS rfl fun a hF=>dv 3 rfl hF hS (y_loadOwn hF rfl 0 rfl rfl Tryz.underlying58 rfl) fun a hF=>dq 1 [4] hF hS rfl fun a hF=>dv 5 rfl hF hS (y_indexS hF rfl rfl Od Tryz.underlying58 sz_75 (fun w h=>((h.res 1 rfl)).cellsR)) fun a hF=>dv 6 rfl hF hS (y_fieldRow hF rfl fa_75_5) fun a hF=>dv 7 rfl hF hS (y_loadRow hF rfl (fun w h=>((h.res 1 rfl)).cellsR) Od (show _=some (.int .i64 en) by rw[hz];rfl) Tryz.underlying3 rfl) fun a hF=>?_;replace hF:=Fr.cast (v':=.int .i64 ((en.toNat:Nat):Int)) (by exact congrArg (Value.int .i64) Om) hF;refine dq 1 [11] hF hS rfl fun a hF=>dv 12 rfl hF hS (y_loadOwn hF rfl 0 rfl rfl Tryz.underlying58 rfl) fun a hF=>dq 1 [13] hF hS rfl fun a hF=>dv 14 rfl hF hS (y_indexS hF rfl rfl Od Tryz.underlying58 sz_75 (fun w h=>((h.res 1 rfl)).cellsR)) fun a hF=>dv 15 rfl hF hS (y_fieldRow hF rfl fa_75_4) fun a hF=>dv 16 rfl hF hS (y_loadRow hF rfl (fun w h=>((h.res 1 rfl)).cellsR) Od (show _=some (.slice qa out.length qk) by rw[hz];rfl) Tryz.underlying41 rfl) fun a hF=>?_;refine d_2 1 17 Kr ?_ ?_;refine d_op rfl rfl<|e_buildSlice hF hW rfl (fun w=>bs_DskK_86_3_0_1_2 _ _ _ w) rfl rfl rfl fun b12 a wc hF hW=>ai (hW.del 0 rfl) fun hS=>dv 8 rfl hF hS (y_indexOwnS hF rfl rfl (by show en.toNat<3;omega) Tryz.underlying86 sz_9) fun a hF=>?_;refine d_2 9 17 Kr ?_ ?_;refine d_opval rfl hF rfl hW (y_loadOwn hF rfl 0 rfl (endL_get hzt.2) Tryz.underlying9 rfl) rfl rfl fun a hF=>ai (hW.del 0 rfl) fun hS=>dv 10 rfl hF hS (y_catB hF rfl rfl (by unfold maxLen;omega)) fun a hF=>d_1 17 Kr<|d_op rfl rfl<|e_callK hF hW rfl rfl en_25 Rl (listed_any (M:=out) (hcat _ (hW.res 2 rfl)) hzt.1.1 Om) fun a w1 hW hF=>ai (hW.del 0 rfl) fun hS=>dv 18 rfl hF hS (y_catB hF rfl rfl (by unfold maxLen;simp only[List.length_append];omega)) fun a hF=>dv 19 rfl hF hS (y_catB hF rfl rfl (by unfold maxLen;simp only[List.length_append,List.length_cons,List.length_nil];omega)) fun a hF=>dq 1 [20] hF hS rfl fun a hF=>?_;clear hS;refine d_nil Kr ?_;replace hF:=hF.ks [0,1,2,6,7,8,9,10,11,12,16,17,20,27,34,39,43,64] rfl;refine b_n<|t_n<|c_r<|pq 1 hF rfl fun a hF=>pv hF hW (y_add hF rfl rfl (IntWalk.i64_in _ Om)) fun a hF=>pq 1 hF rfl fun a hF=>l_nil ?_;replace hW:=hW.del 0 rfl;refine t_n ?_;refine⟨(k+1,F++lineT (endL en) out),?_,?_,?_,?_⟩
 exact⟨by omega,by rw[hF0,cellsT_succ (by rw[List.length_map];omega),hzc,List.append_assoc]⟩
 first|omega|(dsimp only;omega)
 focus
  exact Fr.app (Fr.cons hF (t:=17) rfl (by first|rfl|(exact congrArg (fun z=>Value.string (bstr z)) (by simp[lineT]))|(simp;done)|omega) (Fr.cons hF (t:=12) rfl (by first|rfl|(exact congrArg (fun z=>Value.string (bstr z)) (by simp[lineT]))|(simp;done)|omega) (Fr.nil hF))) (hF.ks [0,1,2,6,7,8,9,10,11,16,20,27,34,39,43] rfl)
 exact hW
 refine d_op rfl rfl<|e_callK hF hW rfl rfl en_25 Rl (listed_any (M:=out) (hcat _ (hW.res 2 rfl)) hzt.1.1 Om) fun a w1 hW hF=>ai (hW.del 0 rfl) fun hS=>d_1 9 Kr<|d_opval rfl hF rfl hW (y_loadOwn hF rfl 0 rfl (endL_get hzt.2) Tryz.underlying9 rfl) rfl rfl fun a hF=>ai (hW.del 0 rfl) fun hS=>dv 10 rfl hF hS (y_catB hF rfl rfl (by unfold maxLen;omega)) fun a hF=>dv 18 rfl hF hS (y_catB hF rfl rfl (by unfold maxLen;simp only[List.length_append];omega)) fun a hF=>dv 19 rfl hF hS (y_catB hF rfl rfl (by unfold maxLen;simp only[List.length_append,List.length_cons,List.length_nil];omega)) fun a hF=>dq 1 [20] hF hS rfl fun a hF=>?_;clear hS;refine d_nil Kr ?_;replace hF:=hF.ks [0,1,2,6,7,8,9,10,11,12,16,17,20,27,34,39,43,64] rfl;refine b_n<|t_n<|c_r<|pq 1 hF rfl fun a hF=>pv hF hW (y_add hF rfl rfl (IntWalk.i64_in _ Om)) fun a hF=>pq 1 hF rfl fun a hF=>l_nil ?_;replace hW:=hW.del 0 rfl;refine t_n ?_;refine⟨(k+1,F++lineT (endL en) out),?_,?_,?_,?_⟩
 exact⟨by omega,by rw[hF0,cellsT_succ (by rw[List.length_map];omega),hzc,List.append_assoc]⟩
 first|omega|(dsimp only;omega)
 focus
  exact Fr.app (Fr.cons hF (t:=17) rfl (by first|rfl|(exact congrArg (fun z=>Value.string (bstr z)) (by simp[lineT]))|(simp;done)|omega) (Fr.cons hF (t:=12) rfl (by first|rfl|(exact congrArg (fun z=>Value.string (bstr z)) (by simp[lineT]))|(simp;done)|omega) (Fr.nil hF))) (hF.ks [0,1,2,6,7,8,9,10,11,16,20,27,34,39,43] rfl)
 exact hW
 refine d_op rfl rfl<|e_callK hF hW rfl rfl en_25 Rl (listed_any (M:=out) (hcat _ (hW.res 1 rfl)) hzt.1.1 Om) fun a w1 hW hF=>ai hW fun hS=>d_1 1 Kr<|d_op rfl rfl<|e_buildSlice hF hW rfl (fun w=>bs_DskK_86_3_0_1_2 _ _ _ w) rfl rfl rfl fun b13 a wc hF hW=>ai (hW.del 0 rfl) fun hS=>dv 8 rfl hF hS (y_indexOwnS hF rfl rfl (by show en.toNat<3;omega) Tryz.underlying86 sz_9) fun a hF=>d_1 9 Kr<|d_opval rfl hF rfl hW (y_loadOwn hF rfl 0 rfl (endL_get hzt.2) Tryz.underlying9 rfl) rfl rfl fun a hF=>ai (hW.del 0 rfl) fun hS=>dv 10 rfl hF hS (y_catB hF rfl rfl (by unfold maxLen;omega)) fun a hF=>dv 18 rfl hF hS (y_catB hF rfl rfl (by unfold maxLen;simp only[List.length_append];omega)) fun a hF=>dv 19 rfl hF hS (y_catB hF rfl rfl (by unfold maxLen;simp only[List.length_append,List.length_cons,List.length_nil];omega)) fun a hF=>dq 1 [20] hF hS rfl fun a hF=>?_;clear hS;refine d_nil Kr ?_;replace hF:=hF.ks [0,1,2,6,7,8,9,10,11,12,16,17,20,27,34,39,43,64] rfl;refine b_n<|t_n<|c_r<|pq 1 hF rfl fun a hF=>pv hF hW (y_add hF rfl rfl (IntWalk.i64_in _ Om)) fun a hF=>pq 1 hF rfl fun a hF=>l_nil ?_;replace hW:=hW.del 0 rfl;refine t_n ?_;refine⟨(k+1,F++lineT (endL en) out),?_,?_,?_,?_⟩
 exact⟨by omega,by rw[hF0,cellsT_succ (by rw[List.length_map];omega),hzc,List.append_assoc]⟩
 first|omega|(dsimp only;omega)
 focus
  exact Fr.app (Fr.cons hF (t:=17) rfl (by first|rfl|(exact congrArg (fun z=>Value.string (bstr z)) (by simp[lineT]))|(simp;done)|omega) (Fr.cons hF (t:=12) rfl (by first|rfl|(exact congrArg (fun z=>Value.string (bstr z)) (by simp[lineT]))|(simp;done)|omega) (Fr.nil hF))) (hF.ks [0,1,2,6,7,8,9,10,11,16,20,27,34,39,43] rfl)
 exact hW
 refine l_nil<|t_n<|c_f hF rfl<|wp_exit<|t_x<|t_x<|b_h<|t_n<|c_sr<|pq 3 hF rfl fun a hF=>l_nil<|t_n<|wp_ret<|ret2 Tryz.results6 hF (rv_t hF rfl) (rv_t hF rfl) ?_
 rcases hRu with⟨-,hRS⟩|⟨h,-⟩
 obtain rfl:k=y.cells.length:=Om
 rw[List.take_of_length_le (by rw[List.length_map];omega),hcl] at hF0
 refine⟨F,0,rfl,.inr ⟨hre.1,.inr ⟨P,hRS,.inr ⟨by rw[←hxs];exact hc0,.inr ⟨hn,rfl,is,L,S,?_,hF0⟩⟩⟩⟩,hW.below⟩
 rw[←hxs]
 have hpl:x.sys.parts.length=x.parts.length:=sys_parts_len x
 rw[hpl]
 exact hI
 simp_all
 refine pq 1 hF rfl fun a hF=>l_nil<|t_n<|c_t hF rfl<|c_sr<|pq 2 hF rfl fun a hF=>l_nil<|t_n<|wp_ret<|t_r<|ret2 Tryz.results6 hF (rv_t hF rfl) (rv_t hF rfl) ?_
 rcases hRu with⟨-,hRS⟩|⟨h,-⟩
 have hre:=rErr_0 (l:=l) Om Am
 exact⟨[],3,rfl,.inr ⟨hre.1,.inr ⟨P,hRS,.inr (by rw[hre.2,←hx];exact⟨by omega,.inl ⟨by omega,rfl,rfl⟩⟩)⟩⟩,hW.below⟩
 simp_all
 refine pe<|e_alloc hF hW ze_27 rfl rfl rfl fun b14 a wc hF hW=>pe<|e_storeAll rfl hF hW rfl rfl 0 rfl rfl rfl Kr sz_27 fun wc hW=>pq 1 hF rfl fun a hF=>l_nil<|t_n<|c_s<|c_sr<|pq 2 hF rfl fun a hF=>l_nil ?_;replace hF:=hF.ks [0,1,2,6,7,8,9,10,20,27,34] rfl;refine t_n<|c_t hF rfl<|c_sr<|pq 2 hF rfl fun a hF=>l_nil<|t_n<|wp_ret<|t_r<|ret2 Tryz.results6 hF (rv_t hF rfl) (rv_t hF rfl) ?_
 rcases hRu with⟨h,-⟩|⟨-,-,hno⟩
 simp_all
 exact⟨[],1,rfl,.inr ⟨(rErr_0 Om Am).1,.inl ⟨hno,rfl,rfl⟩⟩,hW.below⟩
 refine pe<|e_alloc hF hW ze_39 rfl rfl rfl fun b15 a wc hF hW=>pe<|e_storeAll rfl hF hW rfl rfl 0 rfl rfl rfl Kr sz_39 fun wc hW=>pq 1 hF rfl fun a hF=>l_nil<|t_n<|c_s<|c_sr<|pq 2 hF rfl fun a hF=>l_nil<|t_n<|c_t hF rfl<|c_sr<|pq 2 hF rfl fun a hF=>l_nil<|t_n<|wp_ret<|t_r<|ret2 Tryz.results6 hF (rv_t hF rfl) (rv_t hF rfl) ?_
 exact⟨[],1,rfl,.inl (by rw[rErr_1 Om Am];exact⟨by decide,rfl,rfl⟩),hW.below⟩
end
end Go.Proofs.YtndcjmopebcdgaaGreatDoor
