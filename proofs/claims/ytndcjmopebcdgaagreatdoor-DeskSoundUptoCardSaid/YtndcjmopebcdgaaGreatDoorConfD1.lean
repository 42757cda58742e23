/- conf.There, conf.Own and conf.Calm: what they give. conf.Calm: what it gives. What is so of calmed systems, in plain words; Calm and SameSystems where the answer is known. relay; systems among a law's arguments. -/
import Derived.Test.YtndcjmopebcdgaaGreatDoorConfC1
import Derived.Test.YtndcjmopebcdgaaGreatDoorSysB
set_option linter.unusedSimpArgs false
set_option linter.unusedVariables false
namespace Go.Proofs.YtndcjmopebcdgaaGreatDoor
section
open Go.ChangeShapes Go.WideShapes Go.ChangeAt Go.RowKit
theorem bs_ConfD_35_1_0(x0:Option Addr)(x0n x0c:Nat)(x1:Option Addr)(x1n x1c:Nat)(w:World):(Instr.buildSlice 35 1 #[(0,(.agg #[(.slice x0 x0n x0c),(.slice x1 x1n x1c)]))]).run Tryz.prog w=.ok (.slice (some ⟨w.heap.size,0,none⟩) 1 1) (w.alloc (.cells #[(.slice x0 x0n x0c),(.slice x1 x1n x1c)] 43)):=by kernel_rfl
theorem bu_ConfD_39_1_2(x0:Option Addr)(x0n x0c:Nat)(x1:Option Addr)(x1n x1c:Nat)(w:World):(Instr.build 39 #[(1,(.slice x0 x0n x0c)),(2,(.slice x1 x1n x1c))]).run Tryz.prog w=.ok (.agg #[(.slice none 0 0),(.slice x0 x0n x0c),(.slice x1 x1n x1c)]) w:=by kernel_rfl
theorem bu_ConfD_43_0_1(x0:Option Addr)(x0n x0c:Nat)(x1:Option Addr)(x1n x1c:Nat)(w:World):(Instr.build 43 #[(0,(.slice x0 x0n x0c)),(1,(.slice x1 x1n x1c))]).run Tryz.prog w=.ok (.agg #[(.slice x0 x0n x0c),(.slice x1 x1n x1c)]) w:=by kernel_rfl
set_option maxRecDepth 100000
theorem confThere_any{x:SysD}{w:World}(hx:x.At w)(p:Int):
  Calls Tryz.prog 43 #[x.val,.int .i64 p] w fun e w'=>e=.returned (.int .i64 (thereErr x.sys p))∧Below w.heap.size w w':=by
 have hl:=hx.parts.len
 unfold maxLen at hl
 have hp:=fun h=>part_len (x:=x) (p:=p) h
 have hp':0≤p∧p<x.parts.length→0≤p∧p<x.sys.parts.length:=fun h=>by simpa[SysD.sys] using h
 rw[x.val_eq]
 refine enter Tryz.func43 rfl Tryz.ntmps43 rfl fun a hF=>?_
 have hW:=Wd.start w NoB
 refine c_sr<|pe<|e_box hF hW rfl rfl rfl rfl fun b1 a wc hF hW=>pq 1 hF rfl fun a hF=>l_nil<|t_n<|c_s<|c_sr<|pv hF hW (y_loadAll hF rfl 0 rfl Tryz.underlying39 rfl sz_39) fun a hF=>pe<|e_callK hF hW rfl rfl en_46 Rl (confCheck_any (hx.below hW.below)) fun a w1 hW hF=>pq 1 hF rfl fun a hF=>lts<|pq 2 hF rfl fun a hF=>?_;refine Fr.splitD hF (fun h2 hF=>?_) (fun h2 hF=>?_);refine l_nil<|t_n<|c_t hF rfl<|c_sr<|pq 2 hF rfl fun a hF=>l_nil<|t_n<|wp_ret<|t_r<|ret1 Tryz.results43 hF (rv_t hF rfl) ?_
 exact⟨by rw[there_c Am],hW.below⟩
 refine l_nil<|t_n<|c_f hF rfl<|wp_skip<|t_n<|c_s<|c_sr<|pq 2 hF rfl fun a hF=>?_;refine Fr.splitD hF (fun h3 hF=>?_) (fun h3 hF=>?_);refine pq 7 hF rfl fun a hF=>l_nil<|t_n<|c_t hF rfl<|c_sr<|pq 1 hF rfl fun a hF=>l_nil<|t_n<|wp_ret<|t_r<|ret1 Tryz.results43 hF (rv_t hF rfl) ?_
 exact⟨by rw[there_5 Om (fun h=>by have:=hp h;omega)],hW.below⟩
 refine pq 3 hF rfl fun a hF=>pvg hF hW (y_loadOwn hF rfl 0 rfl rfl Tryz.underlying35 rfl) (ws hF rfl rfl) fun a hF=>pq 2 hF rfl fun a hF=>?_;refine Fr.splitD hF (fun h4 hF=>?_) (fun h4 hF=>?_);refine pq 1 hF rfl fun a hF=>l_nil<|t_n<|c_t hF rfl<|c_sr<|pq 1 hF rfl fun a hF=>l_nil<|t_n<|wp_ret<|t_r<|ret1 Tryz.results43 hF (rv_t hF rfl) ?_
 exact⟨by rw[there_5 Om (fun h=>by have:=hp h;omega)],hW.below⟩
 refine pq 1 hF rfl fun a hF=>l_nil<|t_n<|c_f hF rfl<|wp_skip<|t_n<|c_sr<|pq 1 hF rfl fun a hF=>l_nil<|t_n<|wp_ret<|ret1 Tryz.results43 hF (rv_t hF rfl) ?_
 exact⟨by rw[there_0 Om (hp' Om)],hW.below⟩
def PP.Own(q:PP)(u:World):Prop:=OwnFlat Ins.cells 4 u (.slice q.2.ca q.1.code.length q.2.cc) q.1.code∧OwnInts u 0 (.slice q.2.ia q.1.inp.length q.2.ic) q.1.inp
theorem PP.Own.at_{q:PP}{u:World}(h:q.Own u):q.At u:=⟨h.1.flat,h.2.ints⟩
abbrev SysD.rowP(y:SysD):Asn:=.row 43 2 (.slice y.pa y.parts.length y.pc) y.parts.length (y.parts.flatMap encP)
def SysD.OwnP(y:SysD)(u:World):Prop:=∀q,q∈y.parts→q.Own u
def SysD.Tail(y:SysD)(u:World):Prop:=Flat Chn.cells 3 u (.slice y.ha y.chans.length y.hc) y.chans∧Flat Slt.cells 2 u (.slice y.sa y.slots.length y.sc) y.slots
theorem own_sys{y:SysD}{w w':World}(hW:Wd w NoB [y.rowP,.res y.OwnP,.res y.Tail] w'):OwnRes w w' y.At:=
 (((hW.row_res 0 rfl).res3 fun u h1 h2 h3=>(⟨Flat.of_own h1 rfl,fun q hq=>(h2 q hq).at_,h3.1,h3.2⟩:y.At u)).res_res 0 rfl)
def Turns(w:World)(x:SysD)(g:FuncId)(cap:Array Value)(f:Nat→Prt):Prop:=
 ∀k w1,k<x.parts.length→Below w.heap.size w w1→Calls Tryz.prog g (#[.int .i64 k,.agg (encP (x.parts.getD k P0)).toArray]++cap) w1 fun e w'=>
  ∃q:PP,e=.returned (.agg (encP q).toArray)∧q.1=f k∧Below w1.heap.size w1 w'∧OwnRes w1 w' (fun u=>Below w.heap.size w u→q.At u)
set_option maxHeartbeats 4000000 in
theorem confOwnO_any{x:SysD}{w:World}(hx:x.At w){g:FuncId}{cap:Array Value}{f:Nat→Prt}(hen:Enters Tryz.prog g)(hg:Turns w x g cap f)(hp:x.parts.length≤1024)(hcn:x.chans.length≤1024)(hsn:x.slots.length≤1024)
  (hf:∀k,k<x.parts.length→(f k).code.length*32≤140737488355328∧(f k).inp.length*8≤140737488355328):
  Calls Tryz.prog 44 #[x.val,.func (.func g) #[] cap] w fun e w'=>∃y:SysD,e=.returned y.val∧y.sys=⟨(List.range x.parts.length).map f,x.chans,x.slots⟩∧Wd w NoB [y.rowP,.res y.OwnP,.res y.Tail] w':=by
 rw[x.val_eq]
 refine enter Tryz.func44 rfl Tryz.ntmps44 rfl fun a hF=>?_
 have hW:=Wd.start w NoB
 refine c_sr<|pe<|e_box hF hW rfl rfl rfl rfl fun b1 a wc hF hW=>pe<|e_alloc hF hW ze_39 rfl rfl rfl fun b2 a wc hF hW=>l_nil<|t_n ?_;refine c_cut (G:=Nat×Option Addr×Nat×Option Addr×Nat) (fun⟨b5,A1,c1,A2,c2⟩=>[(5,.pointer (some ⟨b5,0,none⟩))]) (fun⟨b5,A1,c1,A2,c2⟩=>[.res (fun u=>Flat Chn.cells 3 u (.slice A1 x.chans.length c1) x.chans),.res (fun u=>Flat Slt.cells 2 u (.slice A2 x.slots.length c2) x.slots),.blk b5 39 [.slice none 0 0,.slice A1 x.chans.length c1,.slice A2 x.slots.length c2]]) (fun⟨b5,A1,c1,A2,c2⟩=>True) (hF.ks [0,1,2,4] rfl) hW ?_ ?_;refine c_d mixed_ok hW (hW) ?_
 clear hW;intro wc hW hS
 refine dq 1 [0] hF hS rfl fun a hF=>dv 1 rfl hF hS (y_loadOwn hF rfl 1 rfl rfl Tryz.underlying36 rfl) fun a hF=>dq 1 [3] hF hS rfl fun a hF=>dv 4 rfl hF hS (y_loadOwn hF rfl 1 rfl rfl Tryz.underlying37 rfl) fun a hF=>?_;refine d_2 2 7 Kr ?_ ?_;refine d_op rfl rfl (e_callA hF rfl rfl en_85 Rl (clone_chan (hx.chans.below hW.below) Om) ?_);rintro e w1 ⟨A1,c1,rfl,hb,hr⟩;replace hW:=hW.gotR hb (hr.mono fun _ h=>OwnFlat.flat h);refine⟨_,rfl,fun a hF=>?_⟩;refine ai (hW.del 0 rfl) fun hS=>?_;refine d_2 5 7 Kr ?_ ?_;refine d_op rfl rfl (e_callA hF rfl rfl en_86 Rl (clone_slot (hx.slots.below hW.below) Om) ?_);rintro e w1 ⟨A2,c2,rfl,hb,hr⟩;replace hW:=hW.gotR hb (hr.mono fun _ h=>OwnFlat.flat h);refine⟨_,rfl,fun a hF=>?_⟩;refine ai (hW.ds [0,0] rfl) fun hS=>dv 6 rfl hF hS (y_build hF rfl (fun w=>bu_ConfD_39_1_2 _ _ _ _ _ _ w)) fun a hF=>d_1 7 Kr<|d_op rfl rfl<|e_alloc hF hW ze_39 rfl rfl rfl fun b3 a wc hF hW=>ai (hW.ds [0,0,0] rfl) fun hS=>d_1 8 Kr ?_;refine d_op rfl rfl<|e_storeAll rfl hF hW rfl rfl 0 rfl rfl rfl Kr sz_39 fun wc hW=>ai (hW.ds [0,0,0] rfl) fun hS=>?_;clear hS;refine d_nil Kr ?_;replace hW:=hW.fs [4,4,2,3,4] rfl;refine t_n ?_;refine⟨(b3,A1,c1,A2,c2),?_,?_,?_⟩
 exact hF.a1 rfl rfl
 exact hW
 trivial
 refine d_op rfl rfl<|e_alloc hF hW ze_39 rfl rfl rfl fun b4 a wc hF hW=>ai (hW.ds [0,0] rfl) fun hS=>d_1 5 Kr ?_;refine d_op rfl rfl (e_callA hF rfl rfl en_86 Rl (clone_slot (hx.slots.below hW.below) Om) ?_);rintro e w1 ⟨A2,c2,rfl,hb,hr⟩;replace hW:=hW.gotR hb (hr.mono fun _ h=>OwnFlat.flat h);refine⟨_,rfl,fun a hF=>?_⟩;refine ai (hW.ds [0,0,0] rfl) fun hS=>dv 6 rfl hF hS (y_build hF rfl (fun w=>bu_ConfD_39_1_2 _ _ _ _ _ _ w)) fun a hF=>d_1 8 Kr ?_;refine d_op rfl rfl<|e_storeAll rfl hF hW rfl rfl 1 rfl rfl rfl Kr sz_39 fun wc hW=>ai (hW.ds [0,0,0] rfl) fun hS=>?_;clear hS;refine d_nil Kr ?_;replace hW:=hW.fs [4,4,3,3,4] rfl;refine t_n ?_;refine⟨(b4,A1,c1,A2,c2),?_,?_,?_⟩
 exact hF.a1 rfl rfl
 exact hW
 trivial
 refine d_op rfl rfl<|e_alloc hF hW ze_39 rfl rfl rfl fun b5 a wc hF hW=>ai (hW.del 0 rfl) fun hS=>d_1 2 Kr ?_;refine d_op rfl rfl (e_callA hF rfl rfl en_85 Rl (clone_chan (hx.chans.below hW.below) Om) ?_);rintro e w1 ⟨A1,c1,rfl,hb,hr⟩;replace hW:=hW.gotR hb (hr.mono fun _ h=>OwnFlat.flat h);refine⟨_,rfl,fun a hF=>?_⟩;refine ai (hW.ds [0,0] rfl) fun hS=>d_1 5 Kr ?_;refine d_op rfl rfl (e_callA hF rfl rfl en_86 Rl (clone_slot (hx.slots.below hW.below) Om) ?_);rintro e w1 ⟨A2,c2,rfl,hb,hr⟩;replace hW:=hW.gotR hb (hr.mono fun _ h=>OwnFlat.flat h);refine⟨_,rfl,fun a hF=>?_⟩;refine ai (hW.ds [0,0,0] rfl) fun hS=>dv 6 rfl hF hS (y_build hF rfl (fun w=>bu_ConfD_39_1_2 _ _ _ _ _ _ w)) fun a hF=>d_1 8 Kr ?_;refine d_op rfl rfl<|e_storeAll rfl hF hW rfl rfl 2 rfl rfl rfl Kr sz_39 fun wc hW=>ai (hW.ds [0,0,0] rfl) fun hS=>?_;clear hS;refine d_nil Kr ?_;replace hW:=hW.fs [4,4,4,3,4] rfl;refine t_n ?_;refine⟨(b5,A1,c1,A2,c2),?_,?_,?_⟩
 exact hF.a1 rfl rfl
 exact hW
 trivial
 clear hF hW
 try clear a
 intro gq a wc hC hF hW
 obtain⟨b5,A1,c1,A2,c2⟩:=gq
 dsimp only at hC
 clear hC;refine c_s<|c_sr<|pq 1 hF rfl fun a hF=>pv hF hW (y_loadOwn hF rfl 4 rfl rfl Tryz.underlying35 rfl) fun a hF=>pq 2 hF rfl fun a hF=>l_nil<|t_n<|wp_block ?_;replace hW:=hW.nil_row 43 2;replace hW:=hW.free (R:=fun u=>∀q,q∈([]:List PP)→q.Own u) (fun _ _ h=>by cases h);replace hW:=hW.fs [4,2,2] rfl;refine c_loop (G:=Nat×List PP×Option Addr×Nat) (fun⟨k,L,A,c⟩=>[(18,.int .i64 (k:Int))]) (fun⟨k,L,A,c⟩=>[.res (fun u=>∀q,q∈L→q.Own u),.row 43 2 (.slice A k c) k (L.flatMap encP),.blk b5 39 [.slice A k c,.slice A1 x.chans.length c1,.slice A2 x.slots.length c2]]) (fun⟨k,L,A,c⟩=>L.length=k∧k≤x.parts.length∧∀i,i<k→(L.getD i P0).1=f i) (fun⟨k,L,A,c⟩=>x.parts.length - k) (0,[],none,0) (hF.ks [0,1,2,4,5,16,17] rfl) (Fr.cons hF (t:=18) rfl Rg (Fr.nil hF)) (hW) ?_ ?_
 exact⟨rfl,by omega,fun i hi=>by omega⟩
 clear hF hW
 try clear a
 intro gq a wc hC hF hW
 obtain⟨k,L,A,c⟩:=gq
 dsimp only at hC
 obtain⟨hL,hk,hq⟩:=hC
 refine c_sr<|pq 1 hF rfl fun a hF=>?_;refine Fr.splitD hF (fun h6 hF=>?_) (fun h6 hF=>?_);refine l_nil<|t_n<|c_s<|c_t hF rfl<|wp_skip<|t_n ?_;refine c_cut (G:=PP×Option Addr×Nat) (fun⟨q',A',c'⟩=>[]) (fun⟨q',A',c'⟩=>[.res (fun u=>∀p,p∈L++[q']→p.Own u),.row 43 2 (.slice A' (k+1) c') (k+1) ((L++[q']).flatMap encP),.blk b5 39 [.slice A' (k+1) c',.slice A1 x.chans.length c1,.slice A2 x.slots.length c2]]) (fun⟨q',A',c'⟩=>q'.1=f k) (hF.ks [0,1,2,4,5,16,17,18,19] rfl) (hW.ds [0,0,0] rfl) ?_ ?_;refine wp_block<|c_sr<|pq 1 hF rfl fun a hF=>pv hF hW (y_indexS hF rfl rfl Od Tryz.underlying35 sz_43 (fun w h=>(hx.partsR).wd h)) fun a hF=>pv hF hW (y_loadRowW hF rfl (fun w h=>(hx.partsR).wd h) Od Tryz.underlying43 rfl sz_43) fun a hF=>pe<|e_alloc hF hW ze_43 rfl rfl rfl fun b7 a wc hF hW=>pq 1 hF rfl fun a hF=>pe<|e_storeAll rfl hF hW rfl rfl 0 rfl rfl rfl Kr sz_43 fun wc hW=>lts<|pq 2 hF rfl fun a hF=>pv hF hW (y_loadAll hF rfl 0 rfl Tryz.underlying43 rfl sz_43) fun a hF=>?_;refine pe (e_callA hF rfl rfl hen Rl (hg k _ Om hW.below) ?_);rintro e w1 ⟨q,rfl,hqf,hb,hr⟩;replace hW:=hW.gotR hb hr;refine⟨_,rfl,fun a hF=>?_⟩;replace hF:=Fr.cast (v':=.agg #[.slice q.2.ca q.1.code.length q.2.cc,.slice q.2.ia q.1.inp.length q.2.ic]) rfl hF;refine pe<|e_storeAll rfl hF hW rfl rfl 1 rfl rfl rfl Kr sz_43 fun wc hW=>l_nil<|t_n<|c_d mixed_ok hW ((hW.ds [3,3] rfl)) ?_
 clear hW;intro wc hW hS
 refine dq 2 [0,2] hF hS rfl fun a hF=>dv 3 rfl hF hS (y_loadOwn hF rfl 1 rfl rfl Tryz.underlying40 rfl) fun a hF=>dq 1 [5] hF hS rfl fun a hF=>dv 6 rfl hF hS (y_loadOwn hF rfl 1 rfl rfl Tryz.underlying41 rfl) fun a hF=>?_;refine d_2 1 4 Kr ?_ ?_;refine d_opval rfl hF rfl hW (y_loadOwn hF rfl 4 rfl rfl Tryz.underlying35 rfl) rfl rfl fun a hF=>ai (hW.ds [3,3] rfl) fun hS=>d_1 4 Kr ?_;refine d_op rfl rfl (e_callA hF rfl rfl en_87 Rl (clone_instr ((hW.res 0 rfl) hW.below).code (by rw[hqf];exact(hf k Om).1)) ?_);rintro e w1 ⟨A3,c3,rfl,hb,hr⟩;replace hW:=hW.gotR hb hr;refine⟨_,rfl,fun a hF=>?_⟩;refine ai (hW.ds [0,3,3] rfl) fun hS=>d_1 7 Kr ?_;refine d_op rfl rfl (e_callA hF rfl rfl en_84 Rl (clone_intO ((hW.res 1 rfl) hW.below).inp (by rw[hqf];exact(hf k Om).2)) ?_);rintro e w1 ⟨A4,c4,rfl,hb,hr⟩;replace hW:=hW.gotR hb hr;refine⟨_,rfl,fun a hF=>?_⟩;refine ai (hW.ds [0,0,3,3] rfl) fun hS=>dv 8 rfl hF hS (y_build hF rfl (fun w=>bu_ConfD_43_0_1 _ _ _ _ _ _ w)) fun a hF=>d_1 9 Kr<|d_op rfl rfl<|e_buildSlice hF hW rfl (fun w=>bs_ConfD_35_1_0 _ _ _ _ _ _ w) rfl rfl rfl fun b8 a wc hF hW=>ai (hW.ds [0,0,0,3,3] rfl) fun hS=>d_1 10 Kr<|d_op rfl rfl<|e_append hF hW 6 rfl rfl rfl Tryz.underlying35 inf_43 rfl Dc (rowAt_blk (hW.blk 0 rfl) 2 1 rfl) Oc (show _=k+1 by omega) (show _=(L++[(q.1,PX.mk A3 c3 A4 c4)]).flatMap encP by simp[encP]) Ox Ml rfl rfl fun A9 c10 a wc hF hW=>ai (hW.ds [0,0,0,3,3] rfl) fun hS=>dq 1 [11] hF hS rfl fun a hF=>d_1 12 Kr ?_;refine d_op rfl rfl<|e_store rfl hF hW rfl rfl 7 rfl rfl rfl sz_35 fun wc hW=>ai (hW.ds [0,0,0,3,3] rfl) fun hS=>?_;clear hS;refine d_nil Kr ?_;replace hF:=hF.ks [0,1,2,4,5,6,7,16,17,18,19] rfl;refine b_n ?_;replace hW:=hW.ds [0,2,2] rfl;replace hW:=hW.fs [8,8,8,8,8,8,8,7,8] rfl;refine t_n ?_;refine⟨((q.1,PX.mk A3 c3 A4 c4),A9,c10),?_,?_,?_⟩
 exact hF.al rfl
 exact hW.res3 fun u h1 h2 h3 p hp=>(List.mem_append.1 hp).elim (h3 p) fun h=>by rw[List.mem_singleton.1 h];exact⟨h1,h2⟩
 exact hqf
 refine d_op rfl rfl (e_callA hF rfl rfl en_87 Rl (clone_instr ((hW.res 0 rfl) hW.below).code (by rw[hqf];exact(hf k Om).1)) ?_);rintro e w1 ⟨A3,c3,rfl,hb,hr⟩;replace hW:=hW.gotR hb hr;refine⟨_,rfl,fun a hF=>?_⟩;refine ai (hW.ds [0,3,3] rfl) fun hS=>?_;refine d_2 1 7 Kr ?_ ?_;refine d_opval rfl hF rfl hW (y_loadOwn hF rfl 5 rfl rfl Tryz.underlying35 rfl) rfl rfl fun a hF=>ai (hW.ds [0,3,3] rfl) fun hS=>d_1 7 Kr ?_;refine d_op rfl rfl (e_callA hF rfl rfl en_84 Rl (clone_intO ((hW.res 1 rfl) hW.below).inp (by rw[hqf];exact(hf k Om).2)) ?_);rintro e w1 ⟨A4,c4,rfl,hb,hr⟩;replace hW:=hW.gotR hb hr;refine⟨_,rfl,fun a hF=>?_⟩;refine ai (hW.ds [0,0,3,3] rfl) fun hS=>dv 8 rfl hF hS (y_build hF rfl (fun w=>bu_ConfD_43_0_1 _ _ _ _ _ _ w)) fun a hF=>d_1 9 Kr<|d_op rfl rfl<|e_buildSlice hF hW rfl (fun w=>bs_ConfD_35_1_0 _ _ _ _ _ _ w) rfl rfl rfl fun b11 a wc hF hW=>ai (hW.ds [0,0,0,3,3] rfl) fun hS=>d_1 10 Kr<|d_op rfl rfl<|e_append hF hW 6 rfl rfl rfl Tryz.underlying35 inf_43 rfl Dc (rowAt_blk (hW.blk 0 rfl) 2 1 rfl) Oc (show _=k+1 by omega) (show _=(L++[(q.1,PX.mk A3 c3 A4 c4)]).flatMap encP by simp[encP]) Ox Ml rfl rfl fun A12 c13 a wc hF hW=>ai (hW.ds [0,0,0,3,3] rfl) fun hS=>dq 1 [11] hF hS rfl fun a hF=>d_1 12 Kr ?_;refine d_op rfl rfl<|e_store rfl hF hW rfl rfl 7 rfl rfl rfl sz_35 fun wc hW=>ai (hW.ds [0,0,0,3,3] rfl) fun hS=>?_;clear hS;refine d_nil Kr ?_;replace hF:=hF.ks [0,1,2,4,5,6,7,16,17,18,19] rfl;refine b_n ?_;replace hW:=hW.ds [0,2,2] rfl;replace hW:=hW.fs [8,8,8,8,8,8,8,7,8] rfl;refine t_n ?_;refine⟨((q.1,PX.mk A3 c3 A4 c4),A12,c13),?_,?_,?_⟩
 exact hF.al rfl
 exact hW.res3 fun u h1 h2 h3 p hp=>(List.mem_append.1 hp).elim (h3 p) fun h=>by rw[List.mem_singleton.1 h];exact⟨h1,h2⟩
 exact hqf
 refine d_op rfl rfl (e_callA hF rfl rfl en_84 Rl (clone_intO ((hW.res 1 rfl) hW.below).inp (by rw[hqf];exact(hf k Om).2)) ?_);rintro e w1 ⟨A4,c4,rfl,hb,hr⟩;replace hW:=hW.gotR hb hr;refine⟨_,rfl,fun a hF=>?_⟩;refine ai (hW.ds [0,0,3,3] rfl) fun hS=>dv 8 rfl hF hS (y_build hF rfl (fun w=>bu_ConfD_43_0_1 _ _ _ _ _ _ w)) fun a hF=>?_;refine d_2 1 9 Kr ?_ ?_;refine d_opval rfl hF rfl hW (y_loadOwn hF rfl 6 rfl rfl Tryz.underlying35 rfl) rfl rfl fun a hF=>ai (hW.ds [0,0,3,3] rfl) fun hS=>d_1 9 Kr<|d_op rfl rfl<|e_buildSlice hF hW rfl (fun w=>bs_ConfD_35_1_0 _ _ _ _ _ _ w) rfl rfl rfl fun b14 a wc hF hW=>ai (hW.ds [0,0,0,3,3] rfl) fun hS=>d_1 10 Kr<|d_op rfl rfl<|e_append hF hW 6 rfl rfl rfl Tryz.underlying35 inf_43 rfl Dc (rowAt_blk (hW.blk 0 rfl) 2 1 rfl) Oc (show _=k+1 by omega) (show _=(L++[(q.1,PX.mk A3 c3 A4 c4)]).flatMap encP by simp[encP]) Ox Ml rfl rfl fun A15 c16 a wc hF hW=>ai (hW.ds [0,0,0,3,3] rfl) fun hS=>dq 1 [11] hF hS rfl fun a hF=>d_1 12 Kr<|d_op rfl rfl<|e_store rfl hF hW rfl rfl 7 rfl rfl rfl sz_35 fun wc hW=>ai (hW.ds [0,0,0,3,3] rfl) fun hS=>?_;clear hS;refine d_nil Kr ?_;replace hF:=hF.ks [0,1,2,4,5,6,7,16,17,18,19] rfl;refine b_n ?_;replace hW:=hW.ds [0,2,2] rfl;replace hW:=hW.fs [8,8,8,8,8,8,8,7,8] rfl;refine t_n ?_;refine⟨((q.1,PX.mk A3 c3 A4 c4),A15,c16),?_,?_,?_⟩
 exact hF.al rfl
 exact hW.res3 fun u h1 h2 h3 p hp=>(List.mem_append.1 hp).elim (h3 p) fun h=>by rw[List.mem_singleton.1 h];exact⟨h1,h2⟩
 exact hqf
 refine d_op rfl rfl<|e_buildSlice hF hW rfl (fun w=>bs_ConfD_35_1_0 _ _ _ _ _ _ w) rfl rfl rfl fun b17 a wc hF hW=>ai (hW.ds [0,0,0,3,3] rfl) fun hS=>d_1 1 Kr<|d_opval rfl hF rfl hW (y_loadOwn hF rfl 7 rfl rfl Tryz.underlying35 rfl) rfl rfl fun a hF=>ai (hW.ds [0,0,0,3,3] rfl) fun hS=>d_1 10 Kr<|d_op rfl rfl<|e_append hF hW 6 rfl rfl rfl Tryz.underlying35 inf_43 rfl Dc (rowAt_blk (hW.blk 0 rfl) 2 1 rfl) Oc (show _=k+1 by omega) (show _=(L++[(q.1,PX.mk A3 c3 A4 c4)]).flatMap encP by simp[encP]) Ox Ml rfl rfl fun A18 c19 a wc hF hW=>ai (hW.ds [0,0,0,3,3] rfl) fun hS=>dq 1 [11] hF hS rfl fun a hF=>d_1 12 Kr<|d_op rfl rfl<|e_store rfl hF hW rfl rfl 7 rfl rfl rfl sz_35 fun wc hW=>ai (hW.ds [0,0,0,3,3] rfl) fun hS=>?_;clear hS;refine d_nil Kr ?_;replace hF:=hF.ks [0,1,2,4,5,6,7,16,17,18,19] rfl;refine b_n ?_;replace hW:=hW.ds [0,2,2] rfl;replace hW:=hW.fs [8,8,8,8,8,8,8,7,8] rfl;refine t_n ?_;refine⟨((q.1,PX.mk A3 c3 A4 c4),A18,c19),?_,?_,?_⟩
 exact hF.al rfl
 exact hW.res3 fun u h1 h2 h3 p hp=>(List.mem_append.1 hp).elim (h3 p) fun h=>by rw[List.mem_singleton.1 h];exact⟨h1,h2⟩
 exact hqf
 clear hF hW
 try clear a
 intro gq a wc hC hF hW
 obtain⟨q',A',c'⟩:=gq
 dsimp only at hC
 have hq1:=hC
 refine c_r<|pv hF hW (y_add hF rfl rfl (IntWalk.i64_in _ Om)) fun a hF=>pq 1 hF rfl fun a hF=>l_nil<|t_n ?_;refine⟨(k+1,L++[q'],A',c'),?_,?_,?_,?_⟩
 exact⟨by simp[hL],by omega,fun i hi=>by rcases Nat.lt_or_ge i k with h|h;rw[getD_app_l Om];exact hq i h;(have hik:i=k:=by omega);rw[hik,←hL,getD_app_r,hq1,hL]⟩
 first|omega|(dsimp only;omega)
 exact hF.a1 rfl rfl
 exact hW
 refine l_nil<|t_n<|c_s<|c_f hF rfl<|wp_exit<|t_x<|t_x<|b_h<|t_n<|c_sr<|pv hF hW (y_loadAll hF rfl 2 rfl Tryz.underlying39 rfl sz_39) fun a hF=>pe<|e_storeAll rfl hF hW rfl rfl 5 rfl rfl rfl Kr sz_39 fun wc hW=>l_nil<|t_n<|wp_ret<|ret1 Tryz.results44 hF (rv_c hF rfl hW 5 rfl Tryz.underlying39 rfl sz_39) ?_;replace hW:=hW.ds [2,4,4] rfl;replace hW:=hW.fs [3,3,2,3] rfl
 obtain rfl:k=x.parts.length:=Om
 have e:L.map Prod.fst=(List.range x.parts.length).map f:=list_eq_getD P0.1 (by simp[hL]) fun i hi=>(by rw[getD_map,hq i (by simpa[hL] using hi)];simp only[List.length_map,hL] at hi;simp[List.getD,hi])
 have hWL:L.length=x.parts.length:=hL
 refine⟨⟨L,A,c,x.chans,A1,c1,x.slots,A2,c2⟩,by simp only[SysD.val,hL],by simp only[SysD.sys,e],?_⟩
 have h1:=Wd.res2 (R:=SysD.Tail ⟨L,A,c,x.chans,A1,c1,x.slots,A2,c2⟩) ((hW.front 3 rfl rfl).front 3 rfl rfl) fun u h1 h2=>⟨h1,h2⟩
 simp only[SysD.rowP,hL]
 exact(h1.front 2 rfl rfl).front 2 rfl rfl
theorem confOwn_any{x:SysD}{w:World}(hx:x.At w){g:FuncId}{cap:Array Value}{f:Nat→Prt}(hen:Enters Tryz.prog g)(hg:Turns w x g cap f)(hp:x.parts.length≤1024)(hcn:x.chans.length≤1024)(hsn:x.slots.length≤1024)
  (hf:∀k,k<x.parts.length→(f k).code.length*32≤140737488355328∧(f k).inp.length*8≤140737488355328):
  Calls Tryz.prog 44 #[x.val,.func (.func g) #[] cap] w fun e w'=>∃y:SysD,e=.returned y.val∧y.sys=⟨(List.range x.parts.length).map f,x.chans,x.slots⟩∧Below w.heap.size w w'∧OwnRes w w' y.At:=
 (confOwnO_any hx hen hg hp hcn hsn hf).mono fun _ _ ⟨y,he,hs,hN⟩=>⟨y,he,hs,hN.below,own_sys hN⟩
end
section
open Go.ChangeShapes Go.WideShapes Go.ChangeAt Go.RowKit
set_option maxRecDepth 100000
def SysErr(w:World)(s:Sys)(x:Int)(e:Ending)(w':World):Prop:=
 ∃y:SysD,e=.returned (.tuple #[y.val,.int .i64 x])∧y.sys=s∧Below w.heap.size w w'∧OwnRes w w' y.At
end
section
open Go.ChangeShapes Go.WideShapes Go.ChangeAt Go.RowKit
set_option maxRecDepth 100000
theorem firstCode_zero:∀{l:List Prt},firstCode l=0↔∀p,p∈l→chkCode p.code=0
 |[]=>by simp[firstCode]
 |q::r=>by
  unfold firstCode
  constructor
  ·intro h p hp
   split at h
   ·rcases List.mem_cons.1 hp with rfl|hp
    ·assumption
    ·exact firstCode_zero.1 h p hp
   ·exact absurd h Am
  ·intro h
   rw[if_pos (h q List.mem_cons_self)]
   exact firstCode_zero.2 fun p hp=>h p (List.mem_cons_of_mem _ hp)
theorem getD_set{α:Type}{l:List α}{n k:Nat}{c d:α}(hk:k<l.length):(l.set n c).getD k d=if n=k then c else l.getD k d:=by
 simp only[List.getD,List.getElem?_set]
 split
 ·rename_i h
  subst h
  rw[if_pos hk]
  rfl
 ·rfl
end
section
open Go.ChangeShapes Go.WideShapes Go.ChangeAt Go.RowKit
theorem bs_Relay_35_4_0_1_2_3(x0:Option Addr)(x0n x0c:Nat)(x1:Option Addr)(x1n x1c:Nat)(x2:Option Addr)(x2n x2c:Nat)(x3:Option Addr)(x3n x3c:Nat)(x4:Option Addr)(x4n x4c:Nat)(x5:Option Addr)(x5n x5c:Nat)(x6:Option Addr)(x6n x6c:Nat)(x7:Option Addr)(x7n x7c:Nat)(w:World):(Instr.buildSlice 35 4 #[(0,(.agg #[(.slice x0 x0n x0c),(.slice x1 x1n x1c)])),(1,(.agg #[(.slice x2 x2n x2c),(.slice x3 x3n x3c)])),(2,(.agg #[(.slice x4 x4n x4c),(.slice x5 x5n x5c)])),(3,(.agg #[(.slice x6 x6n x6c),(.slice x7 x7n x7c)]))]).run Tryz.prog w=.ok (.slice (some ⟨w.heap.size,0,none⟩) 4 4) (w.alloc (.cells #[(.slice x0 x0n x0c),(.slice x1 x1n x1c),(.slice x2 x2n x2c),(.slice x3 x3n x3c),(.slice x4 x4n x4c),(.slice x5 x5n x5c),(.slice x6 x6n x6c),(.slice x7 x7n x7c)] 43)):=by kernel_rfl
theorem bs_Relay_36_2_0_1(x0:Int)(x1:Int)(x2:Int)(x3:Int)(x4:Int)(x5:Int)(w:World):(Instr.buildSlice 36 2 #[(0,(.agg #[(.int .i64 x0),(.int .i64 x1),(.int .i64 x2)])),(1,(.agg #[(.int .i64 x3),(.int .i64 x4),(.int .i64 x5)]))]).run Tryz.prog w=.ok (.slice (some ⟨w.heap.size,0,none⟩) 2 2) (w.alloc (.cells #[(.int .i64 x0),(.int .i64 x1),(.int .i64 x2),(.int .i64 x3),(.int .i64 x4),(.int .i64 x5)] 121)):=by kernel_rfl
theorem bs_Relay_37_4_0_1_2_3(x0:Int)(x1:Int)(x2:Int)(x3:Int)(x4:Int)(x5:Int)(x6:Int)(x7:Int)(w:World):(Instr.buildSlice 37 4 #[(0,(.agg #[(.int .i64 x0),(.int .i64 x1)])),(1,(.agg #[(.int .i64 x2),(.int .i64 x3)])),(2,(.agg #[(.int .i64 x4),(.int .i64 x5)])),(3,(.agg #[(.int .i64 x6),(.int .i64 x7)]))]).run Tryz.prog w=.ok (.slice (some ⟨w.heap.size,0,none⟩) 4 4) (w.alloc (.cells #[(.int .i64 x0),(.int .i64 x1),(.int .i64 x2),(.int .i64 x3),(.int .i64 x4),(.int .i64 x5),(.int .i64 x6),(.int .i64 x7)] 123)):=by kernel_rfl
theorem bs_Relay_40_2_0_1(x0:Int)(x1:Int)(x2:Int)(x3:Int)(x4:Int)(x5:Int)(x6:Int)(x7:Int)(w:World):(Instr.buildSlice 40 2 #[(0,(.agg #[(.int .i64 x0),(.int .i64 x1),(.int .i64 x2),(.int .i64 x3)])),(1,(.agg #[(.int .i64 x4),(.int .i64 x5),(.int .i64 x6),(.int .i64 x7)]))]).run Tryz.prog w=.ok (.slice (some ⟨w.heap.size,0,none⟩) 2 2) (w.alloc (.cells #[(.int .i64 x0),(.int .i64 x1),(.int .i64 x2),(.int .i64 x3),(.int .i64 x4),(.int .i64 x5),(.int .i64 x6),(.int .i64 x7)] 118)):=by kernel_rfl
theorem bs_Relay_40_3_0_1_2(x0:Int)(x1:Int)(x2:Int)(x3:Int)(x4:Int)(x5:Int)(x6:Int)(x7:Int)(x8:Int)(x9:Int)(x10:Int)(x11:Int)(w:World):(Instr.buildSlice 40 3 #[(0,(.agg #[(.int .i64 x0),(.int .i64 x1),(.int .i64 x2),(.int .i64 x3)])),(1,(.agg #[(.int .i64 x4),(.int .i64 x5),(.int .i64 x6),(.int .i64 x7)])),(2,(.agg #[(.int .i64 x8),(.int .i64 x9),(.int .i64 x10),(.int .i64 x11)]))]).run Tryz.prog w=.ok (.slice (some ⟨w.heap.size,0,none⟩) 3 3) (w.alloc (.cells #[(.int .i64 x0),(.int .i64 x1),(.int .i64 x2),(.int .i64 x3),(.int .i64 x4),(.int .i64 x5),(.int .i64 x6),(.int .i64 x7),(.int .i64 x8),(.int .i64 x9),(.int .i64 x10),(.int .i64 x11)] 118)):=by kernel_rfl
theorem bs_Relay_40_4_0_1_2_3(x0:Int)(x1:Int)(x2:Int)(x3:Int)(x4:Int)(x5:Int)(x6:Int)(x7:Int)(x8:Int)(x9:Int)(x10:Int)(x11:Int)(x12:Int)(x13:Int)(x14:Int)(x15:Int)(w:World):(Instr.buildSlice 40 4 #[(0,(.agg #[(.int .i64 x0),(.int .i64 x1),(.int .i64 x2),(.int .i64 x3)])),(1,(.agg #[(.int .i64 x4),(.int .i64 x5),(.int .i64 x6),(.int .i64 x7)])),(2,(.agg #[(.int .i64 x8),(.int .i64 x9),(.int .i64 x10),(.int .i64 x11)])),(3,(.agg #[(.int .i64 x12),(.int .i64 x13),(.int .i64 x14),(.int .i64 x15)]))]).run Tryz.prog w=.ok (.slice (some ⟨w.heap.size,0,none⟩) 4 4) (w.alloc (.cells #[(.int .i64 x0),(.int .i64 x1),(.int .i64 x2),(.int .i64 x3),(.int .i64 x4),(.int .i64 x5),(.int .i64 x6),(.int .i64 x7),(.int .i64 x8),(.int .i64 x9),(.int .i64 x10),(.int .i64 x11),(.int .i64 x12),(.int .i64 x13),(.int .i64 x14),(.int .i64 x15)] 118)):=by kernel_rfl
theorem bs_Relay_41_1_0(x0:Int)(w:World):(Instr.buildSlice 41 1 #[(0,(.int .i64 x0))]).run Tryz.prog w=.ok (.slice (some ⟨w.heap.size,0,none⟩) 1 1) (w.alloc (.cells #[(.int .i64 x0)] 3)):=by kernel_rfl
theorem bu_Relay_118_0(x0:Int)(w:World):(Instr.build 118 #[(0,(.int .i64 x0))]).run Tryz.prog w=.ok (.agg #[(.int .i64 x0),(.int .i64 0),(.int .i64 0),(.int .i64 0)]) w:=by kernel_rfl
theorem bu_Relay_118_0_1_3(x0:Int)(x1:Int)(x2:Int)(w:World):(Instr.build 118 #[(0,(.int .i64 x0)),(1,(.int .i64 x1)),(3,(.int .i64 x2))]).run Tryz.prog w=.ok (.agg #[(.int .i64 x0),(.int .i64 x1),(.int .i64 0),(.int .i64 x2)]) w:=by kernel_rfl
theorem bu_Relay_118_0_2_3(x0:Int)(x1:Int)(x2:Int)(w:World):(Instr.build 118 #[(0,(.int .i64 x0)),(2,(.int .i64 x1)),(3,(.int .i64 x2))]).run Tryz.prog w=.ok (.agg #[(.int .i64 x0),(.int .i64 0),(.int .i64 x1),(.int .i64 x2)]) w:=by kernel_rfl
theorem bu_Relay_118_0_3(x0:Int)(x1:Int)(w:World):(Instr.build 118 #[(0,(.int .i64 x0)),(3,(.int .i64 x1))]).run Tryz.prog w=.ok (.agg #[(.int .i64 x0),(.int .i64 0),(.int .i64 0),(.int .i64 x1)]) w:=by kernel_rfl
theorem bu_Relay_121_0_1_2(x0:Int)(x1:Int)(x2:Int)(w:World):(Instr.build 121 #[(0,(.int .i64 x0)),(1,(.int .i64 x1)),(2,(.int .i64 x2))]).run Tryz.prog w=.ok (.agg #[(.int .i64 x0),(.int .i64 x1),(.int .i64 x2)]) w:=by kernel_rfl
theorem bu_Relay_123_0_1(x0:Int)(x1:Int)(w:World):(Instr.build 123 #[(0,(.int .i64 x0)),(1,(.int .i64 x1))]).run Tryz.prog w=.ok (.agg #[(.int .i64 x0),(.int .i64 x1)]) w:=by kernel_rfl
theorem bu_Relay_39_0_1_2(x0:Option Addr)(x0n x0c:Nat)(x1:Option Addr)(x1n x1c:Nat)(x2:Option Addr)(x2n x2c:Nat)(w:World):(Instr.build 39 #[(0,(.slice x0 x0n x0c)),(1,(.slice x1 x1n x1c)),(2,(.slice x2 x2n x2c))]).run Tryz.prog w=.ok (.agg #[(.slice x0 x0n x0c),(.slice x1 x1n x1c),(.slice x2 x2n x2c)]) w:=by kernel_rfl
theorem bu_Relay_43_0(x0:Option Addr)(x0n x0c:Nat)(w:World):(Instr.build 43 #[(0,(.slice x0 x0n x0c))]).run Tryz.prog w=.ok (.agg #[(.slice x0 x0n x0c),(.slice none 0 0)]) w:=by kernel_rfl
theorem bu_Relay_43_0_1(x0:Option Addr)(x0n x0c:Nat)(x1:Option Addr)(x1n x1c:Nat)(w:World):(Instr.build 43 #[(0,(.slice x0 x0n x0c)),(1,(.slice x1 x1n x1c))]).run Tryz.prog w=.ok (.agg #[(.slice x0 x0n x0c),(.slice x1 x1n x1c)]) w:=by kernel_rfl
set_option maxRecDepth 100000
theorem Rd.flatQ{P:Program}{w:World}{t e:TypeId}{cs:List Value}{d:Nat}{α:Type}{enc:α→List Value}{size:Nat}{Q:α→Prop}(hu:P.underlying t=some (.slice e))(hce:P.cellsOf e=size)(hs:∀a,(enc a).length=size)(hd:∀r,Rd P w d e r→∃a,r=enc a∧Q a)(h:Rd P w (d+1) t cs):∃v l,cs=[v]∧Flat enc size w v l∧∀a,a∈l→Q a:=by
 obtain⟨v,l,h1,h2⟩:=Rd.flatS (α:={a//Q a}) (enc:=fun a=>enc a.1) hu hce (fun a=>hs a.1) (fun r hr=>by obtain⟨a,ha,hq⟩:=hd r hr;exact⟨⟨a,hq⟩,ha⟩) h
 refine⟨v,l.map Subtype.val,h1,?_,fun a ha=>?_⟩
 ·obtain⟨A,c,e,h3,h4,h5⟩:=h2
  exact⟨A,c,by simpa using e,by simpa using h3,h4,by simpa[List.flatMap_map] using h5⟩
 ·obtain⟨⟨b,hb⟩,_,rfl⟩:=List.mem_map.1 ha
  exact hb
section
variable {H:Type} {enc:TypeId×Value→H} {w:World} {base base':Nat} {r:Reach} {spare:Nat→Bool} {held:Bool} {v:Value} {d:DataW H} {p:List MemPlace}
theorem chn_rd{u:World}{n:Nat}{cs:List Value}(h:Rd Tryz.prog u (n+2) 121 cs):∃i:Chn,cs=i.cells:=by
 obtain⟨l,rfl,hl⟩:=h.ints_of_fields Tryz.underlying121 Kr Kr Kr
 match l,hl with
 |[a,b,c],_=>exact⟨⟨a,b,c⟩,rfl⟩
theorem slt_rd{u:World}{n:Nat}{cs:List Value}(h:Rd Tryz.prog u (n+2) 123 cs):∃i:Slt,cs=i.cells:=by
 obtain⟨l,rfl,hl⟩:=h.ints_of_fields Tryz.underlying123 Kr Kr Kr
 match l,hl with
 |[a,b],_=>exact⟨⟨a,b⟩,rfl⟩
end
def relayP:List Prt:=[⟨[⟨10,0,0,0⟩,⟨12,0,0,0⟩,⟨15,0,0,0⟩],[6]⟩,⟨tellerL,[]⟩,⟨[⟨13,0,1,1⟩,⟨9,1,0,0⟩,⟨11,0,0,0⟩,⟨15,0,0,0⟩],[]⟩,⟨[⟨11,0,0,0⟩,⟨8,0,0,0⟩],[]⟩]
def relayC:List Chn:=[⟨2,0,1⟩,⟨1,1,2⟩]
def relayS:List Slt:=[⟨0,3⟩,⟨1,4⟩,⟨3,1⟩,⟨2,4⟩]
def RelayR(L:List PP)(pa sa:Option Addr)(u:World):Prop:=Flat encP 2 u (.slice pa 4 4) L∧(∀q,q∈L→q.At u)∧Flat Slt.cells 2 u (.slice sa 4 4) relayS
def Relay(w:World)(e:Ending)(w':World):Prop:=
 ∃(L:List PP) (pa:Option Addr) (b:Nat) (sa:Option Addr),e=.returned (.agg #[.slice pa 4 4,.slice (some ⟨b,0,none⟩) 2 2,.slice sa 4 4])∧L.map Prod.fst=relayP∧
  Wd w NoB [.res (RelayR L pa sa),.blk b 121 [.int .i64 2,.int .i64 0,.int .i64 1,.int .i64 1,.int .i64 1,.int .i64 2]] w'
theorem relay_any(w:World):Calls Tryz.prog 36 #[] w (Relay w):=by
 refine enter Tryz.func36 rfl Tryz.ntmps36 rfl fun a hF=>?_
 have hW:=Wd.start w NoB
 refine c_sr<|pe<|e_alloc hF hW ze_39 rfl rfl rfl fun b1 a wc hF hW=>lts<|pv hF hW (y_build hF rfl (fun w=>bu_Relay_118_0 _ w)) fun a hF=>pv hF hW (y_build hF rfl (fun w=>bu_Relay_118_0_3 _ _ w)) fun a hF=>pv hF hW (y_build hF rfl (fun w=>bu_Relay_118_0 _ w)) fun a hF=>pe<|e_buildSlice hF hW rfl (fun w=>bs_Relay_40_3_0_1_2 _ _ _ _ _ _ _ _ _ _ _ _ w) rfl rfl rfl fun b2 a wc hF hW=>pe<|e_buildSlice hF hW rfl (fun w=>bs_Relay_41_1_0 _ w) rfl rfl rfl fun b3 a wc hF hW=>pv hF hW (y_build hF rfl (fun w=>bu_Relay_43_0_1 _ _ _ _ _ _ w)) fun a hF=>?_;refine pe (e_callA hF rfl rfl en_81 Rl (teller_any _) ?_);rintro e w1 ⟨A1,rfl,hr,hb⟩;replace hW:=hW.gotR hb hr;refine⟨_,rfl,fun a hF=>?_⟩;refine pv hF hW (y_build hF rfl (fun w=>bu_Relay_43_0 _ _ _ w)) fun a hF=>pv hF hW (y_build hF rfl (fun w=>bu_Relay_118_0_2_3 _ _ _ w)) fun a hF=>pv hF hW (y_build hF rfl (fun w=>bu_Relay_118_0_1_3 _ _ _ w)) fun a hF=>pv hF hW (y_build hF rfl (fun w=>bu_Relay_118_0 _ w)) fun a hF=>pv hF hW (y_build hF rfl (fun w=>bu_Relay_118_0 _ w)) fun a hF=>pe<|e_buildSlice hF hW rfl (fun w=>bs_Relay_40_4_0_1_2_3 _ _ _ _ _ _ _ _ _ _ _ _ _ _ _ _ w) rfl rfl rfl fun b4 a wc hF hW=>pv hF hW (y_build hF rfl (fun w=>bu_Relay_43_0 _ _ _ w)) fun a hF=>pv hF hW (y_build hF rfl (fun w=>bu_Relay_118_0 _ w)) fun a hF=>pv hF hW (y_build hF rfl (fun w=>bu_Relay_118_0 _ w)) fun a hF=>pe<|e_buildSlice hF hW rfl (fun w=>bs_Relay_40_2_0_1 _ _ _ _ _ _ _ _ w) rfl rfl rfl fun b5 a wc hF hW=>pv hF hW (y_build hF rfl (fun w=>bu_Relay_43_0 _ _ _ w)) fun a hF=>pe<|e_buildSlice hF hW rfl (fun w=>bs_Relay_35_4_0_1_2_3 _ _ _ _ _ _ _ _ _ _ _ _ _ _ _ _ _ _ _ _ _ _ _ _ w) rfl rfl rfl fun b6 a wc hF hW=>pv hF hW (y_build hF rfl (fun w=>bu_Relay_121_0_1_2 _ _ _ w)) fun a hF=>pv hF hW (y_build hF rfl (fun w=>bu_Relay_121_0_1_2 _ _ _ w)) fun a hF=>pe<|e_buildSlice hF hW rfl (fun w=>bs_Relay_36_2_0_1 _ _ _ _ _ _ w) rfl rfl rfl fun b7 a wc hF hW=>pv hF hW (y_build hF rfl (fun w=>bu_Relay_123_0_1 _ _ w)) fun a hF=>pv hF hW (y_build hF rfl (fun w=>bu_Relay_123_0_1 _ _ w)) fun a hF=>pv hF hW (y_build hF rfl (fun w=>bu_Relay_123_0_1 _ _ w)) fun a hF=>pv hF hW (y_build hF rfl (fun w=>bu_Relay_123_0_1 _ _ w)) fun a hF=>pe<|e_buildSlice hF hW rfl (fun w=>bs_Relay_37_4_0_1_2_3 _ _ _ _ _ _ _ _ w) rfl rfl rfl fun b8 a wc hF hW=>pv hF hW (y_build hF rfl (fun w=>bu_Relay_39_0_1_2 _ _ _ _ _ _ _ _ _ w)) fun a hF=>?_
 refine pe<|e_storeAll rfl hF hW rfl rfl 8 rfl rfl rfl Kr sz_39 fun wc hW=>l_nil ?_;replace hF:=hF.ks [0] rfl;refine t_n<|wp_ret<|ret1 Tryz.results36 hF (rv_c hF rfl hW 8 rfl Tryz.underlying39 rfl sz_39) ?_;replace hW:=hW.del 8 rfl;replace hW:=hW.fs [1,1,2,3,4,5,6,7] rfl
 have h7:=(((((((((((hW.blk_res 0 rfl).blk_res 1 rfl).blk_res 3 rfl).blk_res 4 rfl).blk_res 5 rfl).blk_res 6 rfl).join rfl).join rfl).join rfl).join rfl).join rfl).join rfl
 refine⟨[(⟨[⟨10,0,0,0⟩,⟨12,0,0,0⟩,⟨15,0,0,0⟩],[6]⟩,PX.mk (some ⟨b2,0,none⟩) 3 (some ⟨b3,0,none⟩) 1),(⟨tellerL,[]⟩,PX.mk A1 5 none 0),(⟨[⟨13,0,1,1⟩,⟨9,1,0,0⟩,⟨11,0,0,0⟩,⟨15,0,0,0⟩],[]⟩,PX.mk (some ⟨b4,0,none⟩) 4 none 0),(⟨[⟨11,0,0,0⟩,⟨8,0,0,0⟩],[]⟩,PX.mk (some ⟨b5,0,none⟩) 2 none 0)],_,_,_,rfl,rfl,h7.weak 0 rfl fun u h=>?_⟩
 obtain⟨⟨⟨⟨⟨⟨h4,h5⟩,ht⟩,h12⟩,h16⟩,h18⟩,h26⟩:=h
 refine⟨flat_blk h18 rfl rfl rfl (show 4≤maxLen by decide),fun q hq=>?_,flat_blk h26 rfl rfl rfl (show 4≤maxLen by decide)⟩
 simp only[List.mem_cons,List.not_mem_nil,or_false] at hq
 rcases hq with rfl|rfl|rfl|rfl
 exact⟨flat_blk h4 rfl rfl rfl (show 3≤maxLen by decide),ints_blk h5 rfl rfl (show 1≤maxLen by decide)⟩
 exact⟨ht,Ints.nil_⟩
 exact⟨flat_blk h12 rfl rfl rfl (show 4≤maxLen by decide),Ints.nil_⟩
 exact⟨flat_blk h16 rfl rfl rfl (show 2≤maxLen by decide),Ints.nil_⟩
section
variable {L:List PP} {pa sa:Option Addr} {b:Nat} {T:TypeId} {u:World} {cs:List Chn}
def relayD(L:List PP)(pa:Option Addr)(b:Nat)(sa:Option Addr)(cs:List Chn):SysD:=⟨L,pa,4,cs,some ⟨b,0,none⟩,2,relayS,sa,4⟩
theorem relay_len(hL:L.map Prod.fst=relayP):L.length=4:=by
 have:=congrArg List.length hL
 simpa[relayP] using this
theorem relay_sys(hL:L.map Prod.fst=relayP):(relayD L pa b sa cs).sys=⟨relayP,cs,relayS⟩:=by
 simp only[SysD.sys,relayD,hL]
theorem relay_val(hL:L.map Prod.fst=relayP)(hc:cs.length=2):(relayD L pa b sa cs).val=.agg #[.slice pa 4 4,.slice (some ⟨b,0,none⟩) 2 2,.slice sa 4 4]:=by
 simp only[SysD.val,relayD,relay_len hL,hc]
 rfl
theorem relay_at(hL:L.map Prod.fst=relayP)(hc:cs.length=2)(hB:Blk u b T (cs.flatMap Chn.cells))(h:RelayR L pa sa u):(relayD L pa b sa cs).At u:=by
 refine⟨?_,h.2.1,?_,h.2.2⟩
 ·have:=h.1
  show Flat encP 2 u (.slice pa L.length 4) L
  rw[relay_len hL]
  exact this
 ·show Flat Chn.cells 3 u (.slice (some ⟨b,0,none⟩) cs.length 2) cs
  rw[hc]
  have hl:(cs.flatMap Chn.cells).length=2*3:=by
   match cs,hc with
   |[_,_],_=>rfl
  exact flat_blk hB hc.symm rfl hl (show 2≤maxLen by decide)
end
end
end Go.Proofs.YtndcjmopebcdgaaGreatDoor
