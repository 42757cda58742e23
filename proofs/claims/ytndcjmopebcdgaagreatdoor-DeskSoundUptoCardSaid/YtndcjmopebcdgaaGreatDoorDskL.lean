/- deskBegun answers true. -/
import Derived.Test.YtndcjmopebcdgaaGreatDoorDskJ
import Derived.Test.YtndcjmopebcdgaaGreatDoorSkK
set_option linter.unusedSimpArgs false
set_option linter.unusedVariables false
namespace Go.Proofs.YtndcjmopebcdgaaGreatDoor
open Go.ChangeShapes Go.WideShapes Go.ChangeAt Go.RowKit
theorem bs_DskL_25_4_0_1_2_3(x0:Int)(x1:Int)(x2:Int)(x3:Int)(x4:Int)(x5:Int)(x6:Int)(x7:Int)(w:World):(Instr.buildSlice 25 4 #[(0,(.agg #[(.int .i64 x0),(.int .i64 x1)])),(1,(.agg #[(.int .i64 x2),(.int .i64 x3)])),(2,(.agg #[(.int .i64 x4),(.int .i64 x5)])),(3,(.agg #[(.int .i64 x6),(.int .i64 x7)]))]).run Tryz.prog w=.ok (.slice (some ⟨w.heap.size,0,none⟩) 4 4) (w.alloc (.cells #[(.int .i64 x0),(.int .i64 x1),(.int .i64 x2),(.int .i64 x3),(.int .i64 x4),(.int .i64 x5),(.int .i64 x6),(.int .i64 x7)] 53)):=by kernel_rfl
theorem bu_DskL_27_0(x0:Option Addr)(x0n x0c:Nat)(w:World):(Instr.build 27 #[(0,(.slice x0 x0n x0c))]).run Tryz.prog w=.ok (.agg #[(.slice x0 x0n x0c)]) w:=by kernel_rfl
theorem bu_DskL_53_0_1(x0:Int)(x1:Int)(w:World):(Instr.build 53 #[(0,(.int .i64 x0)),(1,(.int .i64 x1))]).run Tryz.prog w=.ok (.agg #[(.int .i64 x0),(.int .i64 x1)]) w:=by kernel_rfl
set_option maxRecDepth 100000
def wideD:List Edg:=[⟨0,1⟩,⟨0,2⟩,⟨1,0⟩,⟨1,2⟩]
theorem wideD_says:RSays [48,62,49,32,48,62,50,32,49,62,48,32,49,62,50] wideD:=by
 refine⟨fun e he=>?_,fun k h0 hk=>?_,by kernel_rfl⟩
 ·simp only[wideD,List.mem_cons,List.not_mem_nil,or_false] at he
  rcases he with rfl|rfl|rfl|rfl<;>exact⟨⟨by decide,by decide⟩,by decide,by decide⟩
 ·have hk':k<4:=hk
  have:k=1∨k=2∨k=3:=by omega
  rcases this with rfl|rfl|rfl<;>exact of_decide_eq_true Kr
theorem oneD_says:RSays [48,62,49] [⟨0,1⟩]:=by
 refine⟨fun e he=>?_,fun k h0 hk=>?_,by kernel_rfl⟩
 ·rw[List.mem_singleton.1 he]
  exact⟨⟨by decide,by decide⟩,by decide,by decide⟩
 ·have hk':k<1:=hk
  omega
theorem badD_no(Q:List Edg):¬RSays [49,62,48,32,48,62,49] Q:=fun h=>by
 have h1:=h.split Dc
 have h2:splitC 32 [49,62,48,32,48,62,49]=([⟨1,0⟩,⟨0,1⟩]:List Edg).map edgT:=by kernel_rfl
 have h3:=map_edgT_inj h.each (Q:=[⟨1,0⟩,⟨0,1⟩]) (fun e he=>by
  simp only[List.mem_cons,List.not_mem_nil,or_false] at he
  rcases he with rfl|rfl<;>exact⟨⟨by decide,by decide⟩,by decide,by decide⟩) (h1.symm.trans h2)
 subst h3
 exact absurd (h.incr 1 Dc Dc) (of_decide_eq_true Kr)
theorem all_lt{n:Nat}{f:Nat→Bool}(h:(List.range n).all f=true){k:Nat}(hk:k<n):f k=true:=List.all_eq_true.1 h k (List.mem_range.2 hk)
theorem wideD_is:CertIs relayC 4 wideD true [] ((List.range 4).map (setOf relayC 4)):=by
 have h:((List.range 4).all fun u=>(List.range 4).all fun v=> !badB relayC 4 wideD u v)=true:=by kernel_rfl
 exact .inl ⟨rfl,fun u v hu hv=>by simpa using all_lt (all_lt h hu) hv,rfl,rfl⟩
theorem oneD_is:CertIs relayC 4 [⟨0,1⟩] false [0,1,2] []:=by
 refine .inr ⟨rfl,0,2,by decide,by decide,by kernel_rfl,fun u v hu hv h=>?_,by kernel_rfl,rfl⟩
 have h1:badB relayC 4 [⟨0,1⟩] 0 0=false:=by kernel_rfl
 have h2:badB relayC 4 [⟨0,1⟩] 0 1=false:=by kernel_rfl
 obtain rfl:u=0:=by omega
 rcases(show v=0∨v=1 by omega) with rfl|rfl
 ·exact h1
 ·exact h2
theorem relayD_read:readTo (imgL relaySysI)=relaySysI∧readErr (imgL relaySysI)=0:=by
 have:=relayI_len
 unfold readTo readErr
 rw[if_neg Om,if_neg Om,read_img relayI_ok relayI_R]
 exact⟨rfl,rfl⟩
def T1:List UInt8:=[115,111,117,110,100,10,115,116,111,112,112,101,100,10,114,117,110,115,32,54,10,115,116,111,112,112,101,100,32,54,10,114,117,110,115,32,48,10]
def T2:List UInt8:=[108,101,97,107,32,48,32,49,32,50,10,114,117,110,115,10,114,117,110,115,10,114,117,110,115,10,114,117,110,115,10]
theorem judge1:JudgeIs (imgL relaySysI) [48,62,49,32,48,62,50,32,49,62,48,32,49,62,50] 12 T1 0:=by
 obtain⟨h1,h2⟩:=relayD_read
 refine .inr ⟨h2,.inr ⟨wideD,wideD_says,.inr ?_⟩⟩
 rw[h1]
 exact⟨by kernel_rfl,.inr ⟨by decide,rfl,true,[],_,wideD_is,by kernel_rfl⟩⟩
theorem judge2:JudgeIs (imgL relaySysI) [48,62,49] 0 T2 0:=by
 obtain⟨h1,h2⟩:=relayD_read
 refine .inr ⟨h2,.inr ⟨[⟨0,1⟩],oneD_says,.inr ?_⟩⟩
 rw[h1]
 exact⟨by kernel_rfl,.inr ⟨by decide,rfl,false,[0,1,2],_,oneD_is,by kernel_rfl⟩⟩
theorem judge_of{l s T:List UInt8}{n E:Int}(h:JudgeIs l s n T E)(hs:s.length≤1048576){w:World}(hL:Lay w):Calls Tryz.prog 5 #[.string (bstr l),.string (bstr s),.int .i64 n] w fun e w'=>e=.returned (.tuple #[.string (bstr T),.int .i64 E])∧Below w.heap.size w w':=
 (judge_any l s n hs hL).mono (by
  rintro e w' ⟨T',E',rfl,h',hb⟩
  obtain⟨rfl,rfl⟩:=h.uniq h'
  exact⟨rfl,hb⟩)
theorem rules_1{w:World}(hL:Lay w):Calls Tryz.prog 7 #[.string (bstr [48,62,49,32,48,62,50,32,49,62,48,32,49,62,50])] w fun e w'=>∃A c,e=.returned (.tuple #[.agg #[.slice A 4 c],.int .i64 0])∧Below w.heap.size w w'∧OwnRes w w' (fun u=>May_ u A c wideD):=
 (deskRules_any _ Dc hL).mono (by
  rintro e w' ⟨P,A,c,E,rfl,h,hb,hr⟩
  rcases h with⟨rfl,h⟩|⟨-,-,h⟩
  ·obtain rfl:=h.unique wideD_says
   exact⟨A,c,rfl,hb,hr⟩
  ·exact absurd wideD_says (h _))
theorem rules_2{w:World}(hL:Lay w):Calls Tryz.prog 7 #[.string (bstr [49,62,48,32,48,62,49])] w fun e w'=>∃A n c,e=.returned (.tuple #[.agg #[.slice A n c],.int .i64 1])∧Below w.heap.size w w':=
 (deskRules_any _ Dc hL).mono (by
  rintro e w' ⟨P,A,c,E,rfl,h,hb,hr⟩
  rcases h with⟨rfl,h⟩|⟨rfl,-,h⟩
  ·exact absurd h (badD_no _)
  ·exact⟨A,_,c,rfl,hb⟩)
theorem wideD_any(w:World):Calls Tryz.prog 37 #[] w fun e w'=>∃A c,e=.returned (.agg #[.slice A 4 c])∧Below w.heap.size w w'∧OwnRes w w' (fun u=>May_ u A c wideD):=by
 refine enter Tryz.func37 rfl Tryz.ntmps37 rfl fun a hF=>?_
 have hW:=Wd.start w NoB
 refine c_sr<|pe<|e_alloc hF hW ze_27 rfl rfl rfl fun b1 a wc hF hW=>lts<|pv hF hW (y_build hF rfl (fun w=>bu_DskL_53_0_1 _ _ w)) fun a hF=>pv hF hW (y_build hF rfl (fun w=>bu_DskL_53_0_1 _ _ w)) fun a hF=>pv hF hW (y_build hF rfl (fun w=>bu_DskL_53_0_1 _ _ w)) fun a hF=>pv hF hW (y_build hF rfl (fun w=>bu_DskL_53_0_1 _ _ w)) fun a hF=>pe<|e_buildSlice hF hW rfl (fun w=>bs_DskL_25_4_0_1_2_3 _ _ _ _ _ _ _ _ w) rfl rfl rfl fun b2 a wc hF hW=>pv hF hW (y_build hF rfl (fun w=>bu_DskL_27_0 _ _ _ w)) fun a hF=>?_;refine pe<|e_storeAll rfl hF hW rfl rfl 1 rfl rfl rfl Kr sz_27 fun wc hW=>l_nil<|t_n<|wp_ret<|ret1 Tryz.results37 hF (rv_c hF rfl hW 1 rfl Tryz.underlying27 rfl sz_27) ?_;replace hW:=hW.del 1 rfl
 exact⟨_,_,rfl,hW.below,((hW.blk_res 0 rfl).res_res 0 rfl).mono fun u h=>flat_blk h rfl rfl rfl (show 4≤maxLen by decide)⟩
theorem samePols{A B:Option Addr}{c d:Nat}{P:List Edg}{w:World}(h:May_ w A c P)(k:May_ w B d P):Calls Tryz.prog 10 #[.agg #[.slice A P.length c],.agg #[.slice B P.length d]] w fun e w'=>e=.returned (.bool true)∧Below w.heap.size w w':=by
 have hl:=Flat.len h
 have hl2:=Flat.len k
 unfold maxLen at hl hl2
 have hR:=Flat.rf Edg.cells_len E0 h
 have hT:=Flat.rf Edg.cells_len E0 k
 refine enter Tryz.func10 rfl Tryz.ntmps10 rfl fun a hF=>?_
 have hW:=Wd.start w NoB
 refine c_sr<|pe<|e_box hF hW rfl rfl rfl rfl fun b1 a wc hF hW=>pe<|e_box hF hW rfl rfl rfl rfl fun b2 a wc hF hW=>pq 1 hF rfl fun a hF=>l_nil<|t_n<|c_s<|c_sr<|pq 1 hF rfl fun a hF=>pv hF hW (y_loadOwn hF rfl 1 rfl rfl Tryz.underlying25 rfl) fun a hF=>pq 2 hF rfl fun a hF=>pv hF hW (y_loadOwn hF rfl 0 rfl rfl Tryz.underlying25 rfl) fun a hF=>pq 2 hF rfl fun a hF=>?_;refine Fr.splitD hF (fun h3 hF=>?_) (fun h3 hF=>?_);exfalso
 omega
 refine l_nil<|t_n<|c_f hF rfl<|wp_skip<|t_n<|c_s<|c_sr<|pq 1 hF rfl fun a hF=>l_nil<|t_n<|wp_block ?_;refine c_loop (G:=Nat) (fun k:Nat=>[(5,.int .i64 (k:Int))]) (fun k:Nat=>[]) (fun k:Nat=>k≤P.length) (fun k:Nat=>P.length - k) 0 (hF.ks [0,1,2,3,12] rfl) (Fr.cons hF (t:=5) rfl Rg (Fr.nil hF)) (hW) ?_ ?_
 simp
 clear hF hW
 try clear a
 intro k a wc hC hF hW;refine c_s<|c_sr<|pq 2 hF rfl fun a hF=>pv hF hW (y_loadOwn hF rfl 1 rfl rfl Tryz.underlying25 rfl) fun a hF=>pq 2 hF rfl fun a hF=>?_;refine Fr.splitD hF (fun h4 hF=>?_) (fun h4 hF=>?_);refine l_nil<|t_n<|c_t hF rfl<|wp_skip<|t_n<|c_s<|wp_block<|c_sd mixed_ok hW (hW) ?_
 clear hW;intro wc hW hS
 refine dq 1 [0] hF hS rfl fun a hF=>dv 1 rfl hF hS (y_loadOwn hF rfl 1 rfl rfl Tryz.underlying25 rfl) fun a hF=>dq 1 [2] hF hS rfl fun a hF=>dv 3 rfl hF hS (y_indexS hF rfl rfl Om Tryz.underlying25 sz_53 (fun w h=>(hR).wd h)) fun a hF=>dv 4 rfl hF hS (y_loadRowW hF rfl (fun w h=>(hR).wd h) Om Tryz.underlying53 rfl sz_53) fun a hF=>dq 1 [5] hF hS rfl fun a hF=>dv 6 rfl hF hS (y_loadOwn hF rfl 0 rfl rfl Tryz.underlying25 rfl) fun a hF=>dq 1 [7] hF hS rfl fun a hF=>dv 8 rfl hF hS (y_indexS hF rfl rfl Om Tryz.underlying25 sz_53 (fun w h=>(hT).wd h)) fun a hF=>dv 9 rfl hF hS (y_loadRowW hF rfl (fun w h=>(hT).wd h) Om Tryz.underlying53 rfl sz_53) fun a hF=>dv 10 rfl hF hS (y_bin hF rfl rfl (fun w=>net_53 _ _ _ _ _ _ w)) fun a hF=>?_;refine Fr.splitD hF (fun h5 hF=>?_) (fun h5 hF=>?_);exfalso
 exact h5 ⟨rfl,rfl⟩
 clear hS;refine d_nil Kr ?_;replace hF:=hF.ks [0,1,2,3,5,12,17,30] rfl;refine t_n<|c_f hF rfl<|wp_skip<|b_n<|t_n<|c_r<|pq 1 hF rfl fun a hF=>pv hF hW (y_add hF rfl rfl (IntWalk.i64_in _ Om)) fun a hF=>pq 1 hF rfl fun a hF=>l_nil<|t_n ?_;refine⟨(k+1),?_,?_,?_,?_⟩
 omega
 first|omega|(dsimp only;omega)
 exact hF.a1 rfl rfl
 exact hW
 refine l_nil<|t_n<|c_f hF rfl<|wp_exit<|t_x<|t_x<|b_h<|t_n<|c_sr<|pq 1 hF rfl fun a hF=>l_nil<|t_n<|wp_ret<|ret1 Tryz.results10 hF (rv_t hF rfl) ?_
 exact⟨rfl,hW.below⟩
set_option maxHeartbeats 4000000 in
theorem deskBegun_any{w:World}(hL:Lay w):Calls Tryz.prog 9 #[] w fun e w'=>e=.returned (.bool true)∧Below w.heap.size w w':=by
 refine enter Tryz.func9 rfl Tryz.ntmps9 rfl fun a hF=>?_
 have hW:=Wd.start w NoB
 refine c_sr<|pq 1 hF rfl fun a hF=>l_nil<|t_n<|c_sr ?_;refine pe (e_callA hF rfl rfl en_36 Rl (relay_any _) ?_);rintro e w1 ⟨L1,pa1,b1,sa1,rfl,hL1,hN⟩;replace hW:=hW.comb2 hN;refine⟨_,rfl,fun a hF=>?_⟩;refine pe<|e_callK hF hW rfl rfl en_14 Rl (relay_write hL1 (hW.blk 1 rfl) (hW.res 0 rfl)) fun a w1 hW hF=>pq 5 hF rfl fun a hF=>lts<|pq 1 hF rfl fun a hF=>pe<|e_callK hF hW rfl rfl en_5 Rl (judge_of judge1 Dc (hL.wd hW)) fun a w1 hW hF=>pq 5 hF rfl fun a hF=>lts<|pq 1 hF rfl fun a hF=>pe<|e_callK hF hW rfl rfl en_5 Rl (judge_of judge2 Dc (hL.wd hW)) fun a w1 hW hF=>pq 5 hF rfl fun a hF=>l_nil ?_;replace hF:=hF.ks [0,1,2,3,4,5,6] rfl;refine t_n<|c_sr ?_;refine pe (e_callA hF rfl rfl en_7 Rl (rules_1 (hL.wd hW)) ?_);rintro e w1 ⟨A1,c1,rfl,hb,hr⟩;replace hW:=hW.gotR hb hr;refine⟨_,rfl,fun a hF=>?_⟩;refine pq 3 hF rfl fun a hF=>pe<|e_alloc hF hW ze_27 rfl rfl rfl fun b1 a wc hF hW=>pe<|e_storeAll rfl hF hW rfl rfl 0 rfl rfl rfl Kr sz_27 fun wc hW=>pq 1 hF rfl fun a hF=>l_nil<|t_n<|c_sr ?_;refine pe (e_callA hF rfl rfl en_7 Rl (rules_2 (hL.wd hW)) ?_);rintro e w1 ⟨A2,n2,c2,rfl,hb⟩;replace hW:=hW.kept hb;refine⟨_,rfl,fun a hF=>?_⟩;refine pq 3 hF rfl fun a hF=>pe<|e_alloc hF hW ze_27 rfl rfl rfl fun b2 a wc hF hW=>pe<|e_storeAll rfl hF hW rfl rfl 0 rfl rfl rfl Kr sz_27 fun wc hW=>pq 1 hF rfl fun a hF=>l_nil<|t_n<|c_sd mixed_ok hW (hW) ?_
 clear hW;intro wc hW hS
 refine dq 2 [0,1] hF hS rfl fun a hF=>?_;replace hF:=hF.tt;refine dq 1 [2] hF hS rfl fun a hF=>?_;replace hF:=hF.tt;refine dq 2 [3,4] hF hS rfl fun a hF=>?_;replace hF:=hF.tt;refine dq 1 [5] hF hS rfl fun a hF=>?_;replace hF:=hF.tt;refine dq 1 [6] hF hS rfl fun a hF=>?_;replace hF:=hF.tt;refine dq 2 [7,8] hF hS rfl fun a hF=>?_;replace hF:=hF.tt;refine dq 1 [9] hF hS rfl fun a hF=>?_;replace hF:=hF.tt;refine dq 1 [10] hF hS rfl fun a hF=>?_;replace hF:=hF.tt;refine dq 2 [11,12] hF hS rfl fun a hF=>?_;replace hF:=hF.tt;refine dq 1 [13] hF hS rfl fun a hF=>?_;replace hF:=hF.tt;refine dq 1 [14] hF hS rfl fun a hF=>?_;replace hF:=hF.tt;refine dq 2 [15,16] hF hS rfl fun a hF=>?_;replace hF:=hF.tt;refine dq 1 [17] hF hS rfl fun a hF=>?_;replace hF:=hF.tt;refine dq 1 [18] hF hS rfl fun a hF=>?_;replace hF:=hF.tt;refine dq 1 [19] hF hS rfl fun a hF=>dvg 20 rfl hF hS (y_eqB hF rfl rfl) (ws hF rfl rfl) fun a hF=>?_;refine Fr.splitD hF (fun h3 hF=>?_) (fun h3 hF=>?_);refine dq 3 [21,22,23] hF hS rfl fun a hF=>dvg 24 rfl hF hS (y_eqB hF rfl rfl) (ws hF rfl rfl) fun a hF=>?_;refine Fr.splitD hF (fun h4 hF=>?_) (fun h4 hF=>?_);refine dq 2 [25,26] hF hS rfl fun a hF=>dvg 27 rfl hF hS (y_loadAll hF rfl 1 rfl Tryz.underlying27 rfl sz_27) (ws hF rfl rfl) fun a hF=>d_1 28 Kr ?_;refine d_op rfl (ws hF rfl rfl) (e_callA hF rfl rfl en_37 Rl (wideD_any _) ?_);rintro e w1 ⟨A3,c3,rfl,hb,hr⟩;replace hW:=hW.gotR hb hr;refine⟨_,rfl,fun a hF=>?_⟩;refine ai (hW.del 0 rfl) fun hS=>d_1 29 Kr ?_;refine d_op rfl (ws hF rfl rfl) (e_callK hF hW rfl rfl en_10 Rl (samePols (P:=wideD) (hW.res 3 rfl) (hW.res 0 rfl)) ?_);intro a w1 hW hF;refine ai (hW.del 0 rfl) fun hS=>dq 2 [30,31] hF hS rfl fun a hF=>?_;clear hS;refine d_nil Kr ?_;replace hF:=hF.ks [0,1,2,3,4,5,6,7,8,10] rfl;refine t_n<|wp_ret<|ret1 Tryz.results9 hF (rv_t hF rfl) ?_
 exact⟨rfl,hW.below⟩
 exfalso
 exact h4 rfl
 exfalso
 exact h3 rfl
end Go.Proofs.YtndcjmopebcdgaaGreatDoor
