/- conf.There, conf.Own and conf.Calm: what they give. conf.Calm: what it gives. What is so of calmed systems, in plain words; Calm and SameSystems where the answer is known. relay; systems among a law's arguments. -/
import Derived.Test.YtndcjmopebcdgaaGreatDoorConfC1
import Derived.Test.YtndcjmopebcdgaaGreatDoorSysB
set_option linter.unusedSimpArgs false
set_option linter.unusedVariables false
namespace Go.Proofs.YtndcjmopebcdgaaGreatDoor
section
open Go.ChangeShapes Go.WideShapes Go.ChangeAt Go.RowKit
set_option maxRecDepth 100000
theorem confThere_any{x:SysD}{w:World}(hx:x.At w)(p:Int):
  Calls Tryz.prog 43 #[x.val,.int .i64 p] w fun e w'=>e=.returned (.int .i64 (thereErr x.sys p))∧Below w.heap.size w w':=by
 have hl:=hx.parts.len
 unfold maxLen at hl
 have hp:=fun h=>part_len (x:=x) (p:=p) h
 have hp':0≤p∧p<x.parts.length→0≤p∧p<x.sys.parts.length:=fun h=>by simpa[SysD.sys] using h
 rw[x.val_eq]
 refine enter Tryz.func43 rfl Tryz.ntmps43 rfl fun a hF=>?_
 have hW:=Wd.start w NoB
 refine c_sr<|pe<|e_box hF hW rfl rfl rfl rfl fun b1 a wc hF hW=>pq 1 hF rfl fun a hF=>l_nil<|t_n<|c_s<|c_sr<|pv hF hW (y_loadAll hF rfl 0 rfl Tryz.underlying39 rfl sz_39) fun a hF=>pe<|e_callK hF hW rfl rfl en_46 Rl (confCheck_any (hx.below hW.below)) fun a w1 hW hF=>pq 1 hF rfl fun a hF=>lts<|pq 2 hF rfl fun a hF=>?_;refine Fr.splitD hF (fun h2 hF=>?_) (fun h2 hF=>?_);refine l_nil<|t_n<|c_t hF rfl<|c_sr<|pq 2 hF rfl fun a hF=>l_nil<|t_n<|wp_ret<|t_r<|ret1 Tryz.results43 hF (rv_t hF rfl) ?_
 exact⟨by rw[there_c Am],hW.below⟩
 refine l_nil<|t_n<|c_f hF rfl<|wp_skip<|t_n<|c_s<|c_sr<|pq 2 hF rfl fun a hF=>?_;refine Fr.splitD hF (fun h3 hF=>?_) (fun h3 hF=>?_);refine pq 7 hF rfl fun a hF=>l_nil<|t_n<|c_t hF rfl<|c_sr<|pq 1 hF rfl fun a hF=>l_nil<|t_n<|wp_ret<|t_r<|ret1 Tryz.results43 hF (rv_t hF rfl) ?_
 exact⟨by rw[there_5 Om (fun h=>by have:=hp h;omega)],hW.below⟩
 refine pq 3 hF rfl fun a hF=>pvg hF hW (y_loadOwn hF rfl 0 rfl rfl Tryz.underlying35 rfl) (ws hF rfl rfl) fun a hF=>pq 2 hF rfl fun a hF=>?_;refine Fr.splitD hF (fun h4 hF=>?_) (fun h4 hF=>?_);refine pq 1 hF rfl fun a hF=>l_nil<|t_n<|c_t hF rfl<|c_sr<|pq 1 hF rfl fun a hF=>l_nil<|t_n<|wp_ret<|t_r<|ret1 Tryz.results43 hF (rv_t hF rfl) ?_
 exact⟨by rw[there_5 Om (fun h=>by have:=hp h;omega)],hW.below⟩
 refine pq 1 hF rfl fun a hF=>l_nil<|t_n<|c_f hF rfl<|wp_skip<|t_n<|c_sr<|pq 1 hF rfl fun a hF=>l_nil<|t_n<|wp_ret<|ret1 Tryz.results43 hF (rv_t hF rfl) ?_
 exact⟨by rw[there_0 Om (hp' Om)],hW.below⟩
end
section
open Go.ChangeShapes Go.WideShapes Go.ChangeAt Go.RowKit
set_option maxRecDepth 100000
def SysErr(w:World)(s:Sys)(x:Int)(e:Ending)(w':World):Prop:=
 ∃y:SysD,e=.returned (.tuple #[y.val,.int .i64 x])∧y.sys=s∧Below w.heap.size w w'∧OwnRes w w' y.At
end
section
open Go.ChangeShapes Go.WideShapes Go.ChangeAt Go.RowKit
set_option maxRecDepth 100000
theorem firstCode_zero:∀{l:List Prt},firstCode l=0↔∀p,p∈l→chkCode p.code=0
 |[]=>by simp[firstCode]
 |q::r=>by
  unfold firstCode
  constructor
  ·intro h p hp
   split at h
   ·rcases List.mem_cons.1 hp with rfl|hp
    ·assumption
    ·exact firstCode_zero.1 h p hp
   ·exact absurd h Am
  ·intro h
   rw[if_pos (h q List.mem_cons_self)]
   exact firstCode_zero.2 fun p hp=>h p (List.mem_cons_of_mem _ hp)
theorem getD_set{α:Type}{l:List α}{n k:Nat}{c d:α}(hk:k<l.length):(l.set n c).getD k d=if n=k then c else l.getD k d:=by
 simp only[List.getD,List.getElem?_set]
 split
 ·rename_i h
  subst h
  rw[if_pos hk]
  rfl
 ·rfl
end
section
open Go.ChangeShapes Go.WideShapes Go.ChangeAt Go.RowKit
theorem bs_Relay_35_4_0_1_2_3(x0:Option Addr)(x0n x0c:Nat)(x1:Option Addr)(x1n x1c:Nat)(x2:Option Addr)(x2n x2c:Nat)(x3:Option Addr)(x3n x3c:Nat)(x4:Option Addr)(x4n x4c:Nat)(x5:Option Addr)(x5n x5c:Nat)(x6:Option Addr)(x6n x6c:Nat)(x7:Option Addr)(x7n x7c:Nat)(w:World):(Instr.buildSlice 35 4 #[(0,(.agg #[(.slice x0 x0n x0c),(.slice x1 x1n x1c)])),(1,(.agg #[(.slice x2 x2n x2c),(.slice x3 x3n x3c)])),(2,(.agg #[(.slice x4 x4n x4c),(.slice x5 x5n x5c)])),(3,(.agg #[(.slice x6 x6n x6c),(.slice x7 x7n x7c)]))]).run Tryz.prog w=.ok (.slice (some ⟨w.heap.size,0,none⟩) 4 4) (w.alloc (.cells #[(.slice x0 x0n x0c),(.slice x1 x1n x1c),(.slice x2 x2n x2c),(.slice x3 x3n x3c),(.slice x4 x4n x4c),(.slice x5 x5n x5c),(.slice x6 x6n x6c),(.slice x7 x7n x7c)] 43)):=by kernel_rfl
theorem bs_Relay_36_2_0_1(x0:Int)(x1:Int)(x2:Int)(x3:Int)(x4:Int)(x5:Int)(w:World):(Instr.buildSlice 36 2 #[(0,(.agg #[(.int .i64 x0),(.int .i64 x1),(.int .i64 x2)])),(1,(.agg #[(.int .i64 x3),(.int .i64 x4),(.int .i64 x5)]))]).run Tryz.prog w=.ok (.slice (some ⟨w.heap.size,0,none⟩) 2 2) (w.alloc (.cells #[(.int .i64 x0),(.int .i64 x1),(.int .i64 x2),(.int .i64 x3),(.int .i64 x4),(.int .i64 x5)] 121)):=by kernel_rfl
theorem bs_Relay_37_4_0_1_2_3(x0:Int)(x1:Int)(x2:Int)(x3:Int)(x4:Int)(x5:Int)(x6:Int)(x7:Int)(w:World):(Instr.buildSlice 37 4 #[(0,(.agg #[(.int .i64 x0),(.int .i64 x1)])),(1,(.agg #[(.int .i64 x2),(.int .i64 x3)])),(2,(.agg #[(.int .i64 x4),(.int .i64 x5)])),(3,(.agg #[(.int .i64 x6),(.int .i64 x7)]))]).run Tryz.prog w=.ok (.slice (some ⟨w.heap.size,0,none⟩) 4 4) (w.alloc (.cells #[(.int .i64 x0),(.int .i64 x1),(.int .i64 x2),(.int .i64 x3),(.int .i64 x4),(.int .i64 x5),(.int .i64 x6),(.int .i64 x7)] 123)):=by kernel_rfl
theorem bs_Relay_40_2_0_1(x0:Int)(x1:Int)(x2:Int)(x3:Int)(x4:Int)(x5:Int)(x6:Int)(x7:Int)(w:World):(Instr.buildSlice 40 2 #[(0,(.agg #[(.int .i64 x0),(.int .i64 x1),(.int .i64 x2),(.int .i64 x3)])),(1,(.agg #[(.int .i64 x4),(.int .i64 x5),(.int .i64 x6),(.int .i64 x7)]))]).run Tryz.prog w=.ok (.slice (some ⟨w.heap.size,0,none⟩) 2 2) (w.alloc (.cells #[(.int .i64 x0),(.int .i64 x1),(.int .i64 x2),(.int .i64 x3),(.int .i64 x4),(.int .i64 x5),(.int .i64 x6),(.int .i64 x7)] 118)):=by kernel_rfl
theorem bs_Relay_40_3_0_1_2(x0:Int)(x1:Int)(x2:Int)(x3:Int)(x4:Int)(x5:Int)(x6:Int)(x7:Int)(x8:Int)(x9:Int)(x10:Int)(x11:Int)(w:World):(Instr.buildSlice 40 3 #[(0,(.agg #[(.int .i64 x0),(.int .i64 x1),(.int .i64 x2),(.int .i64 x3)])),(1,(.agg #[(.int .i64 x4),(.int .i64 x5),(.int .i64 x6),(.int .i64 x7)])),(2,(.agg #[(.int .i64 x8),(.int .i64 x9),(.int .i64 x10),(.int .i64 x11)]))]).run Tryz.prog w=.ok (.slice (some ⟨w.heap.size,0,none⟩) 3 3) (w.alloc (.cells #[(.int .i64 x0),(.int .i64 x1),(.int .i64 x2),(.int .i64 x3),(.int .i64 x4),(.int .i64 x5),(.int .i64 x6),(.int .i64 x7),(.int .i64 x8),(.int .i64 x9),(.int .i64 x10),(.int .i64 x11)] 118)):=by kernel_rfl
theorem bs_Relay_40_4_0_1_2_3(x0:Int)(x1:Int)(x2:Int)(x3:Int)(x4:Int)(x5:Int)(x6:Int)(x7:Int)(x8:Int)(x9:Int)(x10:Int)(x11:Int)(x12:Int)(x13:Int)(x14:Int)(x15:Int)(w:World):(Instr.buildSlice 40 4 #[(0,(.agg #[(.int .i64 x0),(.int .i64 x1),(.int .i64 x2),(.int .i64 x3)])),(1,(.agg #[(.int .i64 x4),(.int .i64 x5),(.int .i64 x6),(.int .i64 x7)])),(2,(.agg #[(.int .i64 x8),(.int .i64 x9),(.int .i64 x10),(.int .i64 x11)])),(3,(.agg #[(.int .i64 x12),(.int .i64 x13),(.int .i64 x14),(.int .i64 x15)]))]).run Tryz.prog w=.ok (.slice (some ⟨w.heap.size,0,none⟩) 4 4) (w.alloc (.cells #[(.int .i64 x0),(.int .i64 x1),(.int .i64 x2),(.int .i64 x3),(.int .i64 x4),(.int .i64 x5),(.int .i64 x6),(.int .i64 x7),(.int .i64 x8),(.int .i64 x9),(.int .i64 x10),(.int .i64 x11),(.int .i64 x12),(.int .i64 x13),(.int .i64 x14),(.int .i64 x15)] 118)):=by kernel_rfl
theorem bs_Relay_41_1_0(x0:Int)(w:World):(Instr.buildSlice 41 1 #[(0,(.int .i64 x0))]).run Tryz.prog w=.ok (.slice (some ⟨w.heap.size,0,none⟩) 1 1) (w.alloc (.cells #[(.int .i64 x0)] 3)):=by kernel_rfl
theorem bu_Relay_118_0(x0:Int)(w:World):(Instr.build 118 #[(0,(.int .i64 x0))]).run Tryz.prog w=.ok (.agg #[(.int .i64 x0),(.int .i64 0),(.int .i64 0),(.int .i64 0)]) w:=by kernel_rfl
theorem bu_Relay_118_0_1_3(x0:Int)(x1:Int)(x2:Int)(w:World):(Instr.build 118 #[(0,(.int .i64 x0)),(1,(.int .i64 x1)),(3,(.int .i64 x2))]).run Tryz.prog w=.ok (.agg #[(.int .i64 x0),(.int .i64 x1),(.int .i64 0),(.int .i64 x2)]) w:=by kernel_rfl
theorem bu_Relay_118_0_2_3(x0:Int)(x1:Int)(x2:Int)(w:World):(Instr.build 118 #[(0,(.int .i64 x0)),(2,(.int .i64 x1)),(3,(.int .i64 x2))]).run Tryz.prog w=.ok (.agg #[(.int .i64 x0),(.int .i64 0),(.int .i64 x1),(.int .i64 x2)]) w:=by kernel_rfl
theorem bu_Relay_118_0_3(x0:Int)(x1:Int)(w:World):(Instr.build 118 #[(0,(.int .i64 x0)),(3,(.int .i64 x1))]).run Tryz.prog w=.ok (.agg #[(.int .i64 x0),(.int .i64 0),(.int .i64 0),(.int .i64 x1)]) w:=by kernel_rfl
theorem bu_Relay_121_0_1_2(x0:Int)(x1:Int)(x2:Int)(w:World):(Instr.build 121 #[(0,(.int .i64 x0)),(1,(.int .i64 x1)),(2,(.int .i64 x2))]).run Tryz.prog w=.ok (.agg #[(.int .i64 x0),(.int .i64 x1),(.int .i64 x2)]) w:=by kernel_rfl
theorem bu_Relay_123_0_1(x0:Int)(x1:Int)(w:World):(Instr.build 123 #[(0,(.int .i64 x0)),(1,(.int .i64 x1))]).run Tryz.prog w=.ok (.agg #[(.int .i64 x0),(.int .i64 x1)]) w:=by kernel_rfl
theorem bu_Relay_39_0_1_2(x0:Option Addr)(x0n x0c:Nat)(x1:Option Addr)(x1n x1c:Nat)(x2:Option Addr)(x2n x2c:Nat)(w:World):(Instr.build 39 #[(0,(.slice x0 x0n x0c)),(1,(.slice x1 x1n x1c)),(2,(.slice x2 x2n x2c))]).run Tryz.prog w=.ok (.agg #[(.slice x0 x0n x0c),(.slice x1 x1n x1c),(.slice x2 x2n x2c)]) w:=by kernel_rfl
theorem bu_Relay_43_0(x0:Option Addr)(x0n x0c:Nat)(w:World):(Instr.build 43 #[(0,(.slice x0 x0n x0c))]).run Tryz.prog w=.ok (.agg #[(.slice x0 x0n x0c),(.slice none 0 0)]) w:=by kernel_rfl
theorem bu_Relay_43_0_1(x0:Option Addr)(x0n x0c:Nat)(x1:Option Addr)(x1n x1c:Nat)(w:World):(Instr.build 43 #[(0,(.slice x0 x0n x0c)),(1,(.slice x1 x1n x1c))]).run Tryz.prog w=.ok (.agg #[(.slice x0 x0n x0c),(.slice x1 x1n x1c)]) w:=by kernel_rfl
set_option maxRecDepth 100000
section
variable {H:Type} {enc:TypeId×Value→H} {w:World} {base base':Nat} {r:Reach} {spare:Nat→Bool} {held:Bool} {v:Value} {d:DataW H} {p:List MemPlace}
end
def relayP:List Prt:=[⟨[⟨10,0,0,0⟩,⟨12,0,0,0⟩,⟨15,0,0,0⟩],[6]⟩,⟨tellerL,[]⟩,⟨[⟨13,0,1,1⟩,⟨9,1,0,0⟩,⟨11,0,0,0⟩,⟨15,0,0,0⟩],[]⟩,⟨[⟨11,0,0,0⟩,⟨8,0,0,0⟩],[]⟩]
def relayC:List Chn:=[⟨2,0,1⟩,⟨1,1,2⟩]
def relayS:List Slt:=[⟨0,3⟩,⟨1,4⟩,⟨3,1⟩,⟨2,4⟩]
def RelayR(L:List PP)(pa sa:Option Addr)(u:World):Prop:=Flat encP 2 u (.slice pa 4 4) L∧(∀q,q∈L→q.At u)∧Flat Slt.cells 2 u (.slice sa 4 4) relayS
def Relay(w:World)(e:Ending)(w':World):Prop:=
 ∃(L:List PP) (pa:Option Addr) (b:Nat) (sa:Option Addr),e=.returned (.agg #[.slice pa 4 4,.slice (some ⟨b,0,none⟩) 2 2,.slice sa 4 4])∧L.map Prod.fst=relayP∧
  Wd w NoB [.res (RelayR L pa sa),.blk b 121 [.int .i64 2,.int .i64 0,.int .i64 1,.int .i64 1,.int .i64 1,.int .i64 2]] w'
theorem relay_any(w:World):Calls Tryz.prog 36 #[] w (Relay w):=by
 refine enter Tryz.func36 rfl Tryz.ntmps36 rfl fun a hF=>?_
 have hW:=Wd.start w NoB
 refine c_sr<|pe<|e_alloc hF hW ze_39 rfl rfl rfl fun b1 a wc hF hW=>lts<|pv hF hW (y_build hF rfl (fun w=>bu_Relay_118_0 _ w)) fun a hF=>pv hF hW (y_build hF rfl (fun w=>bu_Relay_118_0_3 _ _ w)) fun a hF=>pv hF hW (y_build hF rfl (fun w=>bu_Relay_118_0 _ w)) fun a hF=>pe<|e_buildSlice hF hW rfl (fun w=>bs_Relay_40_3_0_1_2 _ _ _ _ _ _ _ _ _ _ _ _ w) rfl rfl rfl fun b2 a wc hF hW=>pe<|e_buildSlice hF hW rfl (fun w=>bs_Relay_41_1_0 _ w) rfl rfl rfl fun b3 a wc hF hW=>pv hF hW (y_build hF rfl (fun w=>bu_Relay_43_0_1 _ _ _ _ _ _ w)) fun a hF=>?_;refine pe (e_callA hF rfl rfl en_81 Rl (teller_any _) ?_);rintro e w1 ⟨A1,rfl,hr,hb⟩;replace hW:=hW.gotR hb hr;refine⟨_,rfl,fun a hF=>?_⟩;refine pv hF hW (y_build hF rfl (fun w=>bu_Relay_43_0 _ _ _ w)) fun a hF=>pv hF hW (y_build hF rfl (fun w=>bu_Relay_118_0_2_3 _ _ _ w)) fun a hF=>pv hF hW (y_build hF rfl (fun w=>bu_Relay_118_0_1_3 _ _ _ w)) fun a hF=>pv hF hW (y_build hF rfl (fun w=>bu_Relay_118_0 _ w)) fun a hF=>pv hF hW (y_build hF rfl (fun w=>bu_Relay_118_0 _ w)) fun a hF=>pe<|e_buildSlice hF hW rfl (fun w=>bs_Relay_40_4_0_1_2_3 _ _ _ _ _ _ _ _ _ _ _ _ _ _ _ _ w) rfl rfl rfl fun b4 a wc hF hW=>pv hF hW (y_build hF rfl (fun w=>bu_Relay_43_0 _ _ _ w)) fun a hF=>pv hF hW (y_build hF rfl (fun w=>bu_Relay_118_0 _ w)) fun a hF=>pv hF hW (y_build hF rfl (fun w=>bu_Relay_118_0 _ w)) fun a hF=>pe<|e_buildSlice hF hW rfl (fun w=>bs_Relay_40_2_0_1 _ _ _ _ _ _ _ _ w) rfl rfl rfl fun b5 a wc hF hW=>pv hF hW (y_build hF rfl (fun w=>bu_Relay_43_0 _ _ _ w)) fun a hF=>pe<|e_buildSlice hF hW rfl (fun w=>bs_Relay_35_4_0_1_2_3 _ _ _ _ _ _ _ _ _ _ _ _ _ _ _ _ _ _ _ _ _ _ _ _ w) rfl rfl rfl fun b6 a wc hF hW=>pv hF hW (y_build hF rfl (fun w=>bu_Relay_121_0_1_2 _ _ _ w)) fun a hF=>pv hF hW (y_build hF rfl (fun w=>bu_Relay_121_0_1_2 _ _ _ w)) fun a hF=>pe<|e_buildSlice hF hW rfl (fun w=>bs_Relay_36_2_0_1 _ _ _ _ _ _ w) rfl rfl rfl fun b7 a wc hF hW=>pv hF hW (y_build hF rfl (fun w=>bu_Relay_123_0_1 _ _ w)) fun a hF=>pv hF hW (y_build hF rfl (fun w=>bu_Relay_123_0_1 _ _ w)) fun a hF=>pv hF hW (y_build hF rfl (fun w=>bu_Relay_123_0_1 _ _ w)) fun a hF=>pv hF hW (y_build hF rfl (fun w=>bu_Relay_123_0_1 _ _ w)) fun a hF=>pe<|e_buildSlice hF hW rfl (fun w=>bs_Relay_37_4_0_1_2_3 _ _ _ _ _ _ _ _ w) rfl rfl rfl fun b8 a wc hF hW=>pv hF hW (y_build hF rfl (fun w=>bu_Relay_39_0_1_2 _ _ _ _ _ _ _ _ _ w)) fun a hF=>?_
 refine pe<|e_storeAll rfl hF hW rfl rfl 8 rfl rfl rfl Kr sz_39 fun wc hW=>l_nil ?_;replace hF:=hF.ks [0] rfl;refine t_n<|wp_ret<|ret1 Tryz.results36 hF (rv_c hF rfl hW 8 rfl Tryz.underlying39 rfl sz_39) ?_;replace hW:=hW.del 8 rfl;replace hW:=hW.fs [1,1,2,3,4,5,6,7] rfl
 have h7:=(((((((((((hW.blk_res 0 rfl).blk_res 1 rfl).blk_res 3 rfl).blk_res 4 rfl).blk_res 5 rfl).blk_res 6 rfl).join rfl).join rfl).join rfl).join rfl).join rfl).join rfl
 refine⟨[(⟨[⟨10,0,0,0⟩,⟨12,0,0,0⟩,⟨15,0,0,0⟩],[6]⟩,PX.mk (some ⟨b2,0,none⟩) 3 (some ⟨b3,0,none⟩) 1),(⟨tellerL,[]⟩,PX.mk A1 5 none 0),(⟨[⟨13,0,1,1⟩,⟨9,1,0,0⟩,⟨11,0,0,0⟩,⟨15,0,0,0⟩],[]⟩,PX.mk (some ⟨b4,0,none⟩) 4 none 0),(⟨[⟨11,0,0,0⟩,⟨8,0,0,0⟩],[]⟩,PX.mk (some ⟨b5,0,none⟩) 2 none 0)],_,_,_,rfl,rfl,h7.weak 0 rfl fun u h=>?_⟩
 obtain⟨⟨⟨⟨⟨⟨h4,h5⟩,ht⟩,h12⟩,h16⟩,h18⟩,h26⟩:=h
 refine⟨flat_blk h18 rfl rfl rfl (show 4≤maxLen by decide),fun q hq=>?_,flat_blk h26 rfl rfl rfl (show 4≤maxLen by decide)⟩
 simp only[List.mem_cons,List.not_mem_nil,or_false] at hq
 rcases hq with rfl|rfl|rfl|rfl
 exact⟨flat_blk h4 rfl rfl rfl (show 3≤maxLen by decide),ints_blk h5 rfl rfl (show 1≤maxLen by decide)⟩
 exact⟨ht,Ints.nil_⟩
 exact⟨flat_blk h12 rfl rfl rfl (show 4≤maxLen by decide),Ints.nil_⟩
 exact⟨flat_blk h16 rfl rfl rfl (show 2≤maxLen by decide),Ints.nil_⟩
section
variable {L:List PP} {pa sa:Option Addr} {b:Nat} {T:TypeId} {u:World} {cs:List Chn}
def relayD(L:List PP)(pa:Option Addr)(b:Nat)(sa:Option Addr)(cs:List Chn):SysD:=⟨L,pa,4,cs,some ⟨b,0,none⟩,2,relayS,sa,4⟩
theorem relay_len(hL:L.map Prod.fst=relayP):L.length=4:=by
 have:=congrArg List.length hL
 simpa[relayP] using this
theorem relay_sys(hL:L.map Prod.fst=relayP):(relayD L pa b sa cs).sys=⟨relayP,cs,relayS⟩:=by
 simp only[SysD.sys,relayD,hL]
theorem relay_val(hL:L.map Prod.fst=relayP)(hc:cs.length=2):(relayD L pa b sa cs).val=.agg #[.slice pa 4 4,.slice (some ⟨b,0,none⟩) 2 2,.slice sa 4 4]:=by
 simp only[SysD.val,relayD,relay_len hL,hc]
 rfl
theorem relay_at(hL:L.map Prod.fst=relayP)(hc:cs.length=2)(hB:Blk u b T (cs.flatMap Chn.cells))(h:RelayR L pa sa u):(relayD L pa b sa cs).At u:=by
 refine⟨?_,h.2.1,?_,h.2.2⟩
 ·have:=h.1
  show Flat encP 2 u (.slice pa L.length 4) L
  rw[relay_len hL]
  exact this
 ·show Flat Chn.cells 3 u (.slice (some ⟨b,0,none⟩) cs.length 2) cs
  rw[hc]
  have hl:(cs.flatMap Chn.cells).length=2*3:=by
   match cs,hc with
   |[_,_],_=>rfl
  exact flat_blk hB hc.symm rfl hl (show 2≤maxLen by decide)
end
end
end Go.Proofs.YtndcjmopebcdgaaGreatDoor
