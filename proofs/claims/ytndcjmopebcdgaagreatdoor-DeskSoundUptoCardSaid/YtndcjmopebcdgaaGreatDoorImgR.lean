/- image.Read. -/
import Derived.Test.YtndcjmopebcdgaaGreatDoorImgL
import Derived.Test.YtndcjmopebcdgaaGreatDoorConfD1
import Derived.StillTailTactics
set_option linter.unusedSimpArgs false
set_option linter.unusedVariables false
namespace Go.Proofs.YtndcjmopebcdgaaGreatDoor
open Go.ChangeShapes Go.WideShapes Go.ChangeAt Go.RowKit
theorem bu_ImgR_126_0(x0:ByteArray)(w:World):(Instr.build 126 #[(0,(.string x0))]).run Tryz.prog w=.ok (.agg #[(.string x0)]) w:=by kernel_rfl
theorem bu_ImgR_145_(w:World):(Instr.build 145 #[]).run Tryz.prog w=.ok (.agg #[]) w:=by kernel_rfl
theorem bu_ImgR_39_(w:World):(Instr.build 39 #[]).run Tryz.prog w=.ok (.agg #[(.slice none 0 0),(.slice none 0 0),(.slice none 0 0)]) w:=by kernel_rfl
set_option maxRecDepth 100000
theorem zero_s(w:World):(Instr.build 39 #[]).run Tryz.prog w=.ok (.agg #[.slice none 0 0,.slice none 0 0,.slice none 0 0]) w:=by kernel_rfl
theorem catch_read{w0 w:World}{X:Nat→Prop}{es:List Asn}{b4 b5:Nat}{l4:List Value}{v5:Value}(hW:Wd w0 X (.blk b4 39 l4::.blk b5 22 [v5]::es) w)(hl:l4.length=3):
  CallsD Tryz.prog 49 #[.pointer (some ⟨b4,0,none⟩),.pointer (some ⟨b5,0,none⟩)] (.panicking brkI) w fun e u w'=>e=.returned (.tuple #[])∧settle u=.returning∧Wd w0 X (.blk b4 39 [.slice none 0 0,.slice none 0 0,.slice none 0 0]::.blk b5 22 [.int .i64 1]::es) w':=by
 refine callsD_of_wpS Tryz.func49 rfl fun c₀ cs hu=>?_
 apply wpS_seq
 apply wpS_region
 simp[wpOpsS,go_sem,recoverD,hu,Tryz.ntmps49,Exit.thenS,brkI]
 refine wpS_of_wp ?_
 refine c_t (ds:=[]) (N:=5) (env:=[(0,.pointer (some ⟨b4,0,none⟩)),(1,.pointer (some ⟨b5,0,none⟩)),(3,.bool true)]) ⟨rfl,rfl,fun t v h=>?_⟩ rfl ?_
 ·simp only[List.mem_cons,Prod.mk.injEq,List.not_mem_nil,or_false] at h
  rcases h with⟨rfl,rfl⟩|⟨rfl,rfl⟩|⟨rfl,rfl⟩<;>rfl
 have hF:Fr [] 5 [(0,.pointer (some ⟨b4,0,none⟩)),(1,.pointer (some ⟨b5,0,none⟩)),(3,.bool true)] ⟨#[Value.pointer (some {block:=b4,off:=0}),Value.pointer (some {block:=b5,off:=0})]++((Array.replicate 3 undef).setIfInBounds 0 (Value.iface 145 (Value.agg #[]))).setIfInBounds 1 (Value.bool true),[]⟩:=⟨rfl,rfl,fun t v h=>by
  simp only[List.mem_cons,Prod.mk.injEq,List.not_mem_nil,or_false] at h
  rcases h with⟨rfl,rfl⟩|⟨rfl,rfl⟩|⟨rfl,rfl⟩<;>rfl⟩
 refine c_r<|pv hF hW (y_build (vs:=[]) hF rfl zero_s) fun a hF=>pe (e_storeAll rfl hF hW rfl rfl 0 rfl rfl hl Kr sz_39 ?_)
 intro wc hW
 refine pe (e_store rfl hF hW rfl rfl 1 rfl rfl rfl sz_22 ?_)
 intro wc hW
 refine l_nil ?_
 have hd:=hF.defers
 simp[bodyPostS,hd,results,Tryz.results49,settle]
 exact hW
theorem catch_read0{w:World}{b4 b5:Nat}:
  CallsD Tryz.prog 49 #[.pointer (some ⟨b4,0,none⟩),.pointer (some ⟨b5,0,none⟩)] .returning w fun e u w'=>e=.returned (.tuple #[])∧settle u=.returning∧w'=w:=by
 refine callsD_of_wpS Tryz.func49 rfl fun c₀ cs hu=>?_
 apply wpS_seq
 apply wpS_region
 simp[wpOpsS,go_sem,recoverD,hu,Tryz.ntmps49,Exit.thenS]
 refine wpS_of_wp ?_
 go_wp2
 cases c₀
 simp_all[bodyPostS,results,Tryz.results49,settle]
theorem read_thrown{w0 w:World}{a:Act}{N:Nat}{env:List (Nat×Value)}{R:Ending→World→Prop}{b4 b5:Nat}{l4:List Value}{v5:Value}(hF:Fr [{target:=.fn (.func 49) #[.pointer (some ⟨b4,0,none⟩),.pointer (some ⟨b5,0,none⟩)],args:=#[]}] N env a)
  (e4:evT env 2=some (.pointer (some ⟨b4,0,none⟩))) (e5:evT env 3=some (.pointer (some ⟨b5,0,none⟩))) (hW:Wd w0 NoB [.blk b4 39 l4,.blk b5 22 [v5]] w) (hl:l4.length=3)
  (hR:∀w',Below w0.heap.size w0 w'→R (.returned (.tuple #[SysD.zero.val,.int .i64 1])) w'):Go.bodyPostD Tryz.prog Tryz.f16 R (.panic brkI) a w:=by
 refine panD1 hF en_49 (catch_read hW hl) ?_
 rintro e u w' ⟨rfl,hu,hW'⟩
 exact⟨_,_,rfl,hu,res2 Tryz.results16 (rv_c hF e4 hW' 0 rfl Tryz.underlying39 rfl sz_39) (rv_c1 hF e5 hW' 1 rfl rfl Tryz.underlying22 rfl),hR _ hW'.below⟩
theorem read_done{w0 w:World}{a:Act}{N:Nat}{env:List (Nat×Value)}{R:Ending→World→Prop}{b4 b5:Nat}{l4:List Value}{v5:Value}{es:List Asn}(hF:Fr [{target:=.fn (.func 49) #[.pointer (some ⟨b4,0,none⟩),.pointer (some ⟨b5,0,none⟩)],args:=#[]}] N env a)
  (e4:evT env 2=some (.pointer (some ⟨b4,0,none⟩))) (e5:evT env 3=some (.pointer (some ⟨b5,0,none⟩))) (hW:Wd w0 NoB (.blk b4 39 l4::.blk b5 22 [v5]::es) w) (hl:l4.length=3)
  (hR:R (.returned (.tuple #[.agg l4.toArray,v5])) w):Go.bodyPostD Tryz.prog Tryz.f16 R .ret a w:=by
 refine retD1 hF en_49 catch_read0 ?_
 rintro e u w' ⟨rfl,hu,rfl⟩
 exact⟨_,_,rfl,hu,res2 Tryz.results16 (rv_c hF e4 hW 0 rfl Tryz.underlying39 rfl (by rw[hl];exact sz_39)) (rv_c1 hF e5 hW 1 rfl rfl Tryz.underlying22 rfl),hR⟩
def readErr(l:List UInt8):Int:=if l.length>8192 then 2 else if(readL l).isSome then 0 else 1
def readTo(l:List UInt8):Sys:=if l.length>8192 then Sys.zero else(readL l).getD Sys.zero
theorem read_bad{w:World}{l:List UInt8}(h8:¬l.length>8192)(h:readL l=none)(w':World)(hb:Below w.heap.size w w'):SysErr w (readTo l) (readErr l) (.returned (.tuple #[SysD.zero.val,.int .i64 1])) w':=
 ⟨SysD.zero,by unfold readErr;rw[if_neg h8,h];rfl,by unfold readTo;rw[if_neg h8,h];rfl,hb,fun _ _=>SysD.zero_at _⟩
theorem read_all{l r1 r2 r3:List UInt8}{P:List Prt}{C:List Chn}{S:List Slt}(h1:listB prtP l=some (P,r1))(h2:listB chnP r1=some (C,r2))(h3:listB sltP r2=some (S,r3)):readL l=if r3=[]∧chkSys ⟨P,C,S⟩=0 then some ⟨P,C,S⟩ else none:=by
 unfold readL sysP
 rw[h1,Option.bind_some]
 dsimp only
 rw[h2,Option.bind_some]
 dsimp only
 rw[h3]
 rfl
theorem read_no1{l:List UInt8}(h1:listB prtP l=none):readL l=none:=by
 unfold readL sysP
 rw[h1]
 rfl
theorem read_no2{l r1:List UInt8}{P:List Prt}(h1:listB prtP l=some (P,r1))(h2:listB chnP r1=none):readL l=none:=by
 unfold readL sysP
 rw[h1,Option.bind_some]
 dsimp only
 rw[h2]
 rfl
theorem read_no3{l r1 r2:List UInt8}{P:List Prt}{C:List Chn}(h1:listB prtP l=some (P,r1))(h2:listB chnP r1=some (C,r2))(h3:listB sltP r2=none):readL l=none:=by
 unfold readL sysP
 rw[h1,Option.bind_some]
 dsimp only
 rw[h2,Option.bind_some]
 dsimp only
 rw[h3]
 rfl
set_option maxHeartbeats 16000000 in
theorem imageRead_any{w:World}{l:List UInt8}:Calls Tryz.prog 16 #[.string (bstr l)] w (SysErr w (readTo l) (readErr l)):=by
 refine enterD Tryz.func16 rfl Tryz.ntmps16 rfl fun a hF=>?_
 have hW:=Wd.start w NoB
 refine c_sr<|pe<|e_alloc hF hW ze_39 rfl rfl rfl fun b1 a wc hF hW=>pe<|e_alloc hF hW ze_22 rfl rfl rfl fun b2 a wc hF hW=>l_nil<|t_n<|c_s<|c_sr<|pq 1 hF rfl fun a hF=>pv hF hW (y_lenB hF rfl Tryz.underlying9) fun a hF=>pq 1 hF rfl fun a hF=>?_;refine Fr.splitD hF (fun h3 hF=>?_) (fun h3 hF=>?_);refine l_nil<|t_n<|c_t hF rfl<|c_sr<|pv hF hW (y_build hF rfl (fun w=>bu_ImgR_39_ w)) fun a hF=>?_;refine pe<|e_storeAll rfl hF hW rfl rfl 1 rfl rfl rfl Kr sz_39 fun wc hW=>pe<|e_store rfl hF hW rfl rfl 0 rfl rfl rfl sz_22 fun wc hW=>l_nil<|t_n<|wp_ret<|t_r ?_
 exact retD0 hF (res2 Tryz.results16 (rv_c hF rfl hW 1 rfl Tryz.underlying39 rfl sz_39) (rv_c1 hF rfl hW 0 rfl rfl Tryz.underlying22 rfl)) ⟨SysD.zero,by unfold readErr;rw[if_pos Om];rfl,by unfold readTo;rw[if_pos Om];rfl,hW.below,fun _ _=>SysD.zero_at _⟩
 refine l_nil<|t_n<|c_f hF rfl<|wp_skip<|t_n<|c_sr<|pv hF hW (y_makeFunc hF rfl) fun a hF=>pe<|e_defer rfl hF rfl fun a hF=>l_nil<|t_n ?_
 have h8:¬l.length>8192:=Om
 refine c_sr<|pq 1 hF rfl fun a hF=>pv hF hW (y_build hF rfl (fun w=>bu_ImgR_126_0 _ w)) fun a hF=>pe<|e_box hF hW rfl rfl rfl rfl fun b4 a wc hF hW=>pe<|e_alloc hF hW ze_124 rfl rfl rfl fun b5 a wc hF hW=>?_;refine pe<|e_store rfl hF hW rfl rfl 0 rfl rfl rfl sz_124 fun wc hW=>lts<|pv hF hW (y_loadOwn hF rfl 0 rfl rfl Tryz.underlying124 rfl) fun a hF=>pv hF hW (y_makeFunc hF rfl) fun a hF=>?_;refine pe (e_callp hF rfl rfl en_50 Rl rfl rfl (list_prt_call en_51 (onei_prt _) ((hW.front 0 rfl rfl).front 1 rfl rfl)) ?_);rintro e w1 (⟨xs,r1,A1,c1,rfl,hT1,hN⟩|⟨rfl,hT1,hN⟩);replace hW:=hN;refine .inl ⟨_,rfl,fun a hF=>?_⟩;refine pq 1 hF rfl fun a hF=>pe<|e_store rfl hF hW rfl rfl 5 rfl rfl rfl sz_35 fun wc hW=>lts<|pv hF hW (y_loadOwn hF rfl 3 rfl rfl Tryz.underlying124 rfl) fun a hF=>pv hF hW (y_makeFunc hF rfl) fun a hF=>?_;refine pe (e_callp hF rfl rfl en_58 Rl rfl rfl (list_chn_call en_59 (onei_chn _) ((hW.front 3 rfl rfl).front 3 rfl rfl)) ?_);rintro e w1 (⟨ys,r2,A2,c2,rfl,hT2,hN⟩|⟨rfl,hT2,hN⟩);replace hW:=hN;refine .inl ⟨_,rfl,fun a hF=>?_⟩;refine pq 1 hF rfl fun a hF=>pe<|e_store rfl hF hW rfl rfl 7 rfl rfl rfl sz_36 fun wc hW=>l_nil ?_;replace hF:=hF.ks [0,2,3,4,7] rfl;refine t_n<|c_sr<|pv hF hW (y_loadOwn hF rfl 3 rfl rfl Tryz.underlying124 rfl) fun a hF=>pv hF hW (y_makeFunc hF rfl) fun a hF=>?_;refine pe (e_callp hF rfl rfl en_60 Rl rfl rfl (list_slt_call en_61 (onei_slt _) ((hW.front 3 rfl rfl).front 3 rfl rfl)) ?_);rintro e w1 (⟨zs,r3,A3,c3,rfl,hT3,hN⟩|⟨rfl,hT3,hN⟩);replace hW:=hN;refine .inl ⟨_,rfl,fun a hF=>?_⟩;refine pq 1 hF rfl fun a hF=>pe<|e_store rfl hF hW rfl rfl 9 rfl rfl rfl sz_37 fun wc hW=>l_nil<|t_n<|c_s ?_
 rw[List.map_id] at hT2 hT3
 have hRA:readL l=if r3=[]∧chkSys (SysD.sys ⟨xs,A1,c1,ys,A2,c2,zs,A3,c3⟩)=0 then some (SysD.sys ⟨xs,A1,c1,ys,A2,c2,zs,A3,c3⟩) else none:=read_all hT1 hT2 hT3
 refine c_sr<|pv hF hW (y_loadOwn hF rfl 3 rfl rfl Tryz.underlying124 rfl) fun a hF=>pq 2 hF rfl fun a hF=>pv hF hW (y_loadOwn hF rfl 2 rfl rfl Tryz.underlying9 rfl) fun a hF=>pv hF hW (y_neB hF rfl rfl) fun a hF=>?_;refine Fr.splitD hF (fun h6 hF=>?_) (fun h6 hF=>?_);refine pq 5 hF rfl fun a hF=>l_nil<|t_n<|c_t hF rfl<|c_r<|pv hF hW (y_build hF rfl (fun w=>bu_ImgR_145_ w)) fun a hF=>pv hF hW (y_makeIface hF rfl Tryz.underlying145 (by intro ms h;cases h)) fun a hF=>?_;refine pe (e_panic hF rfl ?_);refine t_p ?_;replace hW:=hW.ds [0,0,0,0,0,0,0,0] rfl;replace hW:=hW.front 1 rfl rfl
 exact read_thrown hF rfl rfl hW rfl fun w' hb=>read_bad h8 (by rw[hRA,if_neg fun h=>absurd h.1 Am]) w' hb
 refine pq 1 hF rfl fun a hF=>pvg hF hW (y_loadAll hF rfl 9 rfl Tryz.underlying39 rfl sz_39) (ws hF rfl rfl) fun a hF=>?_;refine pe (e_callK hF hW rfl rfl en_46 Rl (confCheck_any (x:=⟨xs,A1,c1,ys,A2,c2,zs,A3,c3⟩) ⟨Flat.of_own (hW.row 6 rfl) rfl,hW.res 7 rfl,Flat.of_own (hW.row 4 rfl) rfl,Flat.of_own (hW.row 0 rfl) rfl⟩) ?_) (ws hF rfl rfl);intro a w1 hW hF;refine pq 1 hF rfl fun a hF=>?_;refine Fr.splitD hF (fun h7 hF=>?_) (fun h7 hF=>?_);refine pq 1 hF rfl fun a hF=>l_nil<|t_n<|c_t hF rfl<|c_r<|pv hF hW (y_build hF rfl (fun w=>bu_ImgR_145_ w)) fun a hF=>pv hF hW (y_makeIface hF rfl Tryz.underlying145 (by intro ms h;cases h)) fun a hF=>?_;refine pe (e_panic hF rfl ?_);refine t_p ?_;replace hW:=hW.ds [0,0,0,0,0,0,0,0] rfl;replace hW:=hW.front 1 rfl rfl
 exact read_thrown hF rfl rfl hW rfl fun w' hb=>read_bad h8 (by rw[hRA,if_neg fun h=>absurd h.2 Am]) w' hb
 refine pq 1 hF rfl fun a hF=>l_nil<|t_n<|c_f hF rfl<|wp_skip<|t_n<|c_sr<|pv hF hW (y_loadAll hF rfl 9 rfl Tryz.underlying39 rfl sz_39) fun a hF=>pe<|e_storeAll rfl hF hW rfl rfl 9 rfl rfl rfl Kr sz_39 fun wc hW=>pe<|e_store rfl hF hW rfl rfl 8 rfl rfl rfl sz_22 fun wc hW=>l_nil ?_;replace hF:=hF.ks [0,2,3,4,7,34] rfl;refine t_n<|wp_ret ?_;replace hW:=hW.ds [1,1,1,2] rfl;replace hW:=hW.fs [1,3,3,4,5] rfl
 have hLO:readL l=some (SysD.sys ⟨xs,A1,c1,ys,A2,c2,zs,A3,c3⟩):=(by rw[hRA,if_pos ⟨Classical.not_not.1 Am,by omega⟩])
 have h7:=(((hW.ds [0,0] rfl).row_res 0 rfl).row_res 2 rfl).row_res 3 rfl
 have hOwn:OwnRes w _ (SysD.At ⟨xs,A1,c1,ys,A2,c2,zs,A3,c3⟩):=((((h7.join rfl).join rfl).join rfl).res_res 0 rfl).mono fun u h=>⟨Flat.of_own h.1.1.1 rfl,h.1.1.2,Flat.of_own h.1.2 rfl,Flat.of_own h.2 rfl⟩
 exact read_done hF rfl rfl hW rfl ⟨⟨xs,A1,c1,ys,A2,c2,zs,A3,c3⟩,by unfold readErr;rw[if_neg h8,hLO];rfl,by unfold readTo;rw[if_neg h8,hLO];rfl,hW.below,hOwn⟩
 replace hW:=hN;refine .inr ⟨_,rfl,?_⟩;refine t_p ?_;replace hW:=hW.ds [0,0,0,0] rfl;replace hW:=hW.front 1 rfl rfl
 exact read_thrown hF rfl rfl hW rfl fun w' hb=>read_bad h8 (by rw[List.map_id] at hT2;exact read_no3 hT1 hT2 hT3) w' hb
 replace hW:=hN;refine .inr ⟨_,rfl,?_⟩;refine t_p ?_;replace hW:=hW.ds [0,0] rfl;replace hW:=hW.front 1 rfl rfl
 exact read_thrown hF rfl rfl hW rfl fun w' hb=>read_bad h8 (read_no2 hT1 hT2) w' hb
 replace hW:=hN;refine .inr ⟨_,rfl,?_⟩;refine t_p ?_;replace hW:=hW.front 1 rfl rfl
 exact read_thrown hF rfl rfl hW rfl fun w' hb=>read_bad h8 (read_no1 hT1) w' hb
end Go.Proofs.YtndcjmopebcdgaaGreatDoor
