/- flow.Path. -/
import Derived.Test.YtndcjmopebcdgaaGreatDoorPathPl
import Derived.Test.YtndcjmopebcdgaaGreatDoorSkG
import Derived.Test.YtndcjmopebcdgaaGreatDoorEngM
import Derived.Test.YtndcjmopebcdgaaGreatDoorSkC
set_option linter.unusedSimpArgs false
set_option linter.unusedVariables false
namespace Go.Proofs.YtndcjmopebcdgaaGreatDoor
open Go.ChangeShapes Go.WideShapes Go.ChangeAt Go.RowKit
theorem bs_FlowD_41_0_(w:World):(Instr.buildSlice 41 0 #[]).run Tryz.prog w=.ok (.slice (some ⟨w.heap.size,0,none⟩) 0 0) (w.alloc (.cells #[] 3)):=by kernel_rfl
theorem bs_FlowD_41_1_0(x0:Int)(w:World):(Instr.buildSlice 41 1 #[(0,(.int .i64 x0))]).run Tryz.prog w=.ok (.slice (some ⟨w.heap.size,0,none⟩) 1 1) (w.alloc (.cells #[(.int .i64 x0)] 3)):=by kernel_rfl
theorem bs_FlowD_44_1_0(x0:Option Addr)(x0n x0c:Nat)(w:World):(Instr.buildSlice 44 1 #[(0,(.slice x0 x0n x0c))]).run Tryz.prog w=.ok (.slice (some ⟨w.heap.size,0,none⟩) 1 1) (w.alloc (.cells #[(.slice x0 x0n x0c)] 41)):=by kernel_rfl
set_option maxRecDepth 100000
theorem clone_intRow{A:Option Addr}{n c:Nat}{l:List Int}{w:World}(h:Ints w (.slice A n c) l)(hl0:0<l.length)(hs:l.length*8≤140737488355328):
  Calls Tryz.prog 84 #[.slice A n c] w fun e w'=>∃A' c',e=.returned (.slice A' l.length c')∧Below w.heap.size w w'∧w'.ownsRow w.heap.size 3 1 (.slice A' l.length c') l.length (l.map (.int .i64)):=by
 obtain rfl:n=l.length:=h.len.1
 have hl:=h.len
 unfold maxLen at hl
 refine enter Tryz.func84 rfl Tryz.ntmps84 rfl fun a hF=>?_
 have hW:=Wd.start w NoB
 refine c_sr<|pq 1 hF rfl fun a hF=>l_nil<|t_n<|c_s<|c_sr<|pq 1 hF rfl fun a hF=>pv hF hW (y_eqNilS hF rfl rfl Tryz.underlying41) fun a hF=>?_;refine Fr.splitB hF (fun h1 hF=>?_) (fun h1 hF=>?_);refine l_nil<|t_n<|c_t hF rfl<|c_sr<|pq 1 hF rfl fun a hF=>l_nil<|t_n<|wp_ret<|t_r<|ret1 Tryz.results84 hF (rv_t hF rfl) ?_
 obtain rfl:=h.nil_of h1
 cases hl0
 refine l_nil<|t_n<|c_f hF rfl<|wp_skip<|t_n<|c_sr<|pe<|e_buildSlice hF hW rfl (fun w=>bs_FlowD_41_0_ w) rfl rfl rfl fun b2 a wc hF hW=>pq 1 hF rfl fun a hF=>?_;replace hW:=hW.blk_row 0 rfl 1 0 rfl Si;refine pe<|e_append hF hW 0 rfl rfl rfl Tryz.underlying41 inf_3 rfl Dc (h.rowAt.below hW.below) (by exact oneCell_ints l) (show _=l.length by omega) (show _=l.map (.int .i64) by simp) Ox Ml rfl rfl fun A3 c4 a wc hF hW=>pq 1 hF rfl fun a hF=>l_nil<|t_n<|wp_ret<|ret1 Tryz.results84 hF (rv_t hF rfl) ?_
 exact⟨_,_,rfl,hW.below,hW.row_own 0 rfl⟩
structure RR where
 r:List Nat
 a:Option Addr
 k:Nat
def RR.ir(q:RR):IR:=⟨q.r.map Int.ofNat,q.a,q.k⟩
def RR.val(q:RR):Value:=q.ir.val
theorem sn_add{ks:List (Nat×Int)}{b:Nat}(h:0≤cget b ks):(fun v=>decide (0<cget v (cadd b (cget b ks+1) ks)))=fun v=>decide (0<cget v ks)||v==b:=by
 funext v
 rw[cget_add]
 by_cases e:v=b
 ·subst e
  rw[if_pos rfl]
  simp
  omega
 ·simp[e]
theorem sn_old{ks:List (Nat×Int)}{b:Nat}(h:0<cget b ks):(fun v=>decide (0<cget v (cadd b (cget b ks+1) ks)))=fun v=>decide (0<cget v ks):=by
 rw[sn_add Om]
 funext v
 by_cases e:v=b
 ·subst e
  simp[h]
 ·simp[e]
def Few(ks:List (Nat×Int))(n:Nat):Prop:=∀v,0≤cget v ks∧cget v ks≤n
theorem Few.add{ks:List (Nat×Int)}{n b:Nat}(h:Few ks n):Few (cadd b (cget b ks+1) ks) (n+1):=fun v=>by
 rw[cget_add]
 have h1:=h v
 have h2:=h b
 split<;>omega
theorem Few.mono{ks:List (Nat×Int)}{n m:Nat}(h:Few ks n)(hm:n≤m):Few ks m:=fun v=>by
 have:=h v
 omega
theorem sn_start(f:Nat):(fun v=>decide (0<cget v (cadd f 1 [])))=fun v=>v==f:=by
 funext v
 rw[cget_add]
 by_cases e:v=f<;>simp[e,cget_nil]
theorem few_start(f:Nat):Few (cadd f 1 []) 1:=fun v=>by
 rw[cget_add]
 split<;>simp[cget_nil]
def pathErr(s:Sys)(f t:Int):Int:=if thereErr s f=0 then thereErr s t else thereErr s f
def pathOr(s:Sys)(f t:Int):Option (List Nat):=if pathErr s f t=0 then pathOf s.chans s.parts.length f.toNat t.toNat else none
theorem pathErr_1{s:Sys}{f t:Int}(h:thereErr s f≠0):pathErr s f t=thereErr s f:=if_neg h
theorem pathErr_2{s:Sys}{f t:Int}(h:thereErr s f=0):pathErr s f t=thereErr s t:=if_pos h
def PathBack(w:World)(x:SysD)(f t:Int)(e:Ending)(w':World):Prop:=∃(L:List Int) (A:Option Addr) (c:Nat),e=.returned (.tuple #[.slice A L.length c,.bool (pathOr x.sys f t).isSome,.int .i64 (pathErr x.sys f t)])∧
 L=((pathOr x.sys f t).getD []).map Int.ofNat∧Below w.heap.size w w'∧OwnRes w w' (fun u=>Ints u (.slice A L.length c) L)
theorem sys_parts_len(x:SysD):x.sys.parts.length=x.parts.length:=by simp[SysD.sys]
theorem road_last{cs:List Chn}{n u v:Nat}{r:List Nat}(h:Road cs n u v r):(r.map Int.ofNat).getD (r.length - 1) 0=(v:Int):=by
 have h1:=h.last
 have h2:=h.pos
 rw[List.getD,List.getElem?_map]
 rw[List.getD,List.getElem?_eq_getElem Om,Option.getD_some] at h1
 rw[List.getElem?_eq_getElem Om]
 simp[h1]
theorem roadRF{r:List Nat}{ra:Option Addr}{rk:Nat}{u:World}(h:(RR.mk r ra rk).ir.At u):RF u ra (r.map Int.ofNat).length 1 (fun i=>[.int .i64 ((r.map Int.ofNat).getD i 0)]):=irRF h
theorem get_getD{α:Type}{l:List α}{j:Nat}(h:j<l.length)(d:α):l[j]?=some (l.getD j d):=by simp[List.getD,h]
set_option maxHeartbeats 8000000 in
theorem flowPath_any{x:SysD}{w:World}(hx:x.At w)(f t:Int):Calls Tryz.prog 42 #[x.val,.int .i64 f,.int .i64 t] w (PathBack w x f t):=by
 have hth:=fun w1 (hb:Below w.heap.size w w1) (p:Int)=>confThere_any (hx.below hb) p
 have hof:=fun w1 (hb:Below w.heap.size w w1) (h0:chkSys x.sys=0)=>flowOf_any (hx.below hb) h0
 have hspl:=sys_parts_len x
 rw[x.val_eq] at*
 refine enter Tryz.func42 rfl Tryz.ntmps42 rfl fun a hF=>?_
 have hW:=Wd.start w NoB
 refine c_sr<|pe<|e_box hF hW rfl rfl rfl rfl fun b1 a wc hF hW=>pq 3 hF rfl fun a hF=>l_nil<|t_n<|c_s<|c_sr<|pv hF hW (y_loadAll hF rfl 0 rfl Tryz.underlying39 rfl sz_39) fun a hF=>pq 1 hF rfl fun a hF=>pe<|e_callK hF hW rfl rfl en_43 Rl (hth _ hW.below f) fun a w1 hW hF=>pq 1 hF rfl fun a hF=>lts<|pq 2 hF rfl fun a hF=>?_;refine Fr.splitD hF (fun h2 hF=>?_) (fun h2 hF=>?_);refine l_nil<|t_n<|c_t hF rfl<|c_sr<|pq 4 hF rfl fun a hF=>l_nil<|t_n<|wp_ret<|t_r<|ret3 Tryz.results42 hF (rv_t hF rfl) (rv_t hF rfl) (rv_t hF rfl) ?_;replace hW:=hW.del 0 rfl
 exact⟨[],none,0,by rw[show pathOr x.sys f t=none from if_neg (by rw[pathErr_1 Om];omega),pathErr_1 Om];rfl,by rw[show pathOr x.sys f t=none from if_neg (by rw[pathErr_1 Om];omega)];rfl,hW.below,fun _ _=>Ints.nil_⟩
 refine l_nil<|t_n<|c_f hF rfl<|wp_skip<|t_n<|c_s<|c_sr<|pv hF hW (y_loadAll hF rfl 0 rfl Tryz.underlying39 rfl sz_39) fun a hF=>pq 1 hF rfl fun a hF=>pe<|e_callK hF hW rfl rfl en_43 Rl (hth _ hW.below t) fun a w1 hW hF=>pq 1 hF rfl fun a hF=>lts<|pq 2 hF rfl fun a hF=>?_;refine Fr.splitD hF (fun h3 hF=>?_) (fun h3 hF=>?_);refine l_nil<|t_n<|c_t hF rfl<|c_sr<|pq 4 hF rfl fun a hF=>l_nil<|t_n<|wp_ret<|t_r<|ret3 Tryz.results42 hF (rv_t hF rfl) (rv_t hF rfl) (rv_t hF rfl) ?_;replace hW:=hW.del 0 rfl
 exact⟨[],none,0,by rw[show pathOr x.sys f t=none from if_neg (by rw[pathErr_2 Om];omega),pathErr_2 Om];rfl,by rw[show pathOr x.sys f t=none from if_neg (by rw[pathErr_2 Om];omega)];rfl,hW.below,fun _ _=>Ints.nil_⟩
 refine l_nil<|t_n<|c_f hF rfl<|wp_skip<|t_n ?_
 have h10:thereErr x.sys f=0:=Om
 have h20:thereErr x.sys t=0:=Om
 have hpe:pathErr x.sys f t=0:=(pathErr_2 h10).trans h20
 obtain⟨hk,hf0,hf1⟩:=there_zero h10
 obtain⟨-,ht0,ht1⟩:=there_zero h20
 rw[hspl] at hf1 ht1
 obtain⟨pf,rfl⟩:=Int.eq_ofNat_of_zero_le hf0
 obtain⟨pt,rfl⟩:=Int.eq_ofNat_of_zero_le ht0
 have hfn:pf<x.parts.length:=Om
 have htn:pt<x.parts.length:=Om
 have hpo:pathOr x.sys pf pt=pathOf x.chans x.parts.length pf pt:=(if_pos hpe).trans (by rw[hspl];rfl)
 obtain⟨⟨hp1,hp2⟩,-⟩:=sizes_get (chkSys_zero hk).1
 refine c_sr<|pv hF hW (y_loadAll hF rfl 0 rfl Tryz.underlying39 rfl sz_39) fun a hF=>?_;refine pe (e_callA hF rfl rfl en_83 Rl (hof _ hW.below hk) ?_);rintro e w1 ⟨gs,Ag,rfl,hg,hb,hr⟩;replace hW:=hW.gotR hb hr;refine⟨_,rfl,fun a hF=>?_⟩
 have hgl:=hg.len
 refine pq 1 hF rfl fun a hF=>lts<|pe<|e_makeMap hF hW (fun k:Nat=>Value.int .i64 (k:Int)) rfl rfl fun b4 a wc hF hW=>pq 1 hF rfl fun a hF=>pe<|e_mapUpdate rfl (keyOk_int Tryz.underlying3) hF hW rfl rfl rfl 0 rfl Tryz.underlying171 (.inr rfl) fun wc hW=>pq 2 hF rfl fun a hF=>lts<|pq 1 hF rfl fun a hF=>pe<|e_buildSlice hF hW rfl (fun w=>bs_FlowD_41_1_0 _ w) rfl rfl rfl fun b5 a wc hF hW=>pe<|e_buildSlice hF hW rfl (fun w=>bs_FlowD_44_1_0 _ _ _ w) rfl rfl rfl fun b6 a wc hF hW=>pq 1 hF rfl fun a hF=>l_nil ?_;replace hF:=hF.ks [0,1,2,3,6,7,8,9,10,11,12,13,22,28] rfl;refine t_n<|c_s<|wp_block ?_;replace hW:=hW.fs [2,2,2] rfl;replace hW:=hW.blk_vseg 0 [RR.val ⟨[pf],some ⟨b5,0,none⟩,1⟩] rfl rfl (show 1≤maxLen by decide)
 replace hW:=(hW.blk_res 1 rfl).weak 1 (R':=fun u=>∀q,q∈[RR.mk [pf] (some ⟨b5,0,none⟩) 1]→q.ir.At u) rfl fun u h q hq=>by rw[List.mem_singleton.1 hq];exact ints_blk (xs:=[(pf:Int)]) h rfl rfl (show 1≤maxLen by decide)
 refine c_loop (G:=List (List Nat)×List RR×List (Nat×Int)×Option Addr×Nat) (fun⟨P,rs,ks,A,c⟩=>[(13,.slice A (rs.map RR.val).length c)]) (fun⟨P,rs,ks,A,c⟩=>[.vseg 41 (.slice A (rs.map RR.val).length c) (rs.map RR.val),.res (fun u=>∀q,q∈rs→q.ir.At u),.cmap b4 (fun k:Nat=>Value.int .i64 (k:Int)) ks]) (fun⟨P,rs,ks,A,c⟩=>Bfs x.chans x.parts.length pf pt P (rs.map RR.r) (fun v=>decide (0<cget v ks))∧Few ks (1+4*P.length)) (fun⟨P,rs,ks,A,c⟩=>x.parts.length - P.length) ([],[⟨[pf],some ⟨b5,0,none⟩,1⟩],cadd pf 1 [],some ⟨b6,0,none⟩,1) (hF.ks [0,1,2,3,9,10,11,12,22,28] rfl) (Fr.cons hF (t:=13) rfl Rg (Fr.nil hF)) (hW) ?_ ?_
 exact⟨by rw[sn_start];exact bfs_start hfn,few_start pf⟩
 clear hF hW
 try clear a
 intro gq a wc hC hF hW
 obtain⟨P,rs,ks,A,c⟩:=gq
 dsimp only at hC
 obtain⟨hB,hks⟩:=hC
 refine c_s<|c_sr<|pq 3 hF rfl fun a hF=>?_;refine Fr.splitD hF (fun h7 hF=>?_) (fun h7 hF=>?_);refine l_nil<|t_n<|c_t hF rfl<|wp_skip<|t_n<|wp_block ?_
 have hpos:0<rs.length:=(by simp only[List.length_map] at*;omega)
 obtain⟨r1,rs',rfl⟩:∃m l,rs=m::l:=List.exists_cons_of_length_pos hpos
 obtain⟨r,ra,rk⟩:=r1
 obtain⟨xx,hxn,hxr⟩:=hB.log.road r Si
 have hrp:=hxr.pos
 have hrl:(r.map Int.ofNat).length=r.length:=List.length_map _
 have hPn:=hB.log.le
 simp only[List.length_append,List.map_cons,List.length_cons] at hPn
 have hlen:=hB.log.len r Si
 simp only[List.length_append,List.map_cons,List.length_cons] at hlen
 have hlast:=road_last hxr
 have hr1:RR.mk r ra rk∈RR.mk r ra rk::rs':=List.mem_cons_self
 refine c_sr<|pq 1 hF rfl fun a hF=>pv hF hW (y_indexS hF rfl rfl Si Tryz.underlying44 sz_41 (fun w h=>(h.vsegR (d0:=.nilFunc) 0 rfl))) fun a hF=>pv hF hW (y_loadRow hF rfl (fun w h=>(h.vsegR (d0:=.nilFunc) 0 rfl)) Si rfl Tryz.underlying41 rfl) fun a hF=>?_;replace hF:=Fr.cast (v':=.slice ra (r.map Int.ofNat).length rk) Rl hF;refine pq 1 hF rfl fun a hF=>l_nil<|t_n ?_
 obtain⟨A1,c1,hv1⟩:∃A1 c1,(Value.slice (if c=1 then A else A.map (·.add (1*1))) (((RR.mk r ra rk::rs').map RR.val).length - 1) (c - 1))=.slice A1 (rs'.map RR.val).length c1:=⟨_,_,rfl⟩
 replace hW:=hW.vseg_tail 0 rfl Si
 rw[hv1] at hW
 refine c_sr<|pq 1 hF rfl fun a hF=>pv hF hW (y_sliceL hF rfl rfl Si Tryz.underlying44 sz_41) fun a hF=>?_;replace hF:=Fr.cast (v':=.slice A1 (rs'.map RR.val).length c1) (by exact hv1) hF;refine pq 1 hF rfl fun a hF=>lts<|pq 3 hF rfl fun a hF=>pv hF hW (y_sub hF rfl rfl (IntWalk.i64_in _ Om)) fun a hF=>?_;replace hF:=Fr.cast (v':=.int .i64 ((r.length - 1:Nat):Int)) (by congr 1;omega) hF;refine pv hF hW (y_indexS hF rfl rfl Om Tryz.underlying41 sz_3 (fun w h=>(h.res 1 rfl)|> fun h=>roadRF (h _ hr1))) fun a hF=>pv hF hW (y_loadRow hF rfl (fun w h=>(h.res 1 rfl)|> fun h=>roadRF (h _ hr1)) Om rfl Tryz.underlying3 rfl) fun a hF=>?_;replace hF:=Fr.cast (v':=.int .i64 (xx:Int)) (by rw[hlast]) hF;refine pq 1 hF rfl fun a hF=>l_nil<|t_n<|c_s<|c_sr<|pq 3 hF rfl fun a hF=>?_;refine Fr.splitD hF (fun h8 hF=>?_) (fun h8 hF=>?_);refine l_nil ?_;replace hF:=hF.ks [0,1,2,3,9,10,11,12,13,14,15,22,28,40,54] rfl;refine t_n<|c_t hF rfl<|c_sr<|pq 4 hF rfl fun a hF=>l_nil<|t_n<|wp_ret<|t_r<|b_r<|t_r<|b_r<|t_r<|ret3 Tryz.results42 hF (rv_t hF rfl) (rv_t hF rfl) (rv_t hF rfl) ?_;replace hW:=hW.ds [0,1,1,1] rfl
 obtain rfl:xx=pt:=Om
 have hfo:=hB.found hfn hxn hxr
 exact⟨r.map Int.ofNat,ra,rk,by rw[hpo,hfo,hpe];rfl,by rw[hpo,hfo];rfl,hW.below,(hW.res_res 0 rfl).mono fun u h=>h _ hr1⟩
 refine l_nil ?_;replace hF:=hF.ks [0,1,2,3,9,10,11,12,13,14,15,22,28,40,54] rfl;refine t_n<|c_f hF rfl<|wp_skip<|t_n ?_
 have hne:xx≠pt:=Om
 have hM0:=hB.take hxr hne
 have hxg:xx<gs.length:=Om
 have hql:=hg.get hxn
 have hqn:=tl_len x.parts.length (leadsB x.chans xx)
 rw[←hql] at hqn
 refine c_sr<|pq 2 hF rfl fun a hF=>pv hF hW (y_indexS hF rfl rfl (by exact hxn) Tryz.underlying169 sz_41 (fun w h=>(h.res 3 rfl).1.rf IR.cells_len IR0)) fun a hF=>pv hF hW (y_loadRow hF rfl (fun w h=>(h.res 3 rfl).1.rf IR.cells_len IR0) (by exact hxn) rfl Tryz.underlying41 rfl) fun a hF=>?_;replace hF:=Fr.cast (v':=.slice (gs.getD xx IR0).a (gs.getD xx IR0).l.length (gs.getD xx IR0).k) Rl hF;refine pq 2 hF rfl fun a hF=>l_nil<|t_n<|wp_block ?_;replace hW:=hW.fs [2,2,2] rfl;refine c_loop (G:=Nat×List RR×List (Nat×Int)×Option Addr×Nat) (fun⟨j,zs,ks2,B,d⟩=>[(61,.int .i64 (j:Int)),(13,.slice B (zs.map RR.val).length d)]) (fun⟨j,zs,ks2,B,d⟩=>[.vseg 41 (.slice B (zs.map RR.val).length d) (zs.map RR.val),.res (fun u=>∀q,q∈RR.mk r ra rk::zs→q.ir.At u),.cmap b4 (fun k:Nat=>Value.int .i64 (k:Int)) ks2]) (fun⟨j,zs,ks2,B,d⟩=>Mid x.chans x.parts.length pf pt P r xx (zs.map RR.r) (fun v=>decide (0<cget v ks2)) j∧Few ks2 (1+4*P.length+j)∧j≤(gs.getD xx IR0).l.length) (fun⟨j,zs,ks2,B,d⟩=>(gs.getD xx IR0).l.length - j) (0,rs',ks,A1,c1) (hF.ks [0,1,2,3,9,10,11,12,14,15,22,28,40,54,59,60] rfl) (Fr.cons hF (t:=61) rfl Rg (Fr.cons hF (t:=13) rfl Rg (Fr.nil hF))) (hW) ?_ ?_
 exact⟨hM0,hks,by omega⟩
 clear hF hW
 try clear a
 intro gq a wc hC hF hW
 obtain⟨j,zs,ks2,B,d⟩:=gq
 dsimp only at hC
 obtain⟨hM,hks2,hjl⟩:=hC
 refine c_sr<|pq 1 hF rfl fun a hF=>?_;refine Fr.splitD hF (fun h9 hF=>?_) (fun h9 hF=>?_);refine l_nil<|t_n<|c_s<|c_t hF rfl<|wp_skip<|t_n<|c_s<|wp_block ?_
 have hjl2:j<(gs.getD xx IR0).l.length:=Om
 obtain⟨bb,hbe,-,-⟩:=tl_lt (by rw[←hql];exact mem_getD (l:=(gs.getD xx IR0).l) 0 hjl2)
 have hbj:(tl x.parts.length (leadsB x.chans xx))[j]?=some (bb:Int):=(by rw[←hql,←hbe];exact get_getD hjl2 0)
 have hcb:=hks2 bb
 have hzl:=hM.log.le
 simp only[List.length_append,List.length_map,List.length_cons] at hzl
 refine c_sr<|pv hF hW (y_indexS hF rfl rfl Od Tryz.underlying41 sz_3 (fun w h=>(h.res 3 rfl).2 _ (mem_getD IR0 hxg) |> irRF)) fun a hF=>pv hF hW (y_loadRow hF rfl (fun w h=>(h.res 3 rfl).2 _ (mem_getD IR0 hxg) |> irRF) Od rfl Tryz.underlying3 rfl) fun a hF=>?_;replace hF:=Fr.cast (v':=.int .i64 (bb:Int)) (by rw[hbe]) hF;refine pq 1 hF rfl fun a hF=>lts<|pq 2 hF rfl fun a hF=>pv hF hW (y_lookup (keyOk_int Tryz.underlying3) hF rfl rfl 2 rfl Tryz.underlying171 ze_3) fun a hF=>pv hF hW (y_add hF rfl rfl (IntWalk.i64_in _ Om)) fun a hF=>pe<|e_mapUpdate rfl (keyOk_int Tryz.underlying3) hF hW rfl rfl rfl 2 rfl Tryz.underlying171 (.inl rfl) fun wc hW=>lts<|pq 2 hF rfl fun a hF=>pv hF hW (y_lookup (keyOk_int Tryz.underlying3) hF rfl rfl 2 rfl Tryz.underlying171 ze_3) fun a hF=>?_;replace hF:=Fr.cast (v':=.int .i64 (cget bb ks2+1)) (by rw[cget_add,if_pos rfl]) hF;refine pq 1 hF rfl fun a hF=>?_;refine Fr.splitD hF (fun h10 hF=>?_) (fun h10 hF=>?_);refine l_nil<|t_n<|c_t hF rfl<|c_r<|pq 2 hF rfl fun a hF=>?_;refine pe (e_callA hF rfl rfl en_84 Rl (clone_intRow (show Ints _ (.slice ra (r.map Int.ofNat).length rk) (r.map Int.ofNat) from(hW.res 1 rfl) _ List.mem_cons_self) Om Om) ?_);rintro e w1 ⟨A3,c3,rfl,hb,hr⟩;replace hW:=hW.got_row hb hr;refine⟨_,rfl,fun a hF=>?_⟩;refine pq 1 hF rfl fun a hF=>pe<|e_buildSlice hF hW rfl (fun w=>bs_FlowD_41_1_0 _ w) rfl rfl rfl fun b11 a wc hF hW=>pe<|e_append hF hW 1 rfl rfl rfl Tryz.underlying41 inf_3 rfl Dc (rowAt_blk (hW.blk 0 rfl) 1 1 rfl) Oc (show _=((r++[bb]).map Int.ofNat).length by simp) (show _=((r++[bb]).map Int.ofNat).map (.int .i64) by simp) Ox Ml rfl rfl fun A12 c13 a wc hF hW=>pe<|e_buildSlice hF hW rfl (fun w=>bs_FlowD_44_1_0 _ _ _ w) rfl rfl rfl fun b14 a wc hF hW=>pe<|e_appendVSeg hF hW 3 rfl rfl rfl Tryz.underlying44 inf_41 rfl (rowAt_blk (hW.blk 0 rfl) 1 1 rfl) Oc (show _=(zs++[RR.mk (r++[bb]) A12 c13]).map RR.val by exact(List.map_append (f:=RR.val) (l₁:=zs) (l₂:=[RR.mk (r++[bb]) _ _])).symm) (by(simp only[List.length_map,List.length_append,List.length_cons,List.length_nil];omega)) (by unfold maxLen;(simp only[List.length_map,List.length_append,List.length_cons,List.length_nil];omega)) rfl rfl fun A15 c16 a wc hF hW=>pq 1 hF rfl fun a hF=>l_nil ?_;replace hF:=hF.ks [0,1,2,3,9,10,11,12,13,14,15,17,22,28,40,54,59,60,61,62,72] rfl
 refine b_n<|t_n<|c_r<|pv hF hW (y_add hF rfl rfl (IntWalk.i64_in _ Om)) fun a hF=>pq 1 hF rfl fun a hF=>l_nil ?_;replace hW:=hW.fs [4,3] rfl
 replace hW:=hW.row1 (R:=fun u=>∀q,q∈RR.mk r ra rk::(zs++[RR.mk (r++[bb]) A12 c13])→q.ir.At u) fun u h1 h2 q hq=>(List.mem_append.1 hq).elim (h2 q) fun h=>by rw[List.mem_singleton.1 h];exact Ints.of_own h1
 replace hW:=hW.ds [1,1] rfl;replace hW:=hW.fs [4,4,4,3,4] rfl;refine t_n ?_;refine⟨(j+1,zs++[RR.mk (r++[bb]) A12 c13],cadd bb (cget bb ks2+1) ks2,A15,c16),?_,?_,?_,?_⟩
 exact⟨by rw[sn_add Om,List.map_append];exact hM.add hbj (decide_eq_false Om),hks2.add,by omega⟩
 first|omega|(dsimp only;omega)
 exact hF.a2 rfl rfl rfl
 exact hW
 refine l_nil<|t_n<|c_f hF rfl<|wp_skip<|b_n<|t_n<|c_r<|pv hF hW (y_add hF rfl rfl (IntWalk.i64_in _ Om)) fun a hF=>pq 1 hF rfl fun a hF=>l_nil<|t_n ?_;refine⟨(j+1,zs,cadd bb (cget bb ks2+1) ks2,B,d),?_,?_,?_,?_⟩
 exact⟨by rw[sn_old Om];exact hM.skip hbj (decide_eq_true Om),hks2.add,by omega⟩
 first|omega|(dsimp only;omega)
 exact hF.a2 rfl rfl rfl
 exact hW
 refine l_nil<|t_n<|c_s<|c_f hF rfl<|wp_exit<|t_x<|t_x<|b_h<|b_n<|t_n ?_
 replace hW:=hW.weak 1 (R':=fun u=>∀q,q∈zs→q.ir.At u) rfl fun u h q hq=>h q (List.mem_cons_of_mem _ hq)
 refine⟨(P++[r],zs,ks2,B,d),?_,?_,?_,?_⟩
 focus
  exact⟨hM.done (by rw[←hql];omega),hks2.mono (by simp only[List.length_append,List.length_cons,List.length_nil];omega)⟩
 (simp only[List.length_append,List.length_cons,List.length_nil];omega)
 exact hF.a1 rfl rfl
 exact hW
 refine l_nil<|t_n<|c_f hF rfl<|wp_exit<|t_x<|t_x<|b_h<|t_n<|c_sr<|pq 3 hF rfl fun a hF=>l_nil<|t_n<|wp_ret<|ret3 Tryz.results42 hF (rv_t hF rfl) (rv_t hF rfl) (rv_t hF rfl) ?_;replace hW:=hW.ds [0,0,0,0,0] rfl
 have hrn:rs=[]:=List.eq_nil_of_length_eq_zero (by simp only[List.length_map] at*;omega)
 subst hrn
 exact⟨[],none,0,by rw[hpo,hB.none,hpe];rfl,by rw[hpo,hB.none];rfl,hW.below,fun _ _=>Ints.nil_⟩
end Go.Proofs.YtndcjmopebcdgaaGreatDoor
