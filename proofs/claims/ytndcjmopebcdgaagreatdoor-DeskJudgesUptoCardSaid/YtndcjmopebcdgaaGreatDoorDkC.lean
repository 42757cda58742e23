/- The paper: a builder inside a struct; lines are written. The paper's text; words and numbers of a line, here and there. -/
import Derived.Test.YtndcjmopebcdgaaGreatDoorDkJ
import Derived.Test.YtndcjmopebcdgaaGreatDoorImgW
import Derived.Lib.UnsafeStr
import Derived.Lib.Builder
import Derived.Test.YtndcjmopebcdgaaGreatDoorDkD
import Derived.Test.YtndcjmopebcdgaaGreatDoorDkP
set_option linter.unusedSimpArgs false
set_option linter.unusedVariables false
namespace Go.Proofs.YtndcjmopebcdgaaGreatDoor
section
open Go.ChangeShapes Go.WideShapes Go.ChangeAt Go.RowKit
theorem bs_DskP_66_1_0(x0:Int)(w:World):(Instr.buildSlice 66 1 #[(0,(.int .u8 x0))]).run Tryz.prog w=.ok (.slice (some ⟨w.heap.size,0,none⟩) 1 1) (w.alloc (.cells #[(.int .u8 x0)] 5)):=by kernel_rfl
set_option maxRecDepth 100000
abbrev papB(bp:Nat)(p:Value)(A:Option Addr)(c:Nat)(L:List UInt8):Asn:=.blk bp 70 [p,.slice A L.length c]
abbrev selfP(bp:Nat):Value:=.pointer (some ⟨bp,0,none⟩)
def NewP(p:Value)(bp:Nat):Prop:=p=.pointer none∨p=selfP bp
def listT(M:List Int):List UInt8:=M.flatMap fun n=>32::Lib.itoa n
def lineT(word:List UInt8)(M:List Int):List UInt8:=word++listT M++[10]
theorem listT_succ{M:List Int}{k:Nat}(hk:k<M.length):listT (M.take (k+1))=listT (M.take k)++(32::Lib.itoa (M.getD k 0)):=by
 unfold listT
 rw[List.take_succ_eq_append_getElem hk,List.flatMap_append,List.getD,List.getElem?_eq_getElem hk]
 simp
theorem listT_len{M:List Int}(h:∀n,n∈M→In64 n):(listT M).length≤21*M.length:=by
 induction M with
 |nil=>exact Nat.le_refl _
 |cons x r ih=>
  have h1:=itoa_len (h x List.mem_cons_self)
  have h2:=ih fun i hi=>h i (List.mem_cons_of_mem _ hi)
  unfold listT at h2⊢
  rw[List.flatMap_cons,List.length_append,List.length_cons,List.length_cons]
  omega
theorem copy_in{w0 w:World}{X:Nat→Prop}{es:List Asn}{bp:Nat}{p v:Value}(hW:Wd w0 X es w)(i:Nat)(hi:es[i]?=some (.blk bp 70 [p,v]))(hp:NewP p bp):
  Calls Tryz.prog 107 #[selfP bp] w fun e w'=>e=.returned (.tuple #[])∧Wd w0 X (es.set i (.blk bp 70 [selfP bp,v])) w':=by
 have hB:=hW.blk i hi
 have h0:w.cell? ⟨bp,0,none⟩=some p:=hB.cell 0
 have hfz:=hB.frozen 0
 have hj:((Tryz.prog).info? 68).map (·.size)=some 2:=by kernel_rfl
 obtain⟨j,hj,hjs⟩:=Option.map_eq_some_iff.1 hj
 rcases hp with rfl|rfl
 ·have hsh:w.shape? bp=some (70,2):=by unfold World.shape?;rw[show w.heap[bp]?=_ from hB];rfl
  go_enter Tryz.func107,Tryz.ntmps107
  go_wp2
  rw[Lib.run_to_unsafe w ⟨bp,0,none⟩ Tryz.underlying65 Tryz.underlying231 hj (by rw[hjs];decide) hsh (Nat.zero_lt_succ 1)]
  simp only[Result.andThen]
  rw[Oper.upon_value]
  go_wp2
  rw[run_callFunc_extern Tryz.func142 Kr Kr Kr (e:=Extern.AbiNoEscape.same) Kr]
  rw[Lib.run_noEscape]
  simp only[Result.andThen]
  rw[Oper.upon_value]
  go_wp2
  rw[Lib.run_from_unsafe w ⟨bp,0,none⟩ Tryz.underlying231 Tryz.underlying65 hj hsh Kr]
  simp only[Result.andThen]
  rw[Oper.upon_value]
  go_wp2
  go_end0
  exact⟨rfl,hW.set i (o:=0) hi (selfP bp)⟩
 ·go_enter Tryz.func107,Tryz.ntmps107
  go_wp2
  rw[Lib.run_neq_ptr_same w _ Tryz.underlying65 hj]
  go_wp2
  go_end0
  refine⟨rfl,?_⟩
  rw[show es.set i (.blk bp 70 [selfP bp,v])=es by
   apply List.ext_getElem?
   intro k
   rw[List.getElem?_set]
   split
   ·rename_i h;subst h;rw[hi];simp[(List.getElem?_eq_some_iff.1 hi).1]
   ·rfl]
  exact hW
section
variable {w0 w:World} {X:Nat→Prop} {es:List Asn} {bp:Nat} {p:Value} {A A2:Option Addr} {c c2:Nat} {L s:List UInt8} {M:List Int}
theorem pwrite_in(hW:Wd w X [papB bp p A c L,rowU A c L] w)(hp:NewP p bp)(hb:L.length+s.length≤100000):
  Calls Tryz.prog 64 #[.pointer (some ⟨bp,0,none⟩),.string (bstr s)] w fun e w'=>∃A' c',e=.returned (.tuple #[.int .i64 (s.length:Int),.nilIface])∧Wd w X [papB bp (selfP bp) A' c' (L++s),rowU A' c' (L++s)] w':=by
 refine enter Tryz.func64 rfl Tryz.ntmps64 rfl fun a hF=>c_sr<|pq 2 hF rfl fun a hF=>lts<|pq 1 hF rfl fun a hF=>?_;refine pe (e_callA hF rfl rfl en_107 Rl (copy_in hW 0 rfl hp) ?_);rintro e w1 ⟨rfl,hN⟩;replace hW:=hN;refine⟨_,rfl,fun a hF=>?_⟩;refine lts<|pq 4 hF rfl fun a hF=>pv hF hW (y_loadOwn hF rfl 0 rfl rfl Tryz.underlying66 rfl) fun a hF=>pq 1 hF rfl fun a hF=>pe<|e_appendStr hF hW 1 rfl rfl rfl Tryz.underlying66 Tryz.underlying9 inf_5 (show _=(L++s).length by exact(List.length_append).symm) (show _=L++s by exact rfl) (by rw[List.length_append];omega) rfl rfl fun A1 c2 a wc hF hW=>pq 2 hF rfl fun a hF=>pe<|e_store rfl hF hW rfl rfl 0 rfl rfl rfl sz_66 fun wc hW=>lts<|pq 1 hF rfl fun a hF=>pv hF hW (y_lenB hF rfl Tryz.underlying9) fun a hF=>pq 2 hF rfl fun a hF=>l_nil<|t_n<|wp_ret<|ret2 Tryz.results64 hF (rv_t hF rfl) (rv_t hF rfl) ?_
 exact⟨_,_,rfl,hW⟩
theorem pbyte_in(hW:Wd w X [papB bp p A c L,rowU A c L] w)(hp:NewP p bp)(hb:L.length≤100000):
  Calls Tryz.prog 66 #[.pointer (some ⟨bp,0,none⟩),.int .u8 10] w fun e w'=>∃A' c',e=.returned .nilIface∧Wd w X [papB bp (selfP bp) A' c' (L++[10]),rowU A' c' (L++[10])] w':=by
 refine enter Tryz.func66 rfl Tryz.ntmps66 rfl fun a hF=>c_sr<|pq 1 hF rfl fun a hF=>lts<|pq 1 hF rfl fun a hF=>?_;refine pe (e_callA hF rfl rfl en_107 Rl (copy_in hW 0 rfl hp) ?_);rintro e w1 ⟨rfl,hN⟩;replace hW:=hN;refine⟨_,rfl,fun a hF=>?_⟩;refine lts<|pq 4 hF rfl fun a hF=>pv hF hW (y_loadOwn hF rfl 0 rfl rfl Tryz.underlying66 rfl) fun a hF=>pq 1 hF rfl fun a hF=>pe<|e_buildSlice hF hW rfl (fun w=>bs_DskP_66_1_0 _ w) rfl rfl rfl fun b1 a wc hF hW=>pe<|e_append hF hW 2 rfl rfl rfl Tryz.underlying66 inf_5 rfl Dc (rowAt_blk (hW.blk 0 rfl) 1 1 rfl) Oc (show _=(L++[10]).length by simp) (show _=bcs (L++[10]) by rw[bcs_app];rfl) Ox Ml rfl rfl fun A2 c3 a wc hF hW=>pq 2 hF rfl fun a hF=>pe<|e_store rfl hF hW rfl rfl 1 rfl rfl rfl sz_66 fun wc hW=>lts<|pq 1 hF rfl fun a hF=>l_nil<|t_n<|wp_ret<|ret1 Tryz.results66 hF (rv_t hF rfl) ?_;replace hW:=hW.del 0 rfl
 exact⟨_,_,rfl,hW⟩
theorem pwrite_call(hW:Wd w0 X (papB bp p A c L::rowU A c L::es) w)(hp:NewP p bp)(hb:L.length+s.length≤100000):
  Calls Tryz.prog 64 #[.pointer (some ⟨bp,0,none⟩),.string (bstr s)] w fun e w'=>∃A' c',e=.returned (.tuple #[.int .i64 (s.length:Int),.nilIface])∧Wd w0 X (papB bp (selfP bp) A' c' (L++s)::rowU A' c' (L++s)::es) w':=by
 obtain⟨X',hL,hback⟩:=Own.lendI [_,_] hW
 refine(pwrite_in hL hp hb).mono ?_
 rintro e w' ⟨A',c',rfl,hN⟩
 exact⟨A',c',rfl,hback _ _ hN⟩
theorem pbyte_call(hW:Wd w0 X (papB bp p A c L::rowU A c L::es) w)(hp:NewP p bp)(hb:L.length≤100000):
  Calls Tryz.prog 66 #[.pointer (some ⟨bp,0,none⟩),.int .u8 10] w fun e w'=>∃A' c',e=.returned .nilIface∧Wd w0 X (papB bp (selfP bp) A' c' (L++[10])::rowU A' c' (L++[10])::es) w':=by
 obtain⟨X',hL,hback⟩:=Own.lendI [_,_] hW
 refine(pbyte_in hL hp hb).mono ?_
 rintro e w' ⟨A',c',rfl,hN⟩
 exact⟨A',c',rfl,hback _ _ hN⟩
set_option maxHeartbeats 4000000 in
theorem line_in{wd:List UInt8}(hW:Wd w X [papB bp p A c L,rowU A c L] w)(hp:NewP p bp)(hM:∀u,Wd w X [] u→RowAt u 1 A2 M.length (M.map (.int .i64)))(hL:∀u,Wd w X [] u→Lay u)(h64:∀n,n∈M→In64 n)(hm:M.length≤1000)(hwd:wd.length≤10)(hb:L.length≤50000):
  Calls Tryz.prog 18 #[.pointer (some ⟨bp,0,none⟩),.string (bstr wd),.slice A2 M.length c2] w fun e w'=>∃A' c',e=.returned (.tuple #[])∧Wd w X [papB bp (selfP bp) A' c' (L++lineT wd M),rowU A' c' (L++lineT wd M)] w':=by
 have hR:=rfs_ints hM
 have hlen:=fun k=>listT_len (M:=M.take k) fun n hn=>h64 n (List.mem_of_mem_take hn)
 refine enter Tryz.func18 rfl Tryz.ntmps18 rfl fun a hF=>c_sr<|pq 4 hF rfl fun a hF=>?_;refine pe (e_callA hF rfl rfl en_64 Rl (pwrite_call ((hW.front 1 rfl rfl).front 1 rfl rfl) hp Om) ?_);rintro e w1 ⟨A1,c1,rfl,hN⟩;replace hW:=hN;refine⟨_,rfl,fun a hF=>?_⟩;refine l_nil<|t_n<|c_s<|c_sr<|pq 3 hF rfl fun a hF=>l_nil<|t_n<|wp_block ?_;replace hW:=hW.fs [1,1] rfl;refine c_loop (G:=Nat×List UInt8×Option Addr×Nat) (fun⟨k,F,B,d⟩=>[(15,.int .i64 (k:Int))]) (fun⟨k,F,B,d⟩=>[papB bp (selfP bp) B d F,rowU B d F]) (fun⟨k,F,B,d⟩=>k≤M.length∧F=L++wd++listT (M.take k)) (fun⟨k,F,B,d⟩=>M.length - k) (0,L++wd,A1,c1) (hF.ks [0,1,2,13,14] rfl) (Fr.cons hF (t:=15) rfl Rg (Fr.nil hF)) (hW) ?_ ?_
 exact⟨Nat.zero_le _,(List.append_nil _).symm⟩
 clear hF hW
 try clear a
 intro gq a wc hC hF hW
 obtain⟨k,F,B,d⟩:=gq
 dsimp only at hC
 obtain⟨hkl,hF0⟩:=hC
 have hFl:F.length≤L.length+wd.length+21*k:=(by
 have h1:=hlen k
 have h3:=List.length_take (l:=M) (i:=k)
 rw[hF0,List.length_append,List.length_append]
 omega)
 refine c_sr<|pq 1 hF rfl fun a hF=>?_;refine Fr.splitD hF (fun h1 hF=>?_) (fun h1 hF=>?_);refine l_nil<|t_n<|c_s<|c_t hF rfl<|wp_skip<|t_n<|c_s<|wp_block ?_
 have hk:k<M.length:=Om
 refine c_sr<|pv hF hW (y_indexS hF rfl rfl Od Tryz.underlying41 sz_3 (fun w h=>(hR).wd h)) fun a hF=>pv hF hW (y_loadRow hF rfl (fun w h=>(hR).wd h) Od rfl Tryz.underlying3 rfl) fun a hF=>pq 1 hF rfl fun a hF=>l_nil<|t_n ?_
 have hn:=h64 _ (show M.getD k 0∈M from mem_getD 0 hk)
 have h2:=itoa_len hn
 refine c_d mixed_ok hW ((hW.ds [0,0] rfl)) ?_
 clear hW;intro wc hW hS
 refine dq 4 [0,1,2,3] hF hS rfl fun a hF=>d_1 4 Kr<|d_op rfl rfl<|e_callK hF hW rfl rfl en_65 Rl (itoa_own (hL _ hW.none_) _ hn.1 hn.2) fun a w1 hW hF=>ai (hW.ds [0,0] rfl) fun hS=>dv 5 rfl hF hS (y_catB hF rfl rfl (by unfold maxLen;simp only[List.length_cons,List.length_nil];omega)) fun a hF=>d_1 6 Kr ?_;refine d_op rfl rfl (e_callA hF rfl rfl en_64 Rl (pwrite_call ((hW.front 1 rfl rfl).front 1 rfl rfl) (.inr rfl) (by simp only[List.length_append,List.length_cons,List.length_nil];omega)) ?_);rintro e w1 ⟨A3,c3,rfl,hN⟩;replace hW:=hN;refine⟨_,rfl,fun a hF=>?_⟩;refine ai (hW.ds [0,0] rfl) fun hS=>?_;clear hS;refine d_nil Kr<|b_n<|t_n<|c_r<|pv hF hW (y_add hF rfl rfl (IntWalk.i64_in _ Om)) fun a hF=>pq 1 hF rfl fun a hF=>l_nil<|t_n ?_;refine⟨(k+1,F++(32::Lib.itoa (M.getD k 0)),A3,c3),?_,?_,?_,?_⟩
 exact⟨by omega,by rw[hF0,listT_succ hk,List.append_assoc]⟩
 first|omega|(dsimp only;omega)
 exact hF.a1 rfl rfl
 exact hW
 refine l_nil<|t_n<|c_s<|c_f hF rfl<|wp_exit<|t_x<|t_x<|b_h<|t_n<|c_r<|pq 3 hF rfl fun a hF=>?_;refine pe (e_callA hF rfl rfl en_66 Rl (pbyte_call ((hW.front 1 rfl rfl).front 1 rfl rfl) (.inr rfl) Om) ?_);rintro e w1 ⟨A4,c4,rfl,hN⟩;replace hW:=hN;refine⟨_,rfl,fun a hF=>?_⟩;refine l_nil<|end0 Tryz.results18 hF ?_
 obtain rfl:k=M.length:=Om
 rw[List.take_length] at hF0
 subst hF0
 exact⟨A4,c4,rfl,by rw[show L++lineT wd M=L++wd++listT M++[10] by simp[lineT]];exact hW⟩
theorem line_call{wd:List UInt8}(hW:Wd w0 X (papB bp p A c L::rowU A c L::es) w)(hp:NewP p bp)(hM:∀u,Wd w0 X es u→RowAt u 1 A2 M.length (M.map (.int .i64)))(hL:∀u,Wd w0 X es u→Lay u)(h64:∀n,n∈M→In64 n)(hm:M.length≤1000)(hwd:wd.length≤10)(hb:L.length≤50000):
  Calls Tryz.prog 18 #[.pointer (some ⟨bp,0,none⟩),.string (bstr wd),.slice A2 M.length c2] w fun e w'=>∃A' c',e=.returned (.tuple #[])∧Wd w0 X (papB bp (selfP bp) A' c' (L++lineT wd M)::rowU A' c' (L++lineT wd M)::es) w':=by
 obtain⟨X',hL',hback⟩:=Own.lendI [_,_] hW
 refine(line_in hL' hp (fun u h=>hM u (hback _ _ h)) (fun u h=>hL u (hback _ _ h)) h64 hm hwd hb).mono ?_
 rintro e w' ⟨A',c',rfl,hN⟩
 exact⟨A',c',rfl,hback _ _ hN⟩
end
end
section
open Go.ChangeShapes Go.WideShapes Go.ChangeAt Go.RowKit
set_option maxRecDepth 100000
theorem pap_row{w0 w:World}{es:List Asn}(hW:Wd w0 NoB es w)(i:Nat){A:Option Addr}{c:Nat}{L:List UInt8}(hi:es[i]?=some (rowU A c L))(h0:L≠[]):
  ∃g cur,A=some ⟨g,0,none⟩∧w0.heap.size≤g∧w.heap[g]?=some (.cells cur 5 (0,0))∧L.length≤c∧c≤maxLen∧cur.size=c∧cur.toList.take L.length=bcs L:=by
 obtain⟨F,hA,hF⟩:=Own.get es _ i _ hW.own hi
 have h0':L.length≠0:=fun h=>h0 (List.eq_nil_of_length_eq_zero h)
 rcases hA.1.2 with⟨-,h2⟩|⟨g,cap,cur,hv,hg,hh,hnc,hcm,hcs,htk⟩
 ·exact absurd h2 h0'
 ·injection hv with h1 h2 h3
  subst h1 h3
  have:=hF g (hA.2 g rfl)
  refine⟨g,cur,rfl,Nat.le_of_not_lt fun h=>this.1 ⟨h,id⟩,hh,hnc,hcm,by omega,by rwa [Nat.mul_one] at htk⟩
set_option maxHeartbeats 2000000 in
theorem pstring{w0 w:World}{es:List Asn}{bp:Nat}{p:Value}{A:Option Addr}{c:Nat}{L:List UInt8}(hW:Wd w0 NoB (papB bp p A c L::rowU A c L::es) w)(h0:L≠[]):
  Calls Tryz.prog 20 #[.pointer (some ⟨bp,0,none⟩)] w fun e w'=>e=.returned (.string (bstr L))∧Wd w0 NoB [] w':=by
 obtain⟨g,cur,rfl,hbg,hg,hnc,hcm,hcs,htk⟩:=pap_row hW 1 rfl h0
 have hl0:L.length≠0:=fun h=>h0 (List.eq_nil_of_length_eq_zero h)
 have hB:=hW.blk 0 rfl
 have c1:w.drew.cell? ⟨bp,1,none⟩=some (.slice (some ⟨g,0,none⟩) L.length c):=hB.cell 1
 have hSD:(Builtin.unsafeSliceData_ #[66] 154 #[.slice (some ⟨g,0,none⟩) L.length c]).run Tryz.prog w.drew=.ok (.pointer (some ⟨g,0,none⟩)) w.drew:=Lib.run_unsafeSliceData_row _ _ _ _ _ _ Om
 have hUS:(Builtin.unsafeString_ #[154,3] 9 #[.pointer (some ⟨g,0,none⟩),.int .i64 L.length]).run Tryz.prog w.drew=.ok (.string ⟨L.toArray⟩) (w.drew.freeze ⟨g,0,none⟩ L.length):=by
  have hg':w.drew.heap[g]?=some (.cells cur 5 (0,0)):=hg
  refine Lib.run_unsafeString_row w.drew _ _ _ 5 Tryz.underlying154 Kr g cur.size (by simp[World.shape?,hg']) L h0 Om (by unfold maxLen at hcm;omega) ?_
  intro j x hx
  have h1:(bcs L)[j]?=some (.int .u8 x.toNat):=by rw[bcs,List.getElem?_map,hx];rfl
  rw[←htk,List.getElem?_take] at h1
  split at h1
  ·rw[show((⟨g,0,none⟩:Addr).add j)=⟨g,j,none⟩ by simp[Addr.add];omega,Lib.cell_of_heap hg',←h1,Array.getElem?_toList]
  ·cases h1
 go_enter Tryz.func20,Tryz.ntmps20
 go_wp2
 go_region
 all_goals(go_wp2;go_ret;exact⟨rfl,(Wd.start w0 NoB).kept (Lib.below_freeze (Below.drew hW.below) (p:=⟨g,0,none⟩) hbg _)⟩)
def endL(n:Int):List UInt8:=if n=1 then [115,116,111,112,112,101,100] else if n=2 then [102,97,117,108,116,101,100] else [114,117,110,115]
def deskTxt(is:Bool)(L:List Int)(W:Wrl):List UInt8:=lineT (if is then [115,111,117,110,100] else [108,101,97,107]) L++W.cells.flatMap fun c=>lineT (endL c.end_) c.out
theorem endL_len(n:Int):(endL n).length≤7:=by
 unfold endL
 split
 ·exact Nat.le_refl _
 ·split<;>decide
theorem end_any(n:Int)(w:World):Calls Tryz.prog 19 #[.int .i64 n] w fun e w'=>e=.returned (.string (bstr (endL n)))∧Below w.heap.size w w':=by
 refine enter Tryz.func19 rfl Tryz.ntmps19 rfl fun a hF=>?_
 have hW:=Wd.start w NoB
 refine c_sr<|pq 1 hF rfl fun a hF=>l_nil<|t_n<|c_s<|c_sr<|pq 1 hF rfl fun a hF=>l_nil<|t_n<|wp_block<|c_sr<|pq 1 hF rfl fun a hF=>?_;refine Fr.splitD hF (fun h1 hF=>?_) (fun h1 hF=>?_);refine pq 1 hF rfl fun a hF=>l_nil<|t_n<|c_t hF rfl<|c_sr<|pq 1 hF rfl fun a hF=>l_nil<|t_n<|wp_ret<|b_r<|t_r<|ret1 Tryz.results19 hF (rv_t hF rfl) ?_
 exact⟨by rw[show n=1 by omega];rfl,hW.below⟩
 refine pq 1 hF rfl fun a hF=>l_nil<|t_n<|c_f hF rfl<|c_sr<|pq 1 hF rfl fun a hF=>?_;refine Fr.splitD hF (fun h2 hF=>?_) (fun h2 hF=>?_);refine pq 1 hF rfl fun a hF=>l_nil<|t_n<|c_t hF rfl<|c_sr<|pq 1 hF rfl fun a hF=>l_nil<|t_n<|wp_ret<|b_r<|t_r<|ret1 Tryz.results19 hF (rv_t hF rfl) ?_
 exact⟨by rw[show n=2 by omega];rfl,hW.below⟩
 refine pq 1 hF rfl fun a hF=>l_nil<|t_n<|c_f hF rfl<|wp_skip<|b_n<|t_n<|c_sr<|pq 1 hF rfl fun a hF=>l_nil<|t_n<|wp_ret<|ret1 Tryz.results19 hF (rv_t hF rfl) ?_
 exact⟨by rw[endL,if_neg (show¬n=1 by omega),if_neg (show¬n=2 by omega)];rfl,hW.below⟩
theorem listed_any{A:Option Addr}{c:Nat}{M:List Int}{w:World}(hM:Ints w (.slice A M.length c) M)(h64:∀n,n∈M→In64 n)(hm:M.length≤1000):Calls Tryz.prog 25 #[.slice A M.length c] w fun e w'=>e=.returned (.string (bstr (listT M)))∧Below w.heap.size w w':=by
 have hR:=hM.rf
 have hlen:=fun k=>listT_len (M:=M.take k) fun n hn=>h64 n (List.mem_of_mem_take hn)
 refine enter Tryz.func25 rfl Tryz.ntmps25 rfl fun a hF=>?_
 have hW:=Wd.start w NoB
 refine c_sr<|pq 1 hF rfl fun a hF=>lts<|pq 1 hF rfl fun a hF=>l_nil<|t_n<|c_s<|c_sr<|pq 1 hF rfl fun a hF=>l_nil<|t_n<|wp_block ?_;refine c_loop (G:=Nat) (fun k:Nat=>[(4,.int .i64 (k:Int)),(3,.string (bstr (listT (M.take k))))]) (fun k:Nat=>[]) (fun k:Nat=>k≤M.length) (fun k:Nat=>M.length - k) 0 (hF.ks [0,2] rfl) (Fr.cons hF (t:=4) rfl Rg (Fr.cons hF (t:=3) rfl Rg (Fr.nil hF))) (hW) ?_ ?_
 exact Nat.zero_le _
 clear hF hW
 try clear a
 intro k a wc hC hF hW;refine c_s<|c_sr<|pq 4 hF rfl fun a hF=>?_;refine Fr.splitD hF (fun h1 hF=>?_) (fun h1 hF=>?_);refine l_nil<|t_n<|c_t hF rfl<|wp_skip<|t_n<|c_s<|wp_block ?_
 have hk:k<M.length:=Om
 have hn:=h64 _ (show M.getD k 0∈M from mem_getD 0 hk)
 have h1:=hlen k
 have h2:=itoa_len hn
 have h3:=List.length_take (l:=M) (i:=k)
 refine c_r<|pq 1 hF rfl fun a hF=>pv hF hW (y_catB hF rfl rfl (by unfold maxLen;rw[List.length_cons,List.length_nil];omega)) fun a hF=>pq 2 hF rfl fun a hF=>pv hF hW (y_indexS hF rfl rfl Od Tryz.underlying41 sz_3 (fun w h=>(hR).wd h)) fun a hF=>pv hF hW (y_loadRow hF rfl (fun w h=>(hR).wd h) Od rfl Tryz.underlying3 rfl) fun a hF=>pe<|e_callK hF hW rfl rfl en_74 Rl (digits_all hn _) fun a w1 hW hF=>pv hF hW (y_catB hF rfl rfl (by unfold maxLen;(try simp only[List.length_append,List.length_cons,List.length_nil]);omega)) fun a hF=>pq 1 hF rfl fun a hF=>l_nil<|b_n<|t_n<|c_r<|pq 1 hF rfl fun a hF=>pv hF hW (y_add hF rfl rfl (IntWalk.i64_in _ Om)) fun a hF=>pq 1 hF rfl fun a hF=>l_nil<|t_n ?_;refine⟨(k+1),?_,?_,?_,?_⟩
 omega
 first|omega|(dsimp only;omega)
 focus
  exact Fr.app (Fr.cons hF (t:=4) rfl (by first|rfl|(exact congrArg (fun z=>Value.string (bstr z)) (by rw[listT_succ (show k<M.length by omega)];simp))|(simp;done)|omega) (Fr.cons hF (t:=3) rfl (by first|rfl|(exact congrArg (fun z=>Value.string (bstr z)) (by rw[listT_succ (show k<M.length by omega)];simp))|(simp;done)|omega) (Fr.nil hF))) (hF.ks [0,2] rfl)
 exact hW
 refine l_nil<|t_n<|c_f hF rfl<|wp_exit<|t_x<|t_x<|b_h<|t_n<|c_sr<|pq 2 hF rfl fun a hF=>l_nil<|t_n<|wp_ret<|ret1 Tryz.results25 hF (rv_t hF rfl) ?_
 obtain rfl:k=M.length:=Om
 exact⟨by rw[List.take_length],hW.below⟩
end
end Go.Proofs.YtndcjmopebcdgaaGreatDoor
