/- desk.Judge: a system's judgement as text. -/
import Derived.Test.YtndcjmopebcdgaaGreatDoorSkA
import Derived.Test.YtndcjmopebcdgaaGreatDoorDskB
import Derived.Test.YtndcjmopebcdgaaGreatDoorSkF
import Derived.Test.YtndcjmopebcdgaaGreatDoorCertF
import Derived.Test.YtndcjmopebcdgaaGreatDoorImgR
import Derived.Test.YtndcjmopebcdgaaGreatDoorSkI
set_option linter.unusedSimpArgs false
set_option linter.unusedVariables false
namespace Go.Proofs.YtndcjmopebcdgaaGreatDoor
open Go.ChangeShapes Go.WideShapes Go.ChangeAt Go.RowKit
theorem bu_DskJ_70_(w:World):(Instr.build 70 #[]).run Tryz.prog w=.ok (.agg #[(.pointer none),(.slice none 0 0)]) w:=by kernel_rfl
set_option maxRecDepth 100000
theorem road_in{cs:List Chn}{n a b:Nat}{r:List Nat}(h:Road cs n a b r):a<n→∀x,x∈r→x<n:=by
 induction h with
 |one a=>exact fun ha x hx=>by rw[List.mem_singleton.1 hx];exact ha
 |step h1 h2 h3 ih=>exact fun ha x hx=>(List.mem_cons.1 hx).elim (fun e=>by rw[e];exact ha) (ih h2 x)
theorem certIs_in{cs:List Chn}{n:Nat}{P:List Edg}{is:Bool}{L:List Int}{S:List (List Int)}(h:CertIs cs n P is L S)(hn:n≤6):NumIn L∧L.length≤6:=by
 rcases h with⟨-,-,rfl,-⟩|⟨-,u,v,hu,hv,-,-,rfl,-⟩
 ·exact⟨NumIn.nil,Nat.zero_le _⟩
 ·cases hp:pathOf cs n u v with
  |none=>exact⟨NumIn.nil,Nat.zero_le _⟩
  |some W=>
   refine⟨fun m hm=>?_,by have:=pathOf_len hp;simpa using Nat.le_trans this hn⟩
   obtain⟨x,hx,rfl⟩:=List.mem_map.1 hm
   have:=road_in (pathOf_some hp).1 hu x hx
   exact⟨by show _≤(x:Int);omega,by show(x:Int)≤_;omega⟩
def JudgeIs(l s:List UInt8)(n:Int)(T:List UInt8)(E:Int):Prop:=
 (readErr l≠0∧T=[]∧E=readErr l)∨(readErr l=0∧
 (((∀Q,¬RSays s Q)∧T=[]∧E=1)∨∃P,RSays s P∧
 ((certErr (readTo l) P≠0∧T=[]∧E=certErr (readTo l) P)∨(certErr (readTo l) P=0∧
 ((¬(0≤n∧n≤300)∧T=[]∧E=3)∨((0≤n∧n≤300)∧E=0∧∃is L S,CertIs (readTo l).chans (readTo l).parts.length P is L S∧T=deskTxt is L (runW (readTo l) n.toNat)))))))
theorem JudgeIs.uniq{l s T T':List UInt8}{n E E':Int}(h:JudgeIs l s n T E)(h':JudgeIs l s n T' E'):T=T'∧E=E':=by
 rcases h with⟨h1,rfl,rfl⟩|⟨h1,h⟩<;>rcases h' with⟨k1,rfl,rfl⟩|⟨k1,h'⟩
 ·exact⟨rfl,rfl⟩
 ·exact absurd k1 h1
 ·exact absurd h1 k1
 ·rcases h with⟨h2,rfl,rfl⟩|⟨P,hP,h⟩<;>rcases h' with⟨k2,rfl,rfl⟩|⟨Q,hQ,h'⟩
  ·exact⟨rfl,rfl⟩
  ·exact absurd hQ (h2 Q)
  ·exact absurd hP (k2 P)
  ·obtain rfl:=hP.unique hQ
   rcases h with⟨h3,rfl,rfl⟩|⟨h3,h⟩<;>rcases h' with⟨k3,rfl,rfl⟩|⟨k3,h'⟩
   ·exact⟨rfl,rfl⟩
   ·exact absurd k3 h3
   ·exact absurd h3 k3
   ·rcases h with⟨h4,rfl,rfl⟩|⟨h4,rfl,is,L,S,h5,rfl⟩<;>rcases h' with⟨k4,rfl,rfl⟩|⟨k4,rfl,is',L',S',k5,rfl⟩
    ·exact⟨rfl,rfl⟩
    ·exact absurd k4 h4
    ·exact absurd h4 k4
    ·obtain⟨rfl,rfl,-⟩:=h5.uniq k5
     exact⟨rfl,rfl⟩
theorem read_0{l:List UInt8}(h:readErr l=0):readL l=some (readTo l):=by
 unfold readErr at h
 unfold readTo
 split at h
 ·cases h
 ·rename_i h8
  rw[if_neg h8]
  split at h
  ·rename_i hs
   obtain⟨t,ht⟩:=Option.isSome_iff_exists.1 hs
   rw[ht];rfl
  ·cases h
def cellsT(W:List Cel):List UInt8:=W.flatMap fun c=>lineT (endL c.end_) c.out
theorem cellsT_succ{W:List Cel}{k:Nat}(hk:k<W.length):cellsT (W.take (k+1))=cellsT (W.take k)++lineT (endL (W.getD k Cel.zero).end_) (W.getD k Cel.zero).out:=by
 unfold cellsT
 rw[List.take_succ_eq_append_getElem hk,List.flatMap_append,List.getD,List.getElem?_eq_getElem hk]
 simp
theorem lineT_len{wd:List UInt8}{M:List Int}(h:NumIn M):(lineT wd M).length≤wd.length+21*M.length+1:=by
 have:=listT_len h
 unfold lineT
 rw[List.length_append,List.length_append,List.length_cons,List.length_nil]
 omega
theorem cellsT_len{W:List Cel}(h:∀c,c∈W→NumIn c.out∧c.out.length≤16):(cellsT W).length≤344*W.length:=by
 induction W with
 |nil=>exact Nat.le_refl _
 |cons c r ih=>
  have h1:=ih fun d hd=>h d (List.mem_cons_of_mem _ hd)
  obtain⟨h2,h3⟩:=h c List.mem_cons_self
  have h4:=lineT_len (wd:=endL c.end_) h2
  have h5:=endL_len c.end_
  unfold cellsT at h1⊢
  rw[List.flatMap_cons,List.length_append,List.length_cons]
  omega
theorem run_told{l:List UInt8}{n:Int}(h:readErr l=0)(hn:0≤n∧n≤300):∀c,c∈(runW (readTo l) n.toNat).cells→(NumIn c.out∧c.out.length≤16)∧0≤c.end_∧c.end_≤2:=fun c hc=>by
 obtain⟨h1,h2⟩:=readL_in (read_0 h)
 have h3:=run_short h2 n.toNat Om c hc
 exact⟨⟨((runW_in h1 n.toNat).cells c hc).out,h3.1⟩,h3.2⟩
def headT(is:Bool)(L:List Int):List UInt8:=lineT (if is then [115,111,117,110,100] else [108,101,97,107]) L
theorem headT_len{is:Bool}{L:List Int}(h:NumIn L)(h6:L.length≤6):(headT is L).length≤140:=by
 have:=lineT_len (wd:=if is then [115,111,117,110,100] else [108,101,97,107]) h
 unfold headT
 cases is
 ·have e:(if false=true then [115,111,117,110,100] else [108,101,97,107]:List UInt8).length=4:=rfl
  omega
 ·have e:(if true=true then [115,111,117,110,100] else [108,101,97,107]:List UInt8).length=5:=rfl
  omega
theorem headT_sound{cs:List Chn}{m:Nat}{P:List Edg}{L:List Int}{S:List (List Int)}{is:Bool}(h:CertIs cs m P is L S)(hi:is=true):lineT [115,111,117,110,100] []=headT is L:=by
 subst hi
 rcases h with⟨-,-,rfl,-⟩|⟨h,-⟩
 ·rfl
 ·cases h
theorem headT_leak{is:Bool}{L:List Int}(hi:is=false):lineT [108,101,97,107] L=headT is L:=by
 subst hi
 rfl
set_option maxHeartbeats 16000000 in
theorem judge_any(l s:List UInt8)(n:Int)(hs:s.length≤1048576){w:World}(hL:Lay w):Calls Tryz.prog 5 #[.string (bstr l),.string (bstr s),.int .i64 n] w fun e w'=>∃T E,e=.returned (.tuple #[.string (bstr T),.int .i64 E])∧JudgeIs l s n T E∧Below w.heap.size w w':=by
 have hce:=fun(x:SysD) (P:List Edg) (A:Option Addr) (c:Nat) (w1:World) (hx:x.At w1) (hm:May_ w1 A c P)=>certify_any hx hm (by have:=Flat.len hm;omega)
 have hkr:=fun(x:SysD) (w1:World) (hx:x.At w1)=>kernRun_any hx n
 unfold CertBack at hce
 unfold WrlErr at hkr
 simp only[SysD.val_eq,WD.val_eq] at hce hkr
 refine enter Tryz.func5 rfl Tryz.ntmps5 rfl fun a hF=>?_
 have hW:=Wd.start w NoB
 refine c_sr<|pq 2 hF rfl fun a hF=>lts<|pq 1 hF rfl fun a hF=>?_;refine pe (e_callA hF rfl rfl en_16 Rl (imageRead_any) ?_);rintro e w1 ⟨x,rfl,hx,hb,hr⟩;replace hW:=hW.gotR hb hr;refine⟨_,rfl,fun a hF=>?_⟩;replace hF:=Fr.cast (v':=.tuple #[.agg #[.slice x.pa x.parts.length x.pc,.slice x.ha x.chans.length x.hc,.slice x.sa x.slots.length x.sc],.int .i64 (readErr l)]) rfl hF;refine pq 3 hF rfl fun a hF=>pe<|e_alloc hF hW ze_39 rfl rfl rfl fun b1 a wc hF hW=>pe<|e_storeAll rfl hF hW rfl rfl 0 rfl rfl rfl Kr sz_39 fun wc hW=>pq 1 hF rfl fun a hF=>l_nil<|t_n<|c_s<|c_sr<|pq 2 hF rfl fun a hF=>?_;refine Fr.splitD hF (fun h2 hF=>?_) (fun h2 hF=>?_);refine l_nil<|t_n<|c_t hF rfl<|c_sr<|pq 3 hF rfl fun a hF=>l_nil<|t_n<|wp_ret<|t_r<|ret2 Tryz.results5 hF (rv_t hF rfl) (rv_t hF rfl) ?_
 exact⟨[],readErr l,rfl,.inl ⟨by omega,rfl,rfl⟩,hW.below⟩
 refine l_nil<|t_n<|c_f hF rfl<|wp_skip<|t_n<|c_sr<|pq 1 hF rfl fun a hF=>?_;refine pe (e_callA hF rfl rfl en_7 Rl (deskRules_any s hs (hL.wd hW)) ?_);rintro e w1 ⟨P,A,c,E,rfl,hRu,hb,hr⟩;replace hW:=hW.gotR hb hr;refine⟨_,rfl,fun a hF=>?_⟩;refine pq 3 hF rfl fun a hF=>pe<|e_alloc hF hW ze_27 rfl rfl rfl fun b3 a wc hF hW=>pe<|e_storeAll rfl hF hW rfl rfl 0 rfl rfl rfl Kr sz_27 fun wc hW=>pq 1 hF rfl fun a hF=>l_nil<|t_n<|c_s<|c_sr<|pq 2 hF rfl fun a hF=>?_;refine Fr.splitD hF (fun h4 hF=>?_) (fun h4 hF=>?_);refine l_nil<|t_n<|c_t hF rfl<|c_sr<|pq 3 hF rfl fun a hF=>l_nil<|t_n<|wp_ret<|t_r<|ret2 Tryz.results5 hF (rv_t hF rfl) (rv_t hF rfl) ?_
 rcases hRu with⟨h,-⟩|⟨rfl,-,hno⟩
 omega
 exact⟨[],1,rfl,.inr ⟨by omega,.inl ⟨hno,rfl,rfl⟩⟩,hW.below⟩
 refine l_nil<|t_n<|c_f hF rfl<|wp_skip<|t_n<|c_sr<|pv hF hW (y_loadAll hF rfl 2 rfl Tryz.underlying39 rfl sz_39) fun a hF=>pv hF hW (y_loadAll hF rfl 0 rfl Tryz.underlying27 rfl sz_27) fun a hF=>?_;refine pe (e_callA hF rfl rfl en_11 Rl (hce x P A c _ (hW.res 3 rfl) (hW.res 1 rfl)) ?_);rintro e w1 ⟨qs,B,d,L,A1,c1,is,rfl,hI,hI2,hb,hr⟩;replace hW:=hW.gotR hb hr;refine⟨_,rfl,fun a hF=>?_⟩;refine pq 5 hF rfl fun a hF=>pe<|e_alloc hF hW ze_46 rfl rfl rfl fun b5 a wc hF hW=>pe<|e_storeAll rfl hF hW rfl rfl 0 rfl rfl rfl Kr sz_46 fun wc hW=>pq 3 hF rfl fun a hF=>l_nil ?_;replace hF:=hF.ks [0,1,2,6,7,8,9,10,12,13,24,32] rfl;refine t_n<|c_s<|c_sr<|pq 2 hF rfl fun a hF=>?_;refine Fr.splitD hF (fun h6 hF=>?_) (fun h6 hF=>?_);refine l_nil<|t_n<|c_t hF rfl<|c_sr<|pq 3 hF rfl fun a hF=>l_nil<|t_n<|wp_ret<|t_r<|ret2 Tryz.results5 hF (rv_t hF rfl) (rv_t hF rfl) ?_
 rcases hRu with⟨-,hRS⟩|⟨h,-⟩
 exact⟨[],certErr x.sys P,rfl,.inr ⟨by omega,.inr ⟨P,hRS,.inl (by rw[←hx];exact⟨by omega,rfl,rfl⟩)⟩⟩,hW.below⟩
 omega
 refine l_nil<|t_n<|c_f hF rfl<|wp_skip<|t_n<|c_sr<|pv hF hW (y_loadAll hF rfl 4 rfl Tryz.underlying39 rfl sz_39) fun a hF=>pq 1 hF rfl fun a hF=>?_;refine pe (e_callA hF rfl rfl en_17 Rl (hkr x _ (hW.res 5 rfl)) ?_);rintro e w1 ⟨y,rfl,hy,hN⟩;replace hW:=hW.comb3 hN;replace hW:=hW.own_world;refine⟨_,rfl,fun a hF=>?_⟩;refine pq 3 hF rfl fun a hF=>pe<|e_alloc hF hW ze_61 rfl rfl rfl fun b7 a wc hF hW=>pe<|e_storeAll rfl hF hW rfl rfl 0 rfl rfl rfl Kr sz_61 fun wc hW=>pq 1 hF rfl fun a hF=>l_nil<|t_n<|c_s<|c_sr<|pq 2 hF rfl fun a hF=>?_;refine Fr.splitD hF (fun h8 hF=>?_) (fun h8 hF=>?_);refine l_nil<|t_n<|c_t hF rfl<|c_sr<|pq 3 hF rfl fun a hF=>l_nil<|t_n<|wp_ret<|t_r<|ret2 Tryz.results5 hF (rv_t hF rfl) (rv_t hF rfl) ?_
 rcases hRu with⟨-,hRS⟩|⟨h,-⟩
 have hc0:certErr x.sys P=0:=Om
 obtain⟨hk,-⟩:=certErr_zero hc0
 have hn:¬(0≤n∧n≤300):=fun h=>by have:=runErr_0 hk h;omega
 have h3:=runErr_3 hk hn
 exact⟨[],runErr x.sys n,rfl,.inr ⟨by omega,.inr ⟨P,hRS,.inr (by rw[←hx];exact⟨hc0,.inl ⟨hn,rfl,h3⟩⟩)⟩⟩,hW.below⟩
 omega
 refine l_nil<|t_n<|c_f hF rfl<|wp_skip<|t_n<|c_sr<|pv hF hW (y_build hF rfl (fun w=>bu_DskJ_70_ w)) fun a hF=>pe<|e_box hF hW rfl rfl rfl rfl fun b9 a wc hF hW=>?_
 have hre:readErr l=0:=Om
 have hc0:certErr x.sys P=0:=Om
 have hr0:runErr x.sys n=0:=Om
 obtain⟨hk,-⟩:=certErr_zero hc0
 have hn:0≤n∧n≤300:=Classical.byContradiction fun h=>by rw[runErr_3 hk h] at hr0;cases hr0
 have hyw:y.wrl=runW (readTo l) n.toNat:=by rw[hy,runOr,if_pos hr0,hx]
 have hIs:=hI hc0
 obtain⟨⟨hz1,hz2⟩,-⟩:=sizes_get (chkSys_zero hk).1
 have hLin:=certIs_in hIs Om
 have hhd:=headT_len (is:=is) hLin.1 hLin.2
 have hcl:y.cells.map CD.c=(runW (readTo l) n.toNat).cells:=congrArg Wrl.cells hyw
 have htold:=run_told hre hn
 rw[←hcl] at htold
 have hyl:y.cells.length≤6:=(by
 have h1:=(runW_right (hx▸hk) n.toNat Om).1.cl
 rw[←hcl,List.length_map,←hx,sys_parts_len] at h1
 omega)
 replace hW:=hW.nil_row 5 1;refine pq 1 hF rfl fun a hF=>l_nil<|t_n ?_;refine c_cut (G:=Option Addr×Nat) (fun⟨B3,d3⟩=>[]) (fun⟨B3,d3⟩=>[papB b9 (selfP b9) B3 d3 (headT is L),rowU B3 d3 (headT is L)]) (fun⟨B3,d3⟩=>True) (hF.ks [0,1,2,6,7,8,9,10,12,13,14,15,24,32,43,52] rfl) (hW.ds [0,0] rfl) ?_ ?_;refine c_sr<|pq 1 hF rfl fun a hF=>?_;refine Fr.splitB hF (fun h10 hF=>?_) (fun h10 hF=>?_);refine l_nil<|t_n<|c_t hF rfl<|c_r<|pq 1 hF rfl fun a hF=>?_;refine pe (e_callA hF rfl rfl en_18 Rl (line_call (L:=[]) (M:=[]) ((hW.front 0 rfl rfl).front 1 rfl rfl) (.inl rfl) (fun _ _=>Ints.nil_.rowAt) (fun u h=>hL.wd h) (fun _ h=>by cases h) Dc Dc Dc) ?_);rintro e w1 ⟨A3,c3,rfl,hN⟩
 rw[List.nil_append,headT_sound hIs Am] at hN
 replace hW:=hN;refine⟨_,rfl,fun a hF=>?_⟩;refine l_nil<|t_n ?_;refine⟨(A3,c3),?_,?_,?_⟩
 exact hF.al rfl
 exact hW
 trivial
 refine l_nil<|t_n<|c_f hF rfl<|c_r<|pq 2 hF rfl fun a hF=>?_;refine pe (e_callA hF rfl rfl en_18 Rl (line_call (L:=[]) (M:=L) ((hW.front 0 rfl rfl).front 1 rfl rfl) (.inl rfl) (fun u h=>(by first|exact(h.res 0 rfl).2|exact(h.res 1 rfl).2|exact(h.res 2 rfl).2|exact(h.res 3 rfl).2:Ints u (.slice A1 L.length c1) L).rowAt) (fun u h=>hL.wd h) hLin.1 Om Dc Dc) ?_);rintro e w1 ⟨A3,c3,rfl,hN⟩
 rw[List.nil_append,headT_leak Am] at hN
 replace hW:=hN;refine⟨_,rfl,fun a hF=>?_⟩;refine l_nil<|t_n ?_;refine⟨(A3,c3),?_,?_,?_⟩
 exact hF.al rfl
 exact hW
 trivial
 clear hF hW
 try clear a
 intro gq a wc hC hF hW
 obtain⟨B3,d3⟩:=gq
 dsimp only at hC
 clear hC;refine c_s<|c_sr<|pq 1 hF rfl fun a hF=>pv hF hW (y_loadOwn hF rfl 2 rfl rfl Tryz.underlying58 rfl) fun a hF=>pq 2 hF rfl fun a hF=>l_nil<|t_n<|wp_block ?_;replace hW:=hW.fs [1,1] rfl;refine c_loop (G:=Nat×List UInt8×Option Addr×Nat) (fun⟨k,F,B4,d4⟩=>[(65,.int .i64 (k:Int))]) (fun⟨k,F,B4,d4⟩=>[papB b9 (selfP b9) B4 d4 F,rowU B4 d4 F]) (fun⟨k,F,B4,d4⟩=>k≤y.cells.length∧F=headT is L++cellsT ((y.cells.map CD.c).take k)) (fun⟨k,F,B4,d4⟩=>y.cells.length - k) (0,headT is L,B3,d3) (hF.ks [0,1,2,6,7,8,9,10,12,13,14,15,24,32,43,52,63,64] rfl) (Fr.cons hF (t:=65) rfl Rg (Fr.nil hF)) (hW) ?_ ?_
 exact⟨Nat.zero_le _,(List.append_nil _).symm⟩
 clear hF hW
 try clear a
 intro gq a wc hC hF hW
 obtain⟨k,F,B4,d4⟩:=gq
 dsimp only at hC
 obtain⟨hkl,hF0⟩:=hC
 refine c_sr<|pq 1 hF rfl fun a hF=>?_;refine Fr.splitD hF (fun h11 hF=>?_) (fun h11 hF=>?_);refine l_nil<|t_n<|c_s<|c_t hF rfl<|wp_skip<|t_n<|c_s<|wp_block ?_
 have hkk:k<y.cells.length:=Om
 have hFl:F.length≤140+344*k:=(by
 have h1:=cellsT_len (W:=(y.cells.map CD.c).take k) fun c hc=>(htold c (List.mem_of_mem_take hc)).1
 have h2:=List.length_take (l:=y.cells.map CD.c) (i:=k)
 rw[hF0,List.length_append]
 omega)
 obtain⟨z,hz⟩:∃q,y.cells.getD k CD0=q:=⟨_,rfl⟩
 have hcat:∀u,y.At u→z.At u:=fun u h=>hz▸h.cell hkk
 have hzc:(y.cells.map CD.c).getD k Cel.zero=z.c:=by rw[←hz];simp only[List.getD,List.getElem?_map,List.getElem?_eq_getElem hkk];rfl
 have hzt:=htold z.c (by rw[←hzc];exact mem_getD _ (by rw[List.length_map];exact hkk))
 obtain⟨⟨at_,regs,mem,rd,out,en⟩,hwf,qa,qk⟩:=z
 obtain⟨r0,r1,r2,r3,hregs⟩:=len_four hwf.1
 obtain⟨m0,m1,m2,m3,m4,m5,m6,m7,hmem⟩:=len_eight hwf.2
 dsimp only at hregs hmem hzt hzc
 subst hregs hmem
 have hel:=endL_len en
 refine c_sr<|pv hF hW (y_indexS hF rfl rfl Od Tryz.underlying58 sz_75 (fun w h=>((h.res 3 rfl)).cellsR)) fun a hF=>pv hF hW (y_loadRowW hF rfl (fun w h=>((h.res 3 rfl)).cellsR) Od Tryz.underlying75 rfl (by rw[hz];exact sz_75)) fun a hF=>?_;replace hF:=Fr.cast (v':=.agg #[.int .i64 at_,.int .i64 r0,.int .i64 r1,.int .i64 r2,.int .i64 r3,.int .i64 m0,.int .i64 m1,.int .i64 m2,.int .i64 m3,.int .i64 m4,.int .i64 m5,.int .i64 m6,.int .i64 m7,.int .i64 rd,.slice qa out.length qk,.int .i64 en]) (by rw[hz];rfl) hF;refine pe<|e_alloc hF hW ze_75 rfl rfl rfl fun b12 a wc hF hW=>pe<|e_storeAll rfl hF hW rfl rfl 0 rfl rfl rfl Kr sz_75 fun wc hW=>l_nil<|t_n<|c_d mixed_ok hW ((hW.ds [1,1] rfl)) ?_
 clear hW;intro wc hW hS
 refine dq 2 [0,1] hF hS rfl fun a hF=>dv 2 rfl hF hS (y_loadOwn hF rfl 0 rfl rfl Tryz.underlying3 rfl) fun a hF=>dq 1 [4] hF hS rfl fun a hF=>dv 5 rfl hF hS (y_loadOwn hF rfl 0 rfl rfl Tryz.underlying41 rfl) fun a hF=>d_1 3 Kr<|d_op rfl rfl<|e_callK hF hW rfl rfl en_19 Rl (end_any _ _) fun a w1 hW hF=>ai (hW.ds [1,1] rfl) fun hS=>d_1 6 Kr ?_;refine d_op rfl rfl (e_callA hF rfl rfl en_18 Rl (line_call (M:=out) ((hW.front 2 rfl rfl).front 2 rfl rfl) (.inr rfl) (fun u h=>(hcat u (by first|exact h.res 0 rfl|exact h.res 1 rfl|exact h.res 2 rfl|exact h.res 3 rfl)).rowAt) (fun u h=>hL.wd h) hzt.1.1 Om Om Om) ?_);rintro e w1 ⟨A5,c5,rfl,hN⟩;replace hW:=hN;refine⟨_,rfl,fun a hF=>?_⟩;refine ai (hW.ds [0,0] rfl) fun hS=>?_;clear hS;refine d_nil Kr<|b_n<|t_n<|c_r<|pv hF hW (y_add hF rfl rfl (IntWalk.i64_in _ Om)) fun a hF=>pq 1 hF rfl fun a hF=>l_nil ?_;replace hW:=hW.del 2 rfl;refine t_n ?_;refine⟨(k+1,F++lineT (endL en) out,A5,c5),?_,?_,?_,?_⟩
 exact⟨by omega,by rw[hF0,cellsT_succ (by rw[List.length_map];omega),hzc,List.append_assoc]⟩
 first|omega|(dsimp only;omega)
 exact hF.a1 rfl rfl
 exact hW
 refine l_nil<|t_n<|c_s<|c_f hF rfl<|wp_exit<|t_x<|t_x<|b_h<|t_n<|c_sr<|pq 3 hF rfl fun a hF=>?_;refine pe (e_callA hF rfl rfl en_20 Rl (pstring ((hW.front 1 rfl rfl).front 1 rfl rfl) (by rw[hF0];unfold headT lineT;simp)) ?_);rintro e w1 ⟨rfl,hN⟩;replace hW:=hN;refine⟨_,rfl,fun a hF=>?_⟩;refine pq 2 hF rfl fun a hF=>l_nil<|t_n<|wp_ret<|ret2 Tryz.results5 hF (rv_t hF rfl) (rv_t hF rfl) ?_
 rcases hRu with⟨-,hRS⟩|⟨h,-⟩
 obtain rfl:k=y.cells.length:=Om
 rw[List.take_of_length_le (by rw[List.length_map];omega),hcl] at hF0
 refine⟨F,0,rfl,.inr ⟨hre,.inr ⟨P,hRS,.inr ⟨by rw[←hx];exact hc0,.inr ⟨hn,rfl,is,L,qs.map IR.l,?_,hF0⟩⟩⟩⟩,hW.below⟩
 rw[←hx]
 have hpl:x.sys.parts.length=x.parts.length:=sys_parts_len x
 rw[hpl]
 exact hIs
 omega
end Go.Proofs.YtndcjmopebcdgaaGreatDoor
