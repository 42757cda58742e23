/- image's lists, and what reads one thing of each. -/
import Derived.Test.YtndcjmopebcdgaaGreatDoorImgG
set_option linter.unusedSimpArgs false
set_option linter.unusedVariables false
namespace Go.Proofs.YtndcjmopebcdgaaGreatDoor
open Go.ChangeShapes Go.WideShapes Go.ChangeAt Go.RowKit
theorem bs_ImgL_186_2_0_1(x0:Option Addr)(x1:Option Addr)(w:World):(Instr.buildSlice 186 2 #[(0,(.pointer x0)),(1,(.pointer x1))]).run Tryz.prog w=.ok (.slice (some ⟨w.heap.size,0,none⟩) 2 2) (w.alloc (.cells #[(.pointer x0),(.pointer x1)] 132)):=by kernel_rfl
theorem bs_ImgL_186_3_0_1_2(x0:Option Addr)(x1:Option Addr)(x2:Option Addr)(w:World):(Instr.buildSlice 186 3 #[(0,(.pointer x0)),(1,(.pointer x1)),(2,(.pointer x2))]).run Tryz.prog w=.ok (.slice (some ⟨w.heap.size,0,none⟩) 3 3) (w.alloc (.cells #[(.pointer x0),(.pointer x1),(.pointer x2)] 132)):=by kernel_rfl
theorem bs_ImgL_35_1_0(x0:Option Addr)(x0n x0c:Nat)(x1:Option Addr)(x1n x1c:Nat)(w:World):(Instr.buildSlice 35 1 #[(0,(.agg #[(.slice x0 x0n x0c),(.slice x1 x1n x1c)]))]).run Tryz.prog w=.ok (.slice (some ⟨w.heap.size,0,none⟩) 1 1) (w.alloc (.cells #[(.slice x0 x0n x0c),(.slice x1 x1n x1c)] 43)):=by kernel_rfl
theorem bs_ImgL_36_1_0(x0:Int)(x1:Int)(x2:Int)(w:World):(Instr.buildSlice 36 1 #[(0,(.agg #[(.int .i64 x0),(.int .i64 x1),(.int .i64 x2)]))]).run Tryz.prog w=.ok (.slice (some ⟨w.heap.size,0,none⟩) 1 1) (w.alloc (.cells #[(.int .i64 x0),(.int .i64 x1),(.int .i64 x2)] 121)):=by kernel_rfl
theorem bs_ImgL_37_1_0(x0:Int)(x1:Int)(w:World):(Instr.buildSlice 37 1 #[(0,(.agg #[(.int .i64 x0),(.int .i64 x1)]))]).run Tryz.prog w=.ok (.slice (some ⟨w.heap.size,0,none⟩) 1 1) (w.alloc (.cells #[(.int .i64 x0),(.int .i64 x1)] 123)):=by kernel_rfl
theorem bs_ImgL_40_1_0(x0:Int)(x1:Int)(x2:Int)(x3:Int)(w:World):(Instr.buildSlice 40 1 #[(0,(.agg #[(.int .i64 x0),(.int .i64 x1),(.int .i64 x2),(.int .i64 x3)]))]).run Tryz.prog w=.ok (.slice (some ⟨w.heap.size,0,none⟩) 1 1) (w.alloc (.cells #[(.int .i64 x0),(.int .i64 x1),(.int .i64 x2),(.int .i64 x3)] 118)):=by kernel_rfl
theorem bs_ImgL_41_1_0(x0:Int)(w:World):(Instr.buildSlice 41 1 #[(0,(.int .i64 x0))]).run Tryz.prog w=.ok (.slice (some ⟨w.heap.size,0,none⟩) 1 1) (w.alloc (.cells #[(.int .i64 x0)] 3)):=by kernel_rfl
set_option maxRecDepth 100000
abbrev glassP(bp bg:Nat):Asn:=.blk bp 124 [.pointer (some ⟨bg,0,none⟩)]
def OneI{α β:Type}(g:FuncId)(bp:Nat)(T:TypeId)(zl:List Value)(v:β→α)(enc:β→List Value)(R:β→World→Prop)(one:List UInt8→Option (α×List UInt8)):Prop:=
 ∀(w0 w:World) (X:Nat→Prop) (es:List Asn) (bg bx:Nat) (l:List UInt8),Wd w0 X (glassS bg l::glassP bp bg::.blk bx T zl::es) w→
  Calls Tryz.prog g (#[.pointer (some ⟨bx,0,none⟩)]++#[.pointer (some ⟨bp,0,none⟩)]) w fun e w'=>(∃y r,e=.returned (.tuple #[])∧one l=some (v y,r)∧Wd w0 X (glassS bg r::glassP bp bg::.blk bx T (enc y)::.res (R y)::es) w')∨(e=.panicked brkI∧one l=none∧Wd w0 X es w')
theorem num1_nat{l r:List UInt8}{n:Int}(h:numOf 1 l=some (n,r)):∃m:Nat,n=(m:Int)∧m≤255:=by
 have h1:=(numOf_one_inv h).2
 exact⟨n.toNat,by omega,by omega⟩
theorem list_none{α:Type}{one:List UInt8→Option (α×List UInt8)}{l r:List UInt8}{m:Nat}(h:numOf 1 l=some ((m:Int),r))(h2:manyB one m r=none):listB one l=none:=by
 unfold listB
 rw[h,Option.bind_some,Int.toNat_natCast,h2]
theorem list_some{α:Type}{one:List UInt8→Option (α×List UInt8)}{l r F:List UInt8}{m k:Nat}{L:List α}(h:numOf 1 l=some ((m:Int),r))(h2:manyB one m r=(manyB one (m - k) F).map fun p=>(L++p.1,p.2))(hk:m - k=0):listB one l=some (L,F):=by
 unfold listB
 rw[h,Option.bind_some,Int.toNat_natCast,h2,hk]
 simp[manyB]
def encI(n:Int):List Value:=[.int .i64 n]
theorem encI_map(l:List Int):l.flatMap encI=l.map (.int .i64):=by
 induction l with
 |nil=>rfl
 |cons n l ih=>rw[List.flatMap_cons,ih];rfl
set_option maxHeartbeats 8000000 in
theorem list_ins{w:World}{X:Nat→Prop}{bg bp:Nat}{g:FuncId}{l:List UInt8}{v:Ins→Ins}{R:Ins→World→Prop}{one:List UInt8→Option (Ins×List UInt8)}(hen:Enters Tryz.prog g)(hone:OneI g bp 118 [.int .i64 0,.int .i64 0,.int .i64 0,.int .i64 0] v Ins.cells R one)(hW:Wd w X [glassS bg l,glassP bp bg] w):
  Calls Tryz.prog 52 #[.pointer (some ⟨bg,0,none⟩),.func (.func g) #[] #[.pointer (some ⟨bp,0,none⟩)]] w fun e w'=>(∃(xs:List Ins) (r:List UInt8) (A:Option Addr) (c:Nat),e=.returned (.slice A xs.length c)∧listB one l=some (xs.map v,r)∧Wd w X [.row 118 4 (.slice A xs.length c) xs.length (xs.flatMap Ins.cells),.res (fun u=>∀y,y∈xs→R y u),glassS bg r,glassP bp bg] w')∨(e=.panicked brkI∧listB one l=none∧Wd w X [] w'):=by
 refine enter Tryz.func52 rfl Tryz.ntmps52 rfl fun a hF=>c_sr<|pq 1 hF rfl fun a hF=>lts<|pq 1 hF rfl fun a hF=>l_nil<|t_n<|c_s<|c_sr<|pq 1 hF rfl fun a hF=>?_;refine pe (e_callp hF rfl rfl en_55 Rl rfl rfl (number_call (size:=1) (hW.front 0 rfl rfl) Dc) ?_);rintro e w1 (⟨n,r0,rfl,hT,hN⟩|⟨rfl,hT,hN⟩)
 obtain⟨m,rfl,hm2⟩:=num1_nat hT
 replace hW:=hN;refine .inl ⟨_,rfl,fun a hF=>?_⟩;refine pq 1 hF rfl fun a hF=>l_nil<|t_n<|wp_block ?_;replace hW:=hW.nil_row 118 4;replace hW:=hW.free (R:=fun u=>∀y,y∈([]:List Ins)→R y u) (fun _ _ h=>by cases h);replace hW:=hW.fs [2,2,2] rfl;refine c_loop (G:=Nat×List Ins×Option Addr×Nat×List UInt8) (fun⟨k,L,A,c,F⟩=>[(9,.int .i64 (k:Int)),(5,.slice A k c)]) (fun⟨k,L,A,c,F⟩=>[.res (fun u=>∀y,y∈L→R y u),.row 118 4 (.slice A k c) k (L.flatMap Ins.cells),glassS bg F]) (fun⟨k,L,A,c,F⟩=>L.length=k∧k≤m∧manyB one m r0=(manyB one (m - k) F).map fun p=>(L.map v++p.1,p.2)) (fun⟨k,L,A,c,F⟩=>m - k) (0,[],none,0,r0) (hF.ks [0,1,4,8] rfl) (Fr.cons hF (t:=9) rfl Rg (Fr.cons hF (t:=5) rfl Rg (Fr.nil hF))) (hW) ?_ ?_
 exact⟨rfl,by omega,by simp⟩
 clear hF hW
 try clear a
 intro gq a wc hC hF hW
 obtain⟨k,L,A,c,F⟩:=gq
 dsimp only at hC
 obtain⟨hL,hkm,hM⟩:=hC
 refine c_sr<|pq 1 hF rfl fun a hF=>?_;refine Fr.splitD hF (fun h1 hF=>?_) (fun h1 hF=>?_);refine l_nil<|t_n<|c_s<|c_t hF rfl<|wp_skip<|t_n<|c_s<|wp_block<|c_sr<|pe<|e_alloc hF hW ze_118 rfl rfl rfl fun b2 a wc hF hW=>l_nil<|t_n ?_
 have hkm1:0<m - k:=Om
 refine c_sr<|pq 1 hF rfl fun a hF=>?_;refine pe (e_callp hF rfl rfl hen Rl rfl rfl (hone _ _ _ _ _ _ _ (((hW.front 0 rfl rfl).front 4 rfl rfl).front 4 rfl rfl)) ?_);rintro e w1 (⟨y,r',rfl,hT2,hN⟩|⟨rfl,hT2,hN⟩);replace hW:=hN;refine .inl ⟨_,rfl,fun a hF=>?_⟩;refine ltr<|pq 1 hF rfl fun a hF=>pv hF hW (y_loadAll hF rfl 2 rfl Tryz.underlying118 rfl sz_118) fun a hF=>?_;replace hF:=Fr.cast (v':=.agg #[.int .i64 y.op,.int .i64 y.a,.int .i64 y.b,.int .i64 y.n]) Rl hF;refine pe<|e_buildSlice hF hW rfl (fun w=>bs_ImgL_40_1_0 _ _ _ _ w) rfl rfl rfl fun b3 a wc hF hW=>pe<|e_append hF hW 6 rfl rfl rfl Tryz.underlying40 inf_118 rfl Dc (rowAt_blk (hW.blk 0 rfl) 4 1 rfl) Oc (show _=k+1 by omega) (show _=(L++[y]).flatMap Ins.cells by simp[Ins.cells]) Ox Ml rfl rfl fun A4 c5 a wc hF hW=>pq 1 hF rfl fun a hF=>l_nil<|b_n<|t_n<|c_r<|pv hF hW (y_add hF rfl rfl (IntWalk.i64_in _ Om)) fun a hF=>pq 1 hF rfl fun a hF=>l_nil ?_;replace hW:=hW.fs [5,5] rfl
 replace hW:=hW.res2 (R:=fun u=>∀z,z∈L++[y]→R z u) fun u h1 h3 z hz=>(List.mem_append.1 hz).elim (h3 z) fun h=>by rw[List.mem_singleton.1 h];exact h1
 replace hW:=hW.ds [1,3] rfl;replace hW:=hW.fs [2,2,3,3] rfl;refine t_n ?_;refine⟨(k+1,L++[y],A4,c5,r'),?_,?_,?_,?_⟩
 exact⟨by simp[hL],by omega,by rw[hM,manyB_step hT2 Om,List.map_append];rfl⟩
 first|omega|(dsimp only;omega)
 exact hF.a2 rfl rfl rfl
 exact hW
 replace hW:=hN;refine .inr ⟨_,rfl,?_⟩;refine t_p<|b_p<|t_p<|t_p<|b_p<|t_p<|endp hF ?_
 exact .inr ⟨rfl,list_none hT (by rw[hM,manyB_none hT2 hkm1];rfl),hW.none_⟩
 refine l_nil<|t_n<|c_s<|c_f hF rfl<|wp_exit<|t_x<|t_x<|b_h<|t_n<|c_sr<|pq 2 hF rfl fun a hF=>l_nil<|t_n<|wp_ret<|ret1 Tryz.results52 hF (rv_t hF rfl) ?_;replace hW:=hW.fs [3,3,2,3] rfl;subst hL
 exact .inl ⟨L,_,_,_,rfl,list_some hT hM Om,hW⟩
 replace hW:=hN;refine .inr ⟨_,rfl,?_⟩;refine t_p<|t_p<|endp hF ?_
 exact .inr ⟨rfl,by unfold listB;rw[hT];rfl,hW.none_⟩
theorem list_ins_call{w0 w:World}{X:Nat→Prop}{es:List Asn}{bg bp:Nat}{g:FuncId}{l:List UInt8}{v:Ins→Ins}{R:Ins→World→Prop}{one:List UInt8→Option (Ins×List UInt8)}(hen:Enters Tryz.prog g)(hone:OneI g bp 118 [.int .i64 0,.int .i64 0,.int .i64 0,.int .i64 0] v Ins.cells R one)(hW:Wd w0 X (glassS bg l::glassP bp bg::es) w):
  Calls Tryz.prog 52 #[.pointer (some ⟨bg,0,none⟩),.func (.func g) #[] #[.pointer (some ⟨bp,0,none⟩)]] w fun e w'=>(∃(xs:List Ins) (r:List UInt8) (A:Option Addr) (c:Nat),e=.returned (.slice A xs.length c)∧listB one l=some (xs.map v,r)∧Wd w0 X (.row 118 4 (.slice A xs.length c) xs.length (xs.flatMap Ins.cells)::.res (fun u=>∀y,y∈xs→R y u)::glassS bg r::glassP bp bg::es) w')∨(e=.panicked brkI∧listB one l=none∧Wd w0 X es w'):=by
 obtain⟨X',hL,hback⟩:=Own.lendI [_,_] hW
 refine(list_ins hen hone hL).mono ?_
 rintro e w' (⟨xs,r,A,c,rfl,h1,hN⟩|⟨rfl,h1,hN⟩)
 ·exact .inl ⟨xs,r,A,c,rfl,h1,hback _ _ hN⟩
 ·exact .inr ⟨rfl,h1,hback _ _ hN⟩
set_option maxHeartbeats 8000000 in
theorem list_chn{w:World}{X:Nat→Prop}{bg bp:Nat}{g:FuncId}{l:List UInt8}{v:Chn→Chn}{R:Chn→World→Prop}{one:List UInt8→Option (Chn×List UInt8)}(hen:Enters Tryz.prog g)(hone:OneI g bp 121 [.int .i64 0,.int .i64 0,.int .i64 0] v Chn.cells R one)(hW:Wd w X [glassS bg l,glassP bp bg] w):
  Calls Tryz.prog 58 #[.pointer (some ⟨bg,0,none⟩),.func (.func g) #[] #[.pointer (some ⟨bp,0,none⟩)]] w fun e w'=>(∃(xs:List Chn) (r:List UInt8) (A:Option Addr) (c:Nat),e=.returned (.slice A xs.length c)∧listB one l=some (xs.map v,r)∧Wd w X [.row 121 3 (.slice A xs.length c) xs.length (xs.flatMap Chn.cells),.res (fun u=>∀y,y∈xs→R y u),glassS bg r,glassP bp bg] w')∨(e=.panicked brkI∧listB one l=none∧Wd w X [] w'):=by
 refine enter Tryz.func58 rfl Tryz.ntmps58 rfl fun a hF=>c_sr<|pq 1 hF rfl fun a hF=>lts<|pq 1 hF rfl fun a hF=>l_nil<|t_n<|c_s<|c_sr<|pq 1 hF rfl fun a hF=>?_;refine pe (e_callp hF rfl rfl en_55 Rl rfl rfl (number_call (size:=1) (hW.front 0 rfl rfl) Dc) ?_);rintro e w1 (⟨n,r0,rfl,hT,hN⟩|⟨rfl,hT,hN⟩)
 obtain⟨m,rfl,hm2⟩:=num1_nat hT
 replace hW:=hN;refine .inl ⟨_,rfl,fun a hF=>?_⟩;refine pq 1 hF rfl fun a hF=>l_nil<|t_n<|wp_block ?_;replace hW:=hW.nil_row 121 3;replace hW:=hW.free (R:=fun u=>∀y,y∈([]:List Chn)→R y u) (fun _ _ h=>by cases h);replace hW:=hW.fs [2,2,2] rfl;refine c_loop (G:=Nat×List Chn×Option Addr×Nat×List UInt8) (fun⟨k,L,A,c,F⟩=>[(9,.int .i64 (k:Int)),(5,.slice A k c)]) (fun⟨k,L,A,c,F⟩=>[.res (fun u=>∀y,y∈L→R y u),.row 121 3 (.slice A k c) k (L.flatMap Chn.cells),glassS bg F]) (fun⟨k,L,A,c,F⟩=>L.length=k∧k≤m∧manyB one m r0=(manyB one (m - k) F).map fun p=>(L.map v++p.1,p.2)) (fun⟨k,L,A,c,F⟩=>m - k) (0,[],none,0,r0) (hF.ks [0,1,4,8] rfl) (Fr.cons hF (t:=9) rfl Rg (Fr.cons hF (t:=5) rfl Rg (Fr.nil hF))) (hW) ?_ ?_
 exact⟨rfl,by omega,by simp⟩
 clear hF hW
 try clear a
 intro gq a wc hC hF hW
 obtain⟨k,L,A,c,F⟩:=gq
 dsimp only at hC
 obtain⟨hL,hkm,hM⟩:=hC
 refine c_sr<|pq 1 hF rfl fun a hF=>?_;refine Fr.splitD hF (fun h1 hF=>?_) (fun h1 hF=>?_);refine l_nil<|t_n<|c_s<|c_t hF rfl<|wp_skip<|t_n<|c_s<|wp_block<|c_sr<|pe<|e_alloc hF hW ze_121 rfl rfl rfl fun b2 a wc hF hW=>l_nil<|t_n ?_
 have hkm1:0<m - k:=Om
 refine c_sr<|pq 1 hF rfl fun a hF=>?_;refine pe (e_callp hF rfl rfl hen Rl rfl rfl (hone _ _ _ _ _ _ _ (((hW.front 0 rfl rfl).front 4 rfl rfl).front 4 rfl rfl)) ?_);rintro e w1 (⟨y,r',rfl,hT2,hN⟩|⟨rfl,hT2,hN⟩);replace hW:=hN;refine .inl ⟨_,rfl,fun a hF=>?_⟩;refine ltr<|pq 1 hF rfl fun a hF=>pv hF hW (y_loadAll hF rfl 2 rfl Tryz.underlying121 rfl sz_121) fun a hF=>?_;replace hF:=Fr.cast (v':=.agg #[.int .i64 y.kind,.int .i64 y.from_,.int .i64 y.to_]) Rl hF;refine pe<|e_buildSlice hF hW rfl (fun w=>bs_ImgL_36_1_0 _ _ _ w) rfl rfl rfl fun b3 a wc hF hW=>pe<|e_append hF hW 6 rfl rfl rfl Tryz.underlying36 inf_121 rfl Dc (rowAt_blk (hW.blk 0 rfl) 3 1 rfl) Oc (show _=k+1 by omega) (show _=(L++[y]).flatMap Chn.cells by simp[Chn.cells]) Ox Ml rfl rfl fun A4 c5 a wc hF hW=>pq 1 hF rfl fun a hF=>l_nil<|b_n<|t_n<|c_r<|pv hF hW (y_add hF rfl rfl (IntWalk.i64_in _ Om)) fun a hF=>pq 1 hF rfl fun a hF=>l_nil ?_;replace hW:=hW.fs [5,5] rfl
 replace hW:=hW.res2 (R:=fun u=>∀z,z∈L++[y]→R z u) fun u h1 h3 z hz=>(List.mem_append.1 hz).elim (h3 z) fun h=>by rw[List.mem_singleton.1 h];exact h1
 replace hW:=hW.ds [1,3] rfl;replace hW:=hW.fs [2,2,3,3] rfl;refine t_n ?_;refine⟨(k+1,L++[y],A4,c5,r'),?_,?_,?_,?_⟩
 exact⟨by simp[hL],by omega,by rw[hM,manyB_step hT2 Om,List.map_append];rfl⟩
 first|omega|(dsimp only;omega)
 exact hF.a2 rfl rfl rfl
 exact hW
 replace hW:=hN;refine .inr ⟨_,rfl,?_⟩;refine t_p<|b_p<|t_p<|t_p<|b_p<|t_p<|endp hF ?_
 exact .inr ⟨rfl,list_none hT (by rw[hM,manyB_none hT2 hkm1];rfl),hW.none_⟩
 refine l_nil<|t_n<|c_s<|c_f hF rfl<|wp_exit<|t_x<|t_x<|b_h<|t_n<|c_sr<|pq 2 hF rfl fun a hF=>l_nil<|t_n<|wp_ret<|ret1 Tryz.results58 hF (rv_t hF rfl) ?_;replace hW:=hW.fs [3,3,2,3] rfl;subst hL
 exact .inl ⟨L,_,_,_,rfl,list_some hT hM Om,hW⟩
 replace hW:=hN;refine .inr ⟨_,rfl,?_⟩;refine t_p<|t_p<|endp hF ?_
 exact .inr ⟨rfl,by unfold listB;rw[hT];rfl,hW.none_⟩
theorem list_chn_call{w0 w:World}{X:Nat→Prop}{es:List Asn}{bg bp:Nat}{g:FuncId}{l:List UInt8}{v:Chn→Chn}{R:Chn→World→Prop}{one:List UInt8→Option (Chn×List UInt8)}(hen:Enters Tryz.prog g)(hone:OneI g bp 121 [.int .i64 0,.int .i64 0,.int .i64 0] v Chn.cells R one)(hW:Wd w0 X (glassS bg l::glassP bp bg::es) w):
  Calls Tryz.prog 58 #[.pointer (some ⟨bg,0,none⟩),.func (.func g) #[] #[.pointer (some ⟨bp,0,none⟩)]] w fun e w'=>(∃(xs:List Chn) (r:List UInt8) (A:Option Addr) (c:Nat),e=.returned (.slice A xs.length c)∧listB one l=some (xs.map v,r)∧Wd w0 X (.row 121 3 (.slice A xs.length c) xs.length (xs.flatMap Chn.cells)::.res (fun u=>∀y,y∈xs→R y u)::glassS bg r::glassP bp bg::es) w')∨(e=.panicked brkI∧listB one l=none∧Wd w0 X es w'):=by
 obtain⟨X',hL,hback⟩:=Own.lendI [_,_] hW
 refine(list_chn hen hone hL).mono ?_
 rintro e w' (⟨xs,r,A,c,rfl,h1,hN⟩|⟨rfl,h1,hN⟩)
 ·exact .inl ⟨xs,r,A,c,rfl,h1,hback _ _ hN⟩
 ·exact .inr ⟨rfl,h1,hback _ _ hN⟩
set_option maxHeartbeats 8000000 in
theorem list_slt{w:World}{X:Nat→Prop}{bg bp:Nat}{g:FuncId}{l:List UInt8}{v:Slt→Slt}{R:Slt→World→Prop}{one:List UInt8→Option (Slt×List UInt8)}(hen:Enters Tryz.prog g)(hone:OneI g bp 123 [.int .i64 0,.int .i64 0] v Slt.cells R one)(hW:Wd w X [glassS bg l,glassP bp bg] w):
  Calls Tryz.prog 60 #[.pointer (some ⟨bg,0,none⟩),.func (.func g) #[] #[.pointer (some ⟨bp,0,none⟩)]] w fun e w'=>(∃(xs:List Slt) (r:List UInt8) (A:Option Addr) (c:Nat),e=.returned (.slice A xs.length c)∧listB one l=some (xs.map v,r)∧Wd w X [.row 123 2 (.slice A xs.length c) xs.length (xs.flatMap Slt.cells),.res (fun u=>∀y,y∈xs→R y u),glassS bg r,glassP bp bg] w')∨(e=.panicked brkI∧listB one l=none∧Wd w X [] w'):=by
 refine enter Tryz.func60 rfl Tryz.ntmps60 rfl fun a hF=>c_sr<|pq 1 hF rfl fun a hF=>lts<|pq 1 hF rfl fun a hF=>l_nil<|t_n<|c_s<|c_sr<|pq 1 hF rfl fun a hF=>?_;refine pe (e_callp hF rfl rfl en_55 Rl rfl rfl (number_call (size:=1) (hW.front 0 rfl rfl) Dc) ?_);rintro e w1 (⟨n,r0,rfl,hT,hN⟩|⟨rfl,hT,hN⟩)
 obtain⟨m,rfl,hm2⟩:=num1_nat hT
 replace hW:=hN;refine .inl ⟨_,rfl,fun a hF=>?_⟩;refine pq 1 hF rfl fun a hF=>l_nil<|t_n<|wp_block ?_;replace hW:=hW.nil_row 123 2;replace hW:=hW.free (R:=fun u=>∀y,y∈([]:List Slt)→R y u) (fun _ _ h=>by cases h);replace hW:=hW.fs [2,2,2] rfl;refine c_loop (G:=Nat×List Slt×Option Addr×Nat×List UInt8) (fun⟨k,L,A,c,F⟩=>[(9,.int .i64 (k:Int)),(5,.slice A k c)]) (fun⟨k,L,A,c,F⟩=>[.res (fun u=>∀y,y∈L→R y u),.row 123 2 (.slice A k c) k (L.flatMap Slt.cells),glassS bg F]) (fun⟨k,L,A,c,F⟩=>L.length=k∧k≤m∧manyB one m r0=(manyB one (m - k) F).map fun p=>(L.map v++p.1,p.2)) (fun⟨k,L,A,c,F⟩=>m - k) (0,[],none,0,r0) (hF.ks [0,1,4,8] rfl) (Fr.cons hF (t:=9) rfl Rg (Fr.cons hF (t:=5) rfl Rg (Fr.nil hF))) (hW) ?_ ?_
 exact⟨rfl,by omega,by simp⟩
 clear hF hW
 try clear a
 intro gq a wc hC hF hW
 obtain⟨k,L,A,c,F⟩:=gq
 dsimp only at hC
 obtain⟨hL,hkm,hM⟩:=hC
 refine c_sr<|pq 1 hF rfl fun a hF=>?_;refine Fr.splitD hF (fun h1 hF=>?_) (fun h1 hF=>?_);refine l_nil<|t_n<|c_s<|c_t hF rfl<|wp_skip<|t_n<|c_s<|wp_block<|c_sr<|pe<|e_alloc hF hW ze_123 rfl rfl rfl fun b2 a wc hF hW=>l_nil<|t_n ?_
 have hkm1:0<m - k:=Om
 refine c_sr<|pq 1 hF rfl fun a hF=>?_;refine pe (e_callp hF rfl rfl hen Rl rfl rfl (hone _ _ _ _ _ _ _ (((hW.front 0 rfl rfl).front 4 rfl rfl).front 4 rfl rfl)) ?_);rintro e w1 (⟨y,r',rfl,hT2,hN⟩|⟨rfl,hT2,hN⟩);replace hW:=hN;refine .inl ⟨_,rfl,fun a hF=>?_⟩;refine ltr<|pq 1 hF rfl fun a hF=>pv hF hW (y_loadAll hF rfl 2 rfl Tryz.underlying123 rfl sz_123) fun a hF=>?_;replace hF:=Fr.cast (v':=.agg #[.int .i64 y.part,.int .i64 y.ticks]) Rl hF;refine pe<|e_buildSlice hF hW rfl (fun w=>bs_ImgL_37_1_0 _ _ w) rfl rfl rfl fun b3 a wc hF hW=>pe<|e_append hF hW 6 rfl rfl rfl Tryz.underlying37 inf_123 rfl Dc (rowAt_blk (hW.blk 0 rfl) 2 1 rfl) Oc (show _=k+1 by omega) (show _=(L++[y]).flatMap Slt.cells by simp[Slt.cells]) Ox Ml rfl rfl fun A4 c5 a wc hF hW=>pq 1 hF rfl fun a hF=>l_nil<|b_n<|t_n<|c_r<|pv hF hW (y_add hF rfl rfl (IntWalk.i64_in _ Om)) fun a hF=>pq 1 hF rfl fun a hF=>l_nil ?_;replace hW:=hW.fs [5,5] rfl
 replace hW:=hW.res2 (R:=fun u=>∀z,z∈L++[y]→R z u) fun u h1 h3 z hz=>(List.mem_append.1 hz).elim (h3 z) fun h=>by rw[List.mem_singleton.1 h];exact h1
 replace hW:=hW.ds [1,3] rfl;replace hW:=hW.fs [2,2,3,3] rfl;refine t_n ?_;refine⟨(k+1,L++[y],A4,c5,r'),?_,?_,?_,?_⟩
 exact⟨by simp[hL],by omega,by rw[hM,manyB_step hT2 Om,List.map_append];rfl⟩
 first|omega|(dsimp only;omega)
 exact hF.a2 rfl rfl rfl
 exact hW
 replace hW:=hN;refine .inr ⟨_,rfl,?_⟩;refine t_p<|b_p<|t_p<|t_p<|b_p<|t_p<|endp hF ?_
 exact .inr ⟨rfl,list_none hT (by rw[hM,manyB_none hT2 hkm1];rfl),hW.none_⟩
 refine l_nil<|t_n<|c_s<|c_f hF rfl<|wp_exit<|t_x<|t_x<|b_h<|t_n<|c_sr<|pq 2 hF rfl fun a hF=>l_nil<|t_n<|wp_ret<|ret1 Tryz.results60 hF (rv_t hF rfl) ?_;replace hW:=hW.fs [3,3,2,3] rfl;subst hL
 exact .inl ⟨L,_,_,_,rfl,list_some hT hM Om,hW⟩
 replace hW:=hN;refine .inr ⟨_,rfl,?_⟩;refine t_p<|t_p<|endp hF ?_
 exact .inr ⟨rfl,by unfold listB;rw[hT];rfl,hW.none_⟩
theorem list_slt_call{w0 w:World}{X:Nat→Prop}{es:List Asn}{bg bp:Nat}{g:FuncId}{l:List UInt8}{v:Slt→Slt}{R:Slt→World→Prop}{one:List UInt8→Option (Slt×List UInt8)}(hen:Enters Tryz.prog g)(hone:OneI g bp 123 [.int .i64 0,.int .i64 0] v Slt.cells R one)(hW:Wd w0 X (glassS bg l::glassP bp bg::es) w):
  Calls Tryz.prog 60 #[.pointer (some ⟨bg,0,none⟩),.func (.func g) #[] #[.pointer (some ⟨bp,0,none⟩)]] w fun e w'=>(∃(xs:List Slt) (r:List UInt8) (A:Option Addr) (c:Nat),e=.returned (.slice A xs.length c)∧listB one l=some (xs.map v,r)∧Wd w0 X (.row 123 2 (.slice A xs.length c) xs.length (xs.flatMap Slt.cells)::.res (fun u=>∀y,y∈xs→R y u)::glassS bg r::glassP bp bg::es) w')∨(e=.panicked brkI∧listB one l=none∧Wd w0 X es w'):=by
 obtain⟨X',hL,hback⟩:=Own.lendI [_,_] hW
 refine(list_slt hen hone hL).mono ?_
 rintro e w' (⟨xs,r,A,c,rfl,h1,hN⟩|⟨rfl,h1,hN⟩)
 ·exact .inl ⟨xs,r,A,c,rfl,h1,hback _ _ hN⟩
 ·exact .inr ⟨rfl,h1,hback _ _ hN⟩
set_option maxHeartbeats 8000000 in
theorem list_prt{w:World}{X:Nat→Prop}{bg bp:Nat}{g:FuncId}{l:List UInt8}{v:PP→Prt}{R:PP→World→Prop}{one:List UInt8→Option (Prt×List UInt8)}(hen:Enters Tryz.prog g)(hone:OneI g bp 43 [.slice none 0 0,.slice none 0 0] v encP R one)(hW:Wd w X [glassS bg l,glassP bp bg] w):
  Calls Tryz.prog 50 #[.pointer (some ⟨bg,0,none⟩),.func (.func g) #[] #[.pointer (some ⟨bp,0,none⟩)]] w fun e w'=>(∃(xs:List PP) (r:List UInt8) (A:Option Addr) (c:Nat),e=.returned (.slice A xs.length c)∧listB one l=some (xs.map v,r)∧Wd w X [.row 43 2 (.slice A xs.length c) xs.length (xs.flatMap encP),.res (fun u=>∀y,y∈xs→R y u),glassS bg r,glassP bp bg] w')∨(e=.panicked brkI∧listB one l=none∧Wd w X [] w'):=by
 refine enter Tryz.func50 rfl Tryz.ntmps50 rfl fun a hF=>c_sr<|pq 1 hF rfl fun a hF=>lts<|pq 1 hF rfl fun a hF=>l_nil<|t_n<|c_s<|c_sr<|pq 1 hF rfl fun a hF=>?_;refine pe (e_callp hF rfl rfl en_55 Rl rfl rfl (number_call (size:=1) (hW.front 0 rfl rfl) Dc) ?_);rintro e w1 (⟨n,r0,rfl,hT,hN⟩|⟨rfl,hT,hN⟩)
 obtain⟨m,rfl,hm2⟩:=num1_nat hT
 replace hW:=hN;refine .inl ⟨_,rfl,fun a hF=>?_⟩;refine pq 1 hF rfl fun a hF=>l_nil<|t_n<|wp_block ?_;replace hW:=hW.nil_row 43 2;replace hW:=hW.free (R:=fun u=>∀y,y∈([]:List PP)→R y u) (fun _ _ h=>by cases h);replace hW:=hW.fs [2,2,2] rfl;refine c_loop (G:=Nat×List PP×Option Addr×Nat×List UInt8) (fun⟨k,L,A,c,F⟩=>[(9,.int .i64 (k:Int)),(5,.slice A k c)]) (fun⟨k,L,A,c,F⟩=>[.res (fun u=>∀y,y∈L→R y u),.row 43 2 (.slice A k c) k (L.flatMap encP),glassS bg F]) (fun⟨k,L,A,c,F⟩=>L.length=k∧k≤m∧manyB one m r0=(manyB one (m - k) F).map fun p=>(L.map v++p.1,p.2)) (fun⟨k,L,A,c,F⟩=>m - k) (0,[],none,0,r0) (hF.ks [0,1,4,8] rfl) (Fr.cons hF (t:=9) rfl Rg (Fr.cons hF (t:=5) rfl Rg (Fr.nil hF))) (hW) ?_ ?_
 exact⟨rfl,by omega,by simp⟩
 clear hF hW
 try clear a
 intro gq a wc hC hF hW
 obtain⟨k,L,A,c,F⟩:=gq
 dsimp only at hC
 obtain⟨hL,hkm,hM⟩:=hC
 refine c_sr<|pq 1 hF rfl fun a hF=>?_;refine Fr.splitD hF (fun h1 hF=>?_) (fun h1 hF=>?_);refine l_nil<|t_n<|c_s<|c_t hF rfl<|wp_skip<|t_n<|c_s<|wp_block<|c_sr<|pe<|e_alloc hF hW ze_43 rfl rfl rfl fun b2 a wc hF hW=>l_nil<|t_n ?_
 have hkm1:0<m - k:=Om
 refine c_sr<|pq 1 hF rfl fun a hF=>?_;refine pe (e_callp hF rfl rfl hen Rl rfl rfl (hone _ _ _ _ _ _ _ (((hW.front 0 rfl rfl).front 4 rfl rfl).front 4 rfl rfl)) ?_);rintro e w1 (⟨y,r',rfl,hT2,hN⟩|⟨rfl,hT2,hN⟩);replace hW:=hN;refine .inl ⟨_,rfl,fun a hF=>?_⟩;refine ltr<|pq 1 hF rfl fun a hF=>pv hF hW (y_loadAll hF rfl 2 rfl Tryz.underlying43 rfl sz_43) fun a hF=>?_;replace hF:=Fr.cast (v':=.agg #[.slice y.2.ca y.1.code.length y.2.cc,.slice y.2.ia y.1.inp.length y.2.ic]) Rl hF;refine pe<|e_buildSlice hF hW rfl (fun w=>bs_ImgL_35_1_0 _ _ _ _ _ _ w) rfl rfl rfl fun b3 a wc hF hW=>pe<|e_append hF hW 6 rfl rfl rfl Tryz.underlying35 inf_43 rfl Dc (rowAt_blk (hW.blk 0 rfl) 2 1 rfl) Oc (show _=k+1 by omega) (show _=(L++[y]).flatMap encP by simp[encP]) Ox Ml rfl rfl fun A4 c5 a wc hF hW=>pq 1 hF rfl fun a hF=>l_nil<|b_n<|t_n<|c_r<|pv hF hW (y_add hF rfl rfl (IntWalk.i64_in _ Om)) fun a hF=>pq 1 hF rfl fun a hF=>l_nil ?_;replace hW:=hW.fs [5,5] rfl
 replace hW:=hW.res2 (R:=fun u=>∀z,z∈L++[y]→R z u) fun u h1 h3 z hz=>(List.mem_append.1 hz).elim (h3 z) fun h=>by rw[List.mem_singleton.1 h];exact h1
 replace hW:=hW.ds [1,3] rfl;replace hW:=hW.fs [2,2,3,3] rfl;refine t_n ?_;refine⟨(k+1,L++[y],A4,c5,r'),?_,?_,?_,?_⟩
 exact⟨by simp[hL],by omega,by rw[hM,manyB_step hT2 Om,List.map_append];rfl⟩
 first|omega|(dsimp only;omega)
 exact hF.a2 rfl rfl rfl
 exact hW
 replace hW:=hN;refine .inr ⟨_,rfl,?_⟩;refine t_p<|b_p<|t_p<|t_p<|b_p<|t_p<|endp hF ?_
 exact .inr ⟨rfl,list_none hT (by rw[hM,manyB_none hT2 hkm1];rfl),hW.none_⟩
 refine l_nil<|t_n<|c_s<|c_f hF rfl<|wp_exit<|t_x<|t_x<|b_h<|t_n<|c_sr<|pq 2 hF rfl fun a hF=>l_nil<|t_n<|wp_ret<|ret1 Tryz.results50 hF (rv_t hF rfl) ?_;replace hW:=hW.fs [3,3,2,3] rfl;subst hL
 exact .inl ⟨L,_,_,_,rfl,list_some hT hM Om,hW⟩
 replace hW:=hN;refine .inr ⟨_,rfl,?_⟩;refine t_p<|t_p<|endp hF ?_
 exact .inr ⟨rfl,by unfold listB;rw[hT];rfl,hW.none_⟩
theorem list_prt_call{w0 w:World}{X:Nat→Prop}{es:List Asn}{bg bp:Nat}{g:FuncId}{l:List UInt8}{v:PP→Prt}{R:PP→World→Prop}{one:List UInt8→Option (Prt×List UInt8)}(hen:Enters Tryz.prog g)(hone:OneI g bp 43 [.slice none 0 0,.slice none 0 0] v encP R one)(hW:Wd w0 X (glassS bg l::glassP bp bg::es) w):
  Calls Tryz.prog 50 #[.pointer (some ⟨bg,0,none⟩),.func (.func g) #[] #[.pointer (some ⟨bp,0,none⟩)]] w fun e w'=>(∃(xs:List PP) (r:List UInt8) (A:Option Addr) (c:Nat),e=.returned (.slice A xs.length c)∧listB one l=some (xs.map v,r)∧Wd w0 X (.row 43 2 (.slice A xs.length c) xs.length (xs.flatMap encP)::.res (fun u=>∀y,y∈xs→R y u)::glassS bg r::glassP bp bg::es) w')∨(e=.panicked brkI∧listB one l=none∧Wd w0 X es w'):=by
 obtain⟨X',hL,hback⟩:=Own.lendI [_,_] hW
 refine(list_prt hen hone hL).mono ?_
 rintro e w' (⟨xs,r,A,c,rfl,h1,hN⟩|⟨rfl,h1,hN⟩)
 ·exact .inl ⟨xs,r,A,c,rfl,h1,hback _ _ hN⟩
 ·exact .inr ⟨rfl,h1,hback _ _ hN⟩
set_option maxHeartbeats 8000000 in
theorem list_int{w:World}{X:Nat→Prop}{bg bp:Nat}{g:FuncId}{l:List UInt8}{v:Int→Int}{R:Int→World→Prop}{one:List UInt8→Option (Int×List UInt8)}(hen:Enters Tryz.prog g)(hone:OneI g bp 3 [.int .i64 0] v encI R one)(hW:Wd w X [glassS bg l,glassP bp bg] w):
  Calls Tryz.prog 56 #[.pointer (some ⟨bg,0,none⟩),.func (.func g) #[] #[.pointer (some ⟨bp,0,none⟩)]] w fun e w'=>(∃(xs:List Int) (r:List UInt8) (A:Option Addr) (c:Nat),e=.returned (.slice A xs.length c)∧listB one l=some (xs.map v,r)∧Wd w X [.row 3 1 (.slice A xs.length c) xs.length (xs.flatMap encI),.res (fun u=>∀y,y∈xs→R y u),glassS bg r,glassP bp bg] w')∨(e=.panicked brkI∧listB one l=none∧Wd w X [] w'):=by
 refine enter Tryz.func56 rfl Tryz.ntmps56 rfl fun a hF=>c_sr<|pq 1 hF rfl fun a hF=>lts<|pq 1 hF rfl fun a hF=>l_nil<|t_n<|c_s<|c_sr<|pq 1 hF rfl fun a hF=>?_;refine pe (e_callp hF rfl rfl en_55 Rl rfl rfl (number_call (size:=1) (hW.front 0 rfl rfl) Dc) ?_);rintro e w1 (⟨n,r0,rfl,hT,hN⟩|⟨rfl,hT,hN⟩)
 obtain⟨m,rfl,hm2⟩:=num1_nat hT
 replace hW:=hN;refine .inl ⟨_,rfl,fun a hF=>?_⟩;refine pq 1 hF rfl fun a hF=>l_nil<|t_n<|wp_block ?_;replace hW:=hW.nil_row 3 1;replace hW:=hW.free (R:=fun u=>∀y,y∈([]:List Int)→R y u) (fun _ _ h=>by cases h);replace hW:=hW.fs [2,2,2] rfl;refine c_loop (G:=Nat×List Int×Option Addr×Nat×List UInt8) (fun⟨k,L,A,c,F⟩=>[(9,.int .i64 (k:Int)),(5,.slice A k c)]) (fun⟨k,L,A,c,F⟩=>[.res (fun u=>∀y,y∈L→R y u),.row 3 1 (.slice A k c) k (L.flatMap encI),glassS bg F]) (fun⟨k,L,A,c,F⟩=>L.length=k∧k≤m∧manyB one m r0=(manyB one (m - k) F).map fun p=>(L.map v++p.1,p.2)) (fun⟨k,L,A,c,F⟩=>m - k) (0,[],none,0,r0) (hF.ks [0,1,4,8] rfl) (Fr.cons hF (t:=9) rfl Rg (Fr.cons hF (t:=5) rfl Rg (Fr.nil hF))) (hW) ?_ ?_
 exact⟨rfl,by omega,by simp⟩
 clear hF hW
 try clear a
 intro gq a wc hC hF hW
 obtain⟨k,L,A,c,F⟩:=gq
 dsimp only at hC
 obtain⟨hL,hkm,hM⟩:=hC
 refine c_sr<|pq 1 hF rfl fun a hF=>?_;refine Fr.splitD hF (fun h1 hF=>?_) (fun h1 hF=>?_);refine l_nil<|t_n<|c_s<|c_t hF rfl<|wp_skip<|t_n<|c_s<|wp_block<|c_sr<|pe<|e_alloc hF hW ze_3 rfl rfl rfl fun b2 a wc hF hW=>l_nil<|t_n ?_
 have hkm1:0<m - k:=Om
 refine c_sr<|pq 1 hF rfl fun a hF=>?_;refine pe (e_callp hF rfl rfl hen Rl rfl rfl (hone _ _ _ _ _ _ _ (((hW.front 0 rfl rfl).front 4 rfl rfl).front 4 rfl rfl)) ?_);rintro e w1 (⟨y,r',rfl,hT2,hN⟩|⟨rfl,hT2,hN⟩);replace hW:=hN;refine .inl ⟨_,rfl,fun a hF=>?_⟩;refine ltr<|pq 1 hF rfl fun a hF=>pv hF hW (y_loadOwn hF rfl 2 rfl rfl Tryz.underlying3 rfl) fun a hF=>?_;replace hF:=Fr.cast (v':=.int .i64 y) Rl hF;refine pe<|e_buildSlice hF hW rfl (fun w=>bs_ImgL_41_1_0 _ w) rfl rfl rfl fun b3 a wc hF hW=>pe<|e_append hF hW 6 rfl rfl rfl Tryz.underlying41 inf_3 rfl Dc (rowAt_blk (hW.blk 0 rfl) 1 1 rfl) Oc (show _=k+1 by omega) (show _=(L++[y]).flatMap encI by simp[encI]) Ox Ml rfl rfl fun A4 c5 a wc hF hW=>pq 1 hF rfl fun a hF=>l_nil<|b_n<|t_n<|c_r<|pv hF hW (y_add hF rfl rfl (IntWalk.i64_in _ Om)) fun a hF=>pq 1 hF rfl fun a hF=>l_nil ?_;replace hW:=hW.fs [5,5] rfl
 replace hW:=hW.res2 (R:=fun u=>∀z,z∈L++[y]→R z u) fun u h1 h3 z hz=>(List.mem_append.1 hz).elim (h3 z) fun h=>by rw[List.mem_singleton.1 h];exact h1
 replace hW:=hW.ds [1,3] rfl;replace hW:=hW.fs [2,2,3,3] rfl;refine t_n ?_;refine⟨(k+1,L++[y],A4,c5,r'),?_,?_,?_,?_⟩
 exact⟨by simp[hL],by omega,by rw[hM,manyB_step hT2 Om,List.map_append];rfl⟩
 first|omega|(dsimp only;omega)
 exact hF.a2 rfl rfl rfl
 exact hW
 replace hW:=hN;refine .inr ⟨_,rfl,?_⟩;refine t_p<|b_p<|t_p<|t_p<|b_p<|t_p<|endp hF ?_
 exact .inr ⟨rfl,list_none hT (by rw[hM,manyB_none hT2 hkm1];rfl),hW.none_⟩
 refine l_nil<|t_n<|c_s<|c_f hF rfl<|wp_exit<|t_x<|t_x<|b_h<|t_n<|c_sr<|pq 2 hF rfl fun a hF=>l_nil<|t_n<|wp_ret<|ret1 Tryz.results56 hF (rv_t hF rfl) ?_;replace hW:=hW.fs [3,3,2,3] rfl;subst hL
 exact .inl ⟨L,_,_,_,rfl,list_some hT hM Om,hW⟩
 replace hW:=hN;refine .inr ⟨_,rfl,?_⟩;refine t_p<|t_p<|endp hF ?_
 exact .inr ⟨rfl,by unfold listB;rw[hT];rfl,hW.none_⟩
theorem list_int_call{w0 w:World}{X:Nat→Prop}{es:List Asn}{bg bp:Nat}{g:FuncId}{l:List UInt8}{v:Int→Int}{R:Int→World→Prop}{one:List UInt8→Option (Int×List UInt8)}(hen:Enters Tryz.prog g)(hone:OneI g bp 3 [.int .i64 0] v encI R one)(hW:Wd w0 X (glassS bg l::glassP bp bg::es) w):
  Calls Tryz.prog 56 #[.pointer (some ⟨bg,0,none⟩),.func (.func g) #[] #[.pointer (some ⟨bp,0,none⟩)]] w fun e w'=>(∃(xs:List Int) (r:List UInt8) (A:Option Addr) (c:Nat),e=.returned (.slice A xs.length c)∧listB one l=some (xs.map v,r)∧Wd w0 X (.row 3 1 (.slice A xs.length c) xs.length (xs.flatMap encI)::.res (fun u=>∀y,y∈xs→R y u)::glassS bg r::glassP bp bg::es) w')∨(e=.panicked brkI∧listB one l=none∧Wd w0 X es w'):=by
 obtain⟨X',hL,hback⟩:=Own.lendI [_,_] hW
 refine(list_int hen hone hL).mono ?_
 rintro e w' (⟨xs,r,A,c,rfl,h1,hN⟩|⟨rfl,h1,hN⟩)
 ·exact .inl ⟨xs,r,A,c,rfl,h1,hback _ _ hN⟩
 ·exact .inr ⟨rfl,h1,hback _ _ hN⟩
theorem ins_in{w:World}{X:Nat→Prop}{bg bp bx:Nat}{l:List UInt8}(hW:Wd w X [glassS bg l,glassP bp bg,.blk bx 118 [.int .i64 0,.int .i64 0,.int .i64 0,.int .i64 0]] w):
  Calls Tryz.prog 53 #[.pointer (some ⟨bx,0,none⟩),.pointer (some ⟨bp,0,none⟩)] w fun e w'=>(∃y r,e=.returned (.tuple #[])∧insP l=some (y,r)∧Wd w X [glassS bg r,glassP bp bg,.blk bx 118 y.cells] w')∨(e=.panicked brkI∧insP l=none∧Wd w X [] w'):=by
 refine enter Tryz.func53 rfl Tryz.ntmps53 rfl fun a hF=>c_sd mixed_ok hW ((hW.ds [0,1] rfl)) ?_
 clear hW;intro wc hW hS
 refine dv 0 rfl hF hS (y_loadOwn hF rfl 0 rfl rfl Tryz.underlying124 rfl) fun a hF=>dq 9 [1,2,3,4,5,6,7,8,9] hF hS rfl fun a hF=>d_1 10 Kr<|d_op rfl rfl<|e_buildSlice hF hW rfl (fun w=>bs_ImgL_186_3_0_1_2 _ _ _ w) rfl rfl rfl fun b1 a wc hF hW=>ai (hW.ds [0,0,1] rfl) fun hS=>d_1 11 Kr ?_;refine d_op rfl rfl (e_callp hF rfl rfl en_54 Rl rfl rfl (into_call (m:=3) (((hW.front 0 rfl rfl).front 3 rfl rfl).front 2 rfl rfl) Dc Dc) ?_);rintro e w1 (⟨rfl,hm,hN⟩|⟨rfl,hm,hN⟩)
 obtain⟨x0,x1,x2,t,rfl⟩:=len3 (show¬l.length<3 by omega)
 replace hW:=hN;refine .inl ⟨_,rfl,fun a hF=>?_⟩;refine ai (hW.ds [0,0] rfl) fun hS=>?_;clear hS;refine d_nil Kr<|t_n<|c_r<|pq 1 hF rfl fun a hF=>pv hF hW (y_loadOwn hF rfl 2 rfl rfl Tryz.underlying124 rfl) fun a hF=>?_;refine pe (e_callp hF rfl rfl en_55 Rl rfl rfl (number_call (size:=8) (hW.front 0 rfl rfl) Dc) ?_);rintro e w1 (⟨n,r,rfl,hT,hN⟩|⟨rfl,hT,hN⟩);replace hW:=hN;refine .inl ⟨_,rfl,fun a hF=>?_⟩;refine pq 2 hF rfl fun a hF=>pe<|e_store rfl hF hW rfl rfl 1 rfl rfl rfl sz_3 fun wc hW=>l_nil ?_;replace hF:=hF.ks [0,1] rfl;refine end0 Tryz.results53 hF ?_;replace hW:=hW.fs [1,2,2] rfl
 exact .inl ⟨⟨x0.toNat,x1.toNat,x2.toNat,n⟩,r,rfl,by unfold insP;rw[if_neg Si,hT];rfl,hW⟩
 replace hW:=hN;refine .inr ⟨_,rfl,?_⟩;refine endp hF ?_
 exact .inr ⟨rfl,by unfold insP;rw[if_neg Si,hT];rfl,hW.none_⟩
 replace hW:=hN;refine .inr ⟨_,rfl,?_⟩;refine t_p<|endp hF ?_
 exact .inr ⟨rfl,if_pos Om,hW.none_⟩
theorem chn_in{w:World}{X:Nat→Prop}{bg bp bx:Nat}{l:List UInt8}(hW:Wd w X [glassS bg l,glassP bp bg,.blk bx 121 [.int .i64 0,.int .i64 0,.int .i64 0]] w):
  Calls Tryz.prog 59 #[.pointer (some ⟨bx,0,none⟩),.pointer (some ⟨bp,0,none⟩)] w fun e w'=>(∃y r,e=.returned (.tuple #[])∧chnP l=some (y,r)∧Wd w X [glassS bg r,glassP bp bg,.blk bx 121 y.cells] w')∨(e=.panicked brkI∧chnP l=none∧Wd w X [] w'):=by
 refine enter Tryz.func59 rfl Tryz.ntmps59 rfl fun a hF=>c_d mixed_ok hW ((hW.ds [0,1] rfl)) ?_
 clear hW;intro wc hW hS
 refine dv 0 rfl hF hS (y_loadOwn hF rfl 0 rfl rfl Tryz.underlying124 rfl) fun a hF=>dq 9 [1,2,3,4,5,6,7,8,9] hF hS rfl fun a hF=>d_1 10 Kr<|d_op rfl rfl<|e_buildSlice hF hW rfl (fun w=>bs_ImgL_186_3_0_1_2 _ _ _ w) rfl rfl rfl fun b1 a wc hF hW=>ai (hW.ds [0,0,1] rfl) fun hS=>d_1 11 Kr ?_;refine d_op rfl rfl (e_callp hF rfl rfl en_54 Rl rfl rfl (into_call (m:=3) (((hW.front 0 rfl rfl).front 3 rfl rfl).front 2 rfl rfl) Dc Dc) ?_);rintro e w1 (⟨rfl,hm,hN⟩|⟨rfl,hm,hN⟩)
 obtain⟨x0,x1,x2,t,rfl⟩:=len3 (show¬l.length<3 by omega)
 replace hW:=hN;refine .inl ⟨_,rfl,fun a hF=>?_⟩;refine ai (hW.ds [0,0] rfl) fun hS=>?_;clear hS;refine d_nil Kr<|end0 Tryz.results59 hF ?_;replace hW:=hW.fs [1,2,2] rfl
 exact .inl ⟨⟨x0.toNat,x1.toNat,x2.toNat⟩,t,rfl,by unfold chnP;rw[if_neg Si];rfl,hW⟩
 replace hW:=hN;refine .inr ⟨_,rfl,?_⟩;refine endp hF ?_
 exact .inr ⟨rfl,if_pos Om,hW.none_⟩
theorem slt_in{w:World}{X:Nat→Prop}{bg bp bx:Nat}{l:List UInt8}(hW:Wd w X [glassS bg l,glassP bp bg,.blk bx 123 [.int .i64 0,.int .i64 0]] w):
  Calls Tryz.prog 61 #[.pointer (some ⟨bx,0,none⟩),.pointer (some ⟨bp,0,none⟩)] w fun e w'=>(∃y r,e=.returned (.tuple #[])∧sltP l=some (y,r)∧Wd w X [glassS bg r,glassP bp bg,.blk bx 123 y.cells] w')∨(e=.panicked brkI∧sltP l=none∧Wd w X [] w'):=by
 refine enter Tryz.func61 rfl Tryz.ntmps61 rfl fun a hF=>c_d mixed_ok hW ((hW.ds [0,1] rfl)) ?_
 clear hW;intro wc hW hS
 refine dv 0 rfl hF hS (y_loadOwn hF rfl 0 rfl rfl Tryz.underlying124 rfl) fun a hF=>dq 6 [1,2,3,4,5,6] hF hS rfl fun a hF=>d_1 7 Kr<|d_op rfl rfl<|e_buildSlice hF hW rfl (fun w=>bs_ImgL_186_2_0_1 _ _ w) rfl rfl rfl fun b1 a wc hF hW=>ai (hW.ds [0,0,1] rfl) fun hS=>d_1 8 Kr ?_;refine d_op rfl rfl (e_callp hF rfl rfl en_54 Rl rfl rfl (into_call (m:=2) (((hW.front 0 rfl rfl).front 3 rfl rfl).front 2 rfl rfl) Dc Dc) ?_);rintro e w1 (⟨rfl,hm,hN⟩|⟨rfl,hm,hN⟩)
 obtain⟨x0,x1,t,rfl⟩:=len2 (show¬l.length<2 by omega)
 replace hW:=hN;refine .inl ⟨_,rfl,fun a hF=>?_⟩;refine ai (hW.ds [0,0] rfl) fun hS=>?_;clear hS;refine d_nil Kr<|end0 Tryz.results61 hF ?_;replace hW:=hW.fs [1,2,2] rfl
 exact .inl ⟨⟨x0.toNat,x1.toNat⟩,t,rfl,by unfold sltP;rw[if_neg Si];rfl,hW⟩
 replace hW:=hN;refine .inr ⟨_,rfl,?_⟩;refine endp hF ?_
 exact .inr ⟨rfl,if_pos Om,hW.none_⟩
theorem int_in{w:World}{X:Nat→Prop}{bg bp bx:Nat}{l:List UInt8}(hW:Wd w X [glassS bg l,glassP bp bg,.blk bx 3 [.int .i64 0]] w):
  Calls Tryz.prog 57 #[.pointer (some ⟨bx,0,none⟩),.pointer (some ⟨bp,0,none⟩)] w fun e w'=>(∃y r,e=.returned (.tuple #[])∧numOf 8 l=some (y,r)∧Wd w X [glassS bg r,glassP bp bg,.blk bx 3 (encI y)] w')∨(e=.panicked brkI∧numOf 8 l=none∧Wd w X [] w'):=by
 refine enter Tryz.func57 rfl Tryz.ntmps57 rfl fun a hF=>c_r<|pq 1 hF rfl fun a hF=>pv hF hW (y_loadOwn hF rfl 1 rfl rfl Tryz.underlying124 rfl) fun a hF=>?_;refine pe (e_callp hF rfl rfl en_55 Rl rfl rfl (number_call (size:=8) (hW.front 0 rfl rfl) Dc) ?_);rintro e w1 (⟨n,r,rfl,hT,hN⟩|⟨rfl,hT,hN⟩);replace hW:=hN;refine .inl ⟨_,rfl,fun a hF=>?_⟩;refine pq 1 hF rfl fun a hF=>pe<|e_store rfl hF hW rfl rfl 2 rfl rfl rfl sz_3 fun wc hW=>l_nil<|end0 Tryz.results57 hF ?_
 exact .inl ⟨n,r,rfl,hT,hW⟩
 replace hW:=hN;refine .inr ⟨_,rfl,?_⟩;refine endp hF ?_
 exact .inr ⟨rfl,hT,hW.none_⟩
theorem onei_ins(bp:Nat):OneI 53 bp 118 [.int .i64 0,.int .i64 0,.int .i64 0,.int .i64 0] id Ins.cells (fun _ _=>True) insP:=fun w0 w X es bg bx l hW=>by
 obtain⟨X',hL,hback⟩:=Own.lendI [_,_,_] hW
 refine(ins_in hL).mono ?_
 rintro e w' (⟨y,r,rfl,h1,hN⟩|⟨rfl,h1,hN⟩)
 ·refine .inl ⟨y,r,rfl,h1,?_⟩
  have h2:=((hback _ _ hN).free (R:=fun _=>True) (fun _=>trivial))
  exact((h2.front 3 rfl rfl).front 3 rfl rfl).front 3 rfl rfl
 ·exact .inr ⟨rfl,h1,hback _ _ hN⟩
theorem onei_chn(bp:Nat):OneI 59 bp 121 [.int .i64 0,.int .i64 0,.int .i64 0] id Chn.cells (fun _ _=>True) chnP:=fun w0 w X es bg bx l hW=>by
 obtain⟨X',hL,hback⟩:=Own.lendI [_,_,_] hW
 refine(chn_in hL).mono ?_
 rintro e w' (⟨y,r,rfl,h1,hN⟩|⟨rfl,h1,hN⟩)
 ·refine .inl ⟨y,r,rfl,h1,?_⟩
  have h2:=((hback _ _ hN).free (R:=fun _=>True) (fun _=>trivial))
  exact((h2.front 3 rfl rfl).front 3 rfl rfl).front 3 rfl rfl
 ·exact .inr ⟨rfl,h1,hback _ _ hN⟩
theorem onei_slt(bp:Nat):OneI 61 bp 123 [.int .i64 0,.int .i64 0] id Slt.cells (fun _ _=>True) sltP:=fun w0 w X es bg bx l hW=>by
 obtain⟨X',hL,hback⟩:=Own.lendI [_,_,_] hW
 refine(slt_in hL).mono ?_
 rintro e w' (⟨y,r,rfl,h1,hN⟩|⟨rfl,h1,hN⟩)
 ·refine .inl ⟨y,r,rfl,h1,?_⟩
  have h2:=((hback _ _ hN).free (R:=fun _=>True) (fun _=>trivial))
  exact((h2.front 3 rfl rfl).front 3 rfl rfl).front 3 rfl rfl
 ·exact .inr ⟨rfl,h1,hback _ _ hN⟩
theorem onei_int(bp:Nat):OneI 57 bp 3 [.int .i64 0] id encI (fun _ _=>True) (numOf 8):=fun w0 w X es bg bx l hW=>by
 obtain⟨X',hL,hback⟩:=Own.lendI [_,_,_] hW
 refine(int_in hL).mono ?_
 rintro e w' (⟨y,r,rfl,h1,hN⟩|⟨rfl,h1,hN⟩)
 ·refine .inl ⟨y,r,rfl,h1,?_⟩
  have h2:=((hback _ _ hN).free (R:=fun _=>True) (fun _=>trivial))
  exact((h2.front 3 rfl rfl).front 3 rfl rfl).front 3 rfl rfl
 ·exact .inr ⟨rfl,h1,hback _ _ hN⟩
set_option maxHeartbeats 4000000 in
theorem prt_in{w:World}{X:Nat→Prop}{bg bp bx:Nat}{l:List UInt8}(hW:Wd w X [glassS bg l,glassP bp bg,.blk bx 43 [.slice none 0 0,.slice none 0 0]] w):
  Calls Tryz.prog 51 #[.pointer (some ⟨bx,0,none⟩),.pointer (some ⟨bp,0,none⟩)] w fun e w'=>(∃(y:PP) (r:List UInt8),e=.returned (.tuple #[])∧prtP l=some (y.1,r)∧Wd w X [glassS bg r,glassP bp bg,.blk bx 43 (encP y),.res y.At] w')∨(e=.panicked brkI∧prtP l=none∧Wd w X [] w'):=by
 refine enter Tryz.func51 rfl Tryz.ntmps51 rfl fun a hF=>c_sr<|pq 1 hF rfl fun a hF=>pv hF hW (y_loadOwn hF rfl 1 rfl rfl Tryz.underlying124 rfl) fun a hF=>pv hF hW (y_makeFunc hF rfl) fun a hF=>?_;refine pe (e_callp hF rfl rfl en_52 Rl rfl rfl (list_ins_call en_53 (onei_ins bp) ((hW.front 1 rfl rfl).front 1 rfl rfl)) ?_);rintro e w1 (⟨xs,r,A1,c1,rfl,hT,hN⟩|⟨rfl,hT,hN⟩);replace hW:=hN;refine .inl ⟨_,rfl,fun a hF=>?_⟩;refine pq 2 hF rfl fun a hF=>pe<|e_store rfl hF hW rfl rfl 4 rfl rfl rfl sz_40 fun wc hW=>ltr<|pq 1 hF rfl fun a hF=>pv hF hW (y_loadOwn hF rfl 3 rfl rfl Tryz.underlying124 rfl) fun a hF=>pv hF hW (y_makeFunc hF rfl) fun a hF=>?_;refine pe (e_callp hF rfl rfl en_56 Rl rfl rfl (list_int_call en_57 (onei_int bp) ((hW.front 3 rfl rfl).front 3 rfl rfl)) ?_);rintro e w1 (⟨ys,r2,A2,c2,rfl,hT2,hN⟩|⟨rfl,hT2,hN⟩);replace hW:=hN;refine .inl ⟨_,rfl,fun a hF=>?_⟩;refine pq 2 hF rfl fun a hF=>pe<|e_store rfl hF hW rfl rfl 6 rfl rfl rfl sz_41 fun wc hW=>l_nil<|end0 Tryz.results51 hF ?_;replace hW:=hW.ds [1,4] rfl;replace hW:=hW.fs [4,3,3,3,4] rfl
 have hW2:=((hW.row_res 0 rfl).row_res 1 rfl).res2 (R:=PP.At (⟨xs,ys⟩,⟨A1,c1,A2,c2⟩)) fun u h1 h2=>⟨Flat.of_own h1 rfl,Ints.of_own (l:=ys) (by rw[←encI_map];exact h2)⟩
 rw[List.map_id] at hT hT2
 exact .inl ⟨(⟨xs,ys⟩,⟨A1,c1,A2,c2⟩),r2,rfl,by unfold prtP;rw[hT,Option.bind_some,hT2];rfl,((hW2.front 3 rfl rfl).front 3 rfl rfl).front 3 rfl rfl⟩
 replace hW:=hN;refine .inr ⟨_,rfl,?_⟩;refine endp hF ?_
 rw[List.map_id] at hT
 exact .inr ⟨rfl,by unfold prtP;rw[hT,Option.bind_some,hT2];rfl,hW.none_⟩
 replace hW:=hN;refine .inr ⟨_,rfl,?_⟩;refine t_p<|endp hF ?_
 exact .inr ⟨rfl,by unfold prtP;rw[hT];rfl,hW.none_⟩
theorem onei_prt(bp:Nat):OneI 51 bp 43 [.slice none 0 0,.slice none 0 0] Prod.fst encP PP.At prtP:=fun w0 w X es bg bx l hW=>by
 obtain⟨X',hL,hback⟩:=Own.lendI [_,_,_] hW
 refine(prt_in hL).mono ?_
 rintro e w' (⟨y,r,rfl,h1,hN⟩|⟨rfl,h1,hN⟩)
 ·exact .inl ⟨y,r,rfl,h1,hback _ _ hN⟩
 ·exact .inr ⟨rfl,h1,hback _ _ hN⟩
end Go.Proofs.YtndcjmopebcdgaaGreatDoor
