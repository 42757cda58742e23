/- view.Of: what a partition sees; SameViews. -/
import Derived.Test.YtndcjmopebcdgaaGreatKernP
import Derived.Test.YtndcjmopebcdgaaGreatKernN
import Derived.Test.YtndcjmopebcdgaaGreatFlowB
import Derived.Test.YtndcjmopebcdgaaGreatConfD1
set_option linter.unusedSimpArgs false
set_option linter.unusedVariables false
namespace Go.Proofs.YtndcjmopebcdgaaGreat
open Go.ChangeShapes Go.WideShapes Go.ChangeAt Go.RowKit
theorem bs_ViewA_28_1_0(x0:Option Addr)(x0n x0c:Nat)(w:World):(Instr.buildSlice 28 1 #[(0,(.agg #[(.slice x0 x0n x0c)]))]).run Tryz.prog w=.ok (.slice (some ⟨w.heap.size,0,none⟩) 1 1) (w.alloc (.cells #[(.slice x0 x0n x0c)] 44)):=by kernel_rfl
theorem bu_ViewA_44_0(x0:Option Addr)(x0n x0c:Nat)(w:World):(Instr.build 44 #[(0,(.slice x0 x0n x0c))]).run Tryz.prog w=.ok (.agg #[(.slice x0 x0n x0c)]) w:=by kernel_rfl
theorem bu_ViewA_53_(w:World):(Instr.build 53 #[]).run Tryz.prog w=.ok (.agg #[(.int .i64 0),(.int .i64 0),(.int .i64 0),(.int .i64 0),(.int .i64 0),(.int .i64 0),(.int .i64 0),(.int .i64 0),(.int .i64 0),(.int .i64 0),(.int .i64 0),(.int .i64 0),(.int .i64 0),(.int .i64 0),(.slice none 0 0),(.int .i64 0),(.slice none 0 0)]) w:=by kernel_rfl
theorem bu_ViewA_53_0(x0:Int)(x1:Int)(x2:Int)(x3:Int)(x4:Int)(x5:Int)(x6:Int)(x7:Int)(x8:Int)(x9:Int)(x10:Int)(x11:Int)(x12:Int)(x13:Int)(x14:Option Addr)(x14n x14c:Nat)(x15:Int)(w:World):(Instr.build 53 #[(0,(.agg #[(.int .i64 x0),(.int .i64 x1),(.int .i64 x2),(.int .i64 x3),(.int .i64 x4),(.int .i64 x5),(.int .i64 x6),(.int .i64 x7),(.int .i64 x8),(.int .i64 x9),(.int .i64 x10),(.int .i64 x11),(.int .i64 x12),(.int .i64 x13),(.slice x14 x14n x14c),(.int .i64 x15)]))]).run Tryz.prog w=.ok (.agg #[(.int .i64 x0),(.int .i64 x1),(.int .i64 x2),(.int .i64 x3),(.int .i64 x4),(.int .i64 x5),(.int .i64 x6),(.int .i64 x7),(.int .i64 x8),(.int .i64 x9),(.int .i64 x10),(.int .i64 x11),(.int .i64 x12),(.int .i64 x13),(.slice x14 x14n x14c),(.int .i64 x15),(.slice none 0 0)]) w:=by kernel_rfl
set_option maxRecDepth 100000
structure Vw where
 cell:Cel
 lines:List (List Int)
instance :DecidableEq Vw:=fun x y=>decidable_of_iff (x.cell=y.cell∧x.lines=y.lines)
 ⟨fun h=>by cases x;cases y;simp_all,fun h=>by subst h;exact⟨rfl,rfl⟩⟩
structure VD where
 cell:CD
 lines:List LD
 la:Option Addr
 lc:Nat
def VD.vw(v:VD):Vw:=⟨v.cell.c,v.lines.map LD.vals⟩
def VD.val(v:VD):Value:=.agg (encC v.cell++[Value.slice v.la v.lines.length v.lc]).toArray
structure VD.At(v:VD)(u:World):Prop where
 cell:v.cell.At u
 lines:Flat encL 1 u (.slice v.la v.lines.length v.lc) v.lines
 each:∀q,q∈v.lines→q.At u
def VD.zero:VD:=⟨CD0,[],none,0⟩
theorem VD.zero_at(w:World):VD.zero.At w:=⟨Ints.nil_,Flat.nil_,fun _ h=>by cases h⟩
def Vw.zero:Vw:=⟨Cel.zero,[]⟩
def touches(c:Chn)(p:Int):Bool:=c.from_==p||c.to_==p
def linesTo(cs:List Chn)(ls:List (List Int))(p:Int)(k:Nat):List (List Int):=((List.range k).filter fun i=>touches (cs.getD i C0) p).map fun i=>ls.getD i []
theorem linesTo_yes{cs:List Chn}{ls:List (List Int)}{p:Int}{k:Nat}(h:touches (cs.getD k C0) p=true):linesTo cs ls p (k+1)=linesTo cs ls p k++[ls.getD k []]:=by
 unfold linesTo
 rw[List.range_succ,List.filter_append,List.map_append,show(List.filter (fun i=>touches (cs.getD i C0) p) [k])=[k] from List.filter_cons_of_pos h]
 rfl
theorem linesTo_no{cs:List Chn}{ls:List (List Int)}{p:Int}{k:Nat}(h:touches (cs.getD k C0) p=false):linesTo cs ls p (k+1)=linesTo cs ls p k:=by
 unfold linesTo
 rw[List.range_succ,List.filter_append,List.map_append,show(List.filter (fun i=>touches (cs.getD i C0) p) [k])=[] from List.filter_cons_of_neg (by rw[h];decide)]
 exact List.append_nil _
def viewOf(s:Sys)(w:Wrl)(p:Nat):Vw:=⟨w.cells.getD p Cel.zero,linesTo s.chans w.lines p s.chans.length⟩
def viewErr(s:Sys)(w:Wrl)(p:Int):Int:=if chkWorld s w=0 then thereErr s p else chkWorld s w
def viewOr(s:Sys)(w:Wrl)(p:Int):Vw:=if viewErr s w p=0 then viewOf s w p.toNat else Vw.zero
theorem viewErr_c{s:Sys}{w:Wrl}{p:Int}(h:chkWorld s w≠0):viewErr s w p=chkWorld s w:=if_neg h
theorem viewErr_t{s:Sys}{w:Wrl}{p:Int}(h:chkWorld s w=0):viewErr s w p=thereErr s p:=if_pos h
def VD.AtO(v:VD)(u:World):Prop:=v.At u∧v.cell.Own u
theorem VD.zero_atO(w:World):VD.zero.AtO w:=⟨VD.zero_at w,OwnInts.nil_⟩
def VwErrO(w:World)(V:Vw)(E:Int)(e:Ending)(w':World):Prop:=∃v:VD,e=.returned (.tuple #[v.val,.int .i64 E])∧v.vw=V∧Below w.heap.size w w'∧OwnRes w w' v.AtO
theorem Wd.res2T{w0 w:World}{X:Nat→Prop}{es:List Asn}{R1 R2 R:World→Prop}(hW:Wd w0 X (.res R1::.res R2::es) w)(h:∀u,R1 u→R2 u→R u):Wd w0 X (.res (fun _=>True)::.res R::es) w:=(hW.res2 h).free fun _=>trivial
set_option maxHeartbeats 8000000 in
theorem viewOfO_any{x:SysD}{y:WD}{w:World}(hx:x.At w)(hy:y.At w)(p:Int):Calls Tryz.prog 10 #[x.val,y.val,.int .i64 p] w (VwErrO w (viewOr x.sys y.wrl p) (viewErr x.sys y.wrl p)):=by
 have hc:=fun w1 (hb:Below w.heap.size w w1)=>kernCheck_any (hx.below hb) (hy.below hb)
 have ht:=fun w1 (hb:Below w.heap.size w w1)=>confThere_any (hx.below hb) p
 by_cases h0:viewErr x.sys y.wrl p=0
 ·have hcw:chkWorld x.sys y.wrl=0:=Decidable.byContradiction fun h=>by rw[viewErr_c h] at h0;exact h h0
  have htp:thereErr x.sys p=0:=by rw[viewErr_t hcw] at h0;exact h0
  obtain⟨hk,hr⟩:=world_right hcw
  obtain⟨-,hpp⟩:=there_zero htp
  obtain⟨hp0,hp1⟩:=part_len hpp
  obtain⟨p,rfl⟩:=Int.eq_ofNat_of_zero_le hp0
  obtain⟨⟨hs1,hs2⟩,hs3,-⟩:=sizes_get (chkSys_zero hk).1
  have hsm:=hr.small hk
  have hcl:=hr.cl
  have hll:=hr.ll
  have hpc:p<y.cells.length:=by omega
  have hval:=hsm.val
  have hcat:=hy.cell hpc
  have hout:=hsm.out p hpc
  rw[show viewOr x.sys y.wrl p=⟨(y.cells.getD p CD0).c,linesTo x.chans (y.lines.map LD.vals) p x.chans.length⟩ from(if_pos h0).trans (by unfold viewOf;rw[Int.toNat_natCast,getD_mapC];rfl),h0]
  rw[hcw] at hc
  rw[htp] at ht
  clear hsm hr h0 hcw htp hpp
  obtain⟨qA,hq⟩:∃q,y.cells.getD p CD0=q:=⟨_,rfl⟩
  obtain⟨⟨atA,rgA,mmA,rdA,outA,enA⟩,wfA,qaA,qkA⟩:=qA
  obtain⟨raA,rbA,rcA,reA,hrA⟩:=len_four wfA.1
  obtain⟨maA,mbA,mcA,mdA,meA,mfA,mgA,mhA,hmA⟩:=len_eight wfA.2
  dsimp only at hrA hmA
  subst hrA hmA
  rw[hq] at hcat hout
  dsimp only at hout
  rw[hq]
  rw[x.val_eq,y.val_eq] at*
  refine enter Tryz.func10 rfl Tryz.ntmps10 rfl fun a hF=>?_
  have hW:=Wd.start w NoB
  refine c_sr ?_;refine pe (e_box hF hW rfl rfl rfl rfl ?_);intro b1 a wc hF hW;refine pe (e_box hF hW rfl rfl rfl rfl ?_);intro b2 a wc hF hW;refine pe (e_alloc hF hW ze_53 rfl rfl rfl ?_);intro b3 a wc hF hW;refine pv hF hW (y_assign hF rfl) fun a hF=>l_nil<|t_n<|c_s<|c_sr<|pv hF hW (y_loadAll hF rfl 2 rfl Tryz.underlying26 rfl sz_26) fun a hF=>pv hF hW (y_loadAll hF rfl 1 rfl Tryz.underlying30 rfl sz_30) fun a hF=>?_;refine pe (e_call hF rfl rfl en_23 Rl rfl rfl (hc _ hW.below) ?_);rintro e w1 ⟨rfl,hb⟩;replace hW:=hW.kept hb;clear hb;refine⟨_,rfl,fun a hF=>?_⟩;refine pv hF hW (y_assign hF rfl) fun a hF=>l_nil ?_;replace hF:=hF.ks [0,1,2,3,4,6,7,8] rfl;refine t_n<|c_sr<|pv hF hW (y_move hF rfl) fun a hF=>pv hF hW (y_neq hF rfl rfl) fun a hF=>?_;replace hF:=hF.ff;refine l_nil ?_;replace hF:=hF.ks [0,1,2,3,4,6,7,8,17] rfl;refine t_n<|c_f hF rfl<|wp_skip<|t_n<|c_s<|c_sr<|pv hF hW (y_loadAll hF rfl 2 rfl Tryz.underlying26 rfl sz_26) fun a hF=>pv hF hW (y_move hF rfl) fun a hF=>?_;refine pe (e_call hF rfl rfl en_28 Rl rfl rfl (ht _ hW.below) ?_);rintro e w1 ⟨rfl,hb⟩;replace hW:=hW.kept hb;clear hb;refine⟨_,rfl,fun a hF=>?_⟩;refine pv hF hW (y_assign hF rfl) fun a hF=>l_nil ?_;replace hF:=hF.ks [0,1,2,3,4,6,7,8,9,17] rfl;refine t_n<|c_sr<|pv hF hW (y_move hF rfl) fun a hF=>pv hF hW (y_neq hF rfl rfl) fun a hF=>?_;replace hF:=hF.ff;refine l_nil ?_;replace hF:=hF.ks [0,1,2,3,4,6,7,8,9,17,24] rfl;refine t_n<|c_f hF rfl<|wp_skip<|t_n<|c_sr<|pv hF hW (y_fieldOwn hF rfl fa_30_1) fun a hF=>pv hF hW (y_loadOwn hF rfl 1 rfl rfl Tryz.underlying27 rfl) fun a hF=>pv hF hW (y_move hF rfl) fun a hF=>pv hF hW (y_indexS hF rfl rfl Od Tryz.underlying27 sz_42 (fun w h=>(hy.cellsR).wd h)) fun a hF=>pv hF hW (y_loadRowW hF rfl (fun w h=>(hy.cellsR).wd h) Od Tryz.underlying42 rfl (by rw[hq];exact sz_42)) fun a hF=>?_;replace hF:=Fr.cast (v':=.agg #[.int .i64 atA,.int .i64 raA,.int .i64 rbA,.int .i64 rcA,.int .i64 reA,.int .i64 maA,.int .i64 mbA,.int .i64 mcA,.int .i64 mdA,.int .i64 meA,.int .i64 mfA,.int .i64 mgA,.int .i64 mhA,.int .i64 rdA,.slice qaA outA.length qkA,.int .i64 enA]) (by rw[hq];rfl) hF;refine pv hF hW (y_build hF rfl (fun w=>bu_ViewA_53_0 _ _ _ _ _ _ _ _ _ _ _ _ _ _ _ _ _ _ w)) fun a hF=>?_;refine pe (e_alloc hF hW ze_53 rfl rfl rfl ?_);intro b4 a wc hF hW;refine pe (e_storeAll rfl hF hW rfl rfl 0 rfl rfl rfl Kr sz_53 ?_);intro wc hW;refine l_nil ?_
  replace hF:=hF.ks [0,1,2,3,4,6,7,8,9,10,17,24] rfl;refine t_n<|c_sr<|pv hF hW (y_fieldOwn hF rfl fa_53_0) fun a hF=>pv hF hW (y_fieldOwn hF rfl fa_42_4) fun a hF=>pv hF hW (y_loadOwn hF rfl 0 rfl rfl Tryz.underlying40 rfl) fun a hF=>?_;refine pe (e_call hF rfl rfl en_33 Rl rfl rfl (clone_intO (show Ints _ (.slice qaA outA.length qkA) outA from hcat.below hW.below) (by show outA.length*8≤_;omega)) ?_);rintro e w1 ⟨A1,n1,rfl,hb,hr⟩;replace hW:=hW.gotR hb hr;refine⟨_,rfl,fun a hF=>?_⟩;refine pv hF hW (y_fieldOwn hF rfl fa_53_0) fun a hF=>pv hF hW (y_fieldOwn hF rfl fa_42_4) fun a hF=>?_;refine pe (e_store rfl hF hW rfl rfl 1 rfl rfl rfl sz_40 ?_);intro wc hW;refine l_nil ?_;replace hF:=hF.ks [0,1,2,3,4,6,7,8,9,10,17,24] rfl;refine t_n<|c_s<|c_sr<|pv hF hW (y_fieldOwn hF rfl fa_26_1) fun a hF=>pv hF hW (y_loadOwn hF rfl 4 rfl rfl Tryz.underlying23 rfl) fun a hF=>pv hF hW (y_len hF rfl Tryz.underlying23) fun a hF=>pv hF hW (y_move hF rfl) fun a hF=>l_nil ?_;replace hF:=hF.ks [0,1,2,3,4,6,7,8,9,10,17,24,40,41,42] rfl;refine t_n<|wp_block ?_;replace hW:=hW.nil_row 44 1;replace hW:=hW.free (R:=fun u=>∀q,q∈([]:List LD)→q.At u) (fun _ _ h=>by cases h);replace hW:=hW.free (R:=fun _=>True) (fun _=>trivial);replace hW:=hW.front 4 rfl rfl;replace hW:=hW.front 3 rfl rfl;replace hW:=hW.front 3 rfl rfl;replace hW:=hW.front 3 rfl rfl;refine c_loop (G:=Nat×Nat×List LD×Option Addr×Nat) (fun(gq:Nat×Nat×List LD×Option Addr×Nat)=>match gq with|⟨k,m,L,A,c⟩=>[(42,.int .i64 (k:Int))]) (fun(gq:Nat×Nat×List LD×Option Addr×Nat)=>match gq with|⟨k,m,L,A,c⟩=>[.res (fun _=>True),.res (fun u=>∀q,q∈L→q.At u),.row 44 1 (.slice A m c) m (L.flatMap encL),.blk b4 53 [.int .i64 atA,.int .i64 raA,.int .i64 rbA,.int .i64 rcA,.int .i64 reA,.int .i64 maA,.int .i64 mbA,.int .i64 mcA,.int .i64 mdA,.int .i64 meA,.int .i64 mfA,.int .i64 mgA,.int .i64 mhA,.int .i64 rdA,.slice A1 outA.length n1,.int .i64 enA,.slice A m c]]) (fun(gq:Nat×Nat×List LD×Option Addr×Nat)=>match gq with|⟨k,m,L,A,c⟩=>k≤x.chans.length∧L.length=m∧m≤k∧L.map LD.vals=linesTo x.chans (y.lines.map LD.vals) p k) (fun(gq:Nat×Nat×List LD×Option Addr×Nat)=>match gq with|⟨k,m,L,A,c⟩=>x.chans.length - k) (0,0,[],none,0) (hF.ks [0,1,2,3,4,6,7,8,9,10,17,24,40,41] rfl) (Fr.cons hF (t:=42) rfl Rg (Fr.nil hF)) (hW) ?_ ?_
  ·exact⟨by omega,rfl,by omega,rfl⟩
  clear hF hW
  try clear a
  intro gq a wc hC hF hW
  obtain⟨k,m,L,A,c⟩:=gq
  dsimp only at hC
  obtain⟨hkc,hLm,hmk,hlin⟩:=hC
  refine c_sr<|pv hF hW (y_lss hF rfl rfl) fun a hF=>?_;refine Fr.splitD hF ?_ ?_
  ·intro h5 hF;refine l_nil<|t_n<|c_s<|c_t hF rfl<|wp_skip<|t_n<|c_s<|wp_block ?_
   obtain⟨z,hz⟩:∃q,x.chans.getD k C0=q:=⟨_,rfl⟩
   obtain⟨kd,fr,tt⟩:=z
   have hlat:=hy.line (k:=k) Om
   have hvl:=hval k Om
   obtain⟨z,hlz⟩:∃q,y.lines.getD k LD0=q:=⟨_,rfl⟩
   have hlv:(y.lines.map LD.vals).getD k []=z.vals:=(by rw[←hlz];exact getD_map LD.vals k LD0)
   rw[hlz] at hlat hvl
   obtain⟨lv,lqa,lqk⟩:=z
   dsimp only at hvl hlv
   refine c_sr<|pv hF hW (y_move hF rfl) fun a hF=>pv hF hW (y_indexS hF rfl rfl Od Tryz.underlying23 sz_67 (fun w h=>(hx.chansR).wd h)) fun a hF=>pv hF hW (y_loadRowW hF rfl (fun w h=>(hx.chansR).wd h) Od Tryz.underlying67 rfl (by rw[hz];exact sz_67)) fun a hF=>?_;replace hF:=Fr.cast (v':=.agg #[.int .i64 kd,.int .i64 fr,.int .i64 tt]) (by rw[hz];rfl) hF;refine pe (e_alloc hF hW ze_67 rfl rfl rfl ?_);intro b6 a wc hF hW;refine pv hF hW (y_assign hF rfl) fun a hF=>?_;refine pe (e_storeAll rfl hF hW rfl rfl 0 rfl rfl rfl Kr sz_67 ?_);intro wc hW;refine l_nil ?_;replace hF:=hF.ks [0,1,2,3,4,6,7,8,9,10,11,12,17,24,40,41,42,43] rfl;refine t_n<|c_sr<|pv hF hW (y_fieldOwn hF rfl fa_67_1) fun a hF=>pv hF hW (y_loadOwn hF rfl 0 rfl rfl Tryz.underlying3 rfl) fun a hF=>pv hF hW (y_move hF rfl) fun a hF=>pv hF hW (y_eql hF rfl rfl) fun a hF=>?_;refine Fr.splitD hF ?_ ?_
   ·intro h7 hF;refine pv hF hW (y_move hF rfl) fun a hF=>pk hF (wn hF rfl rfl rfl) fun a hF=>pk hF (wn hF rfl rfl rfl) fun a hF=>pk hF (wn hF rfl rfl rfl) fun a hF=>pk hF (wn hF rfl rfl rfl) fun a hF=>pv hF hW (y_pick hF rfl rfl) fun a hF=>l_nil ?_;replace hF:=hF.ks [0,1,2,3,4,6,7,8,9,10,11,12,17,24,40,41,42,43,56] rfl;refine t_n<|c_t hF rfl<|c_d mixed_ok hW ((((hW.del 1 rfl).del 2 rfl).del 2 rfl)) ?_
    clear hW;intro wc hW hS
    refine dv 0 rfl hF hS (y_fieldOwn hF rfl fa_53_1) fun a hF=>dv 2 rfl hF hS (y_fieldOwn hF rfl fa_30_2) fun a hF=>dv 3 rfl hF hS (y_loadOwn hF rfl 4 rfl rfl Tryz.underlying28 rfl) fun a hF=>dv 4 rfl hF hS (y_move hF rfl) fun a hF=>dv 5 rfl hF hS (y_indexS hF rfl rfl Od Tryz.underlying28 sz_44 (fun w h=>(hy.linesR).wd h)) fun a hF=>dv 6 rfl hF hS (y_fieldRow hF rfl fa_44_0) fun a hF=>dv 7 rfl hF hS (y_loadRow hF rfl (fun w h=>(hy.linesR).wd h) Od (show _=some (.slice lqa lv.length lqk) by rw[hlz];rfl) Tryz.underlying40 rfl) fun a hF=>?_;refine d_2 1 8 Kr ?_ ?_
    ·refine d_opval rfl hF rfl hW (y_loadOwn hF rfl 4 rfl rfl Tryz.underlying28 rfl) rfl rfl fun a hF=>?_;replace hS:=(((hW.del 1 rfl).del 2 rfl).del 2 rfl);refine⟨hS,?_⟩;refine d_1 8 Kr ?_;refine d_op rfl rfl (e_call hF rfl rfl en_33 Rl rfl rfl (clone_int (show Ints _ (.slice lqa lv.length lqk) lv from hlat.below hW.below) (by show lv.length*8≤_;omega)) ?_);rintro e w1 ⟨A3,n3,rfl,hb,hr⟩;replace hW:=hW.del 1 rfl;replace hW:=hW.gotR hb hr;refine⟨_,rfl,fun a hF=>?_⟩;replace hS:=(((hW.del 0 rfl).del 2 rfl).del 2 rfl);refine⟨hS,?_⟩;refine dv 9 rfl hF hS (y_build hF rfl (fun w=>bu_ViewA_44_0 _ _ _ w)) fun a hF=>d_1 10 Kr ?_;refine d_op rfl rfl (e_buildSlice hF hW rfl (fun w=>bs_ViewA_28_1_0 _ _ _ w) rfl rfl rfl ?_);intro b8 a wc hF hW;replace hS:=((((hW.del 0 rfl).del 0 rfl).del 2 rfl).del 2 rfl);refine⟨hS,?_⟩;refine d_1 11 Kr ?_;refine d_op rfl rfl (e_append hF hW 4 rfl rfl rfl Tryz.underlying28 inf_44 rfl Dc (rowAt_blk (hW.blk 0 rfl) 1 1 rfl) Oc (show _=m+1 by omega) (show _=(L++[LD.mk lv A3 n3]).flatMap encL by simp[encL]) Ox Ml rfl rfl ?_);intro A9 c10 a wc hF hW;replace hS:=((((hW.del 0 rfl).del 0 rfl).del 2 rfl).del 2 rfl);refine⟨hS,?_⟩;refine dv 12 rfl hF hS (y_fieldOwn hF rfl fa_53_1) fun a hF=>d_1 13 Kr ?_;refine d_op rfl rfl (e_store rfl hF hW rfl rfl 5 rfl rfl rfl sz_28 ?_);intro wc hW;replace hS:=((((hW.del 0 rfl).del 0 rfl).del 2 rfl).del 2 rfl);refine⟨hS,?_⟩;clear hS;refine d_nil Kr ?_;replace hF:=hF.ks [0,1,2,3,4,6,7,8,9,10,11,12,17,24,40,41,42,43,56] rfl;refine b_n<|t_n<|c_r<|pv hF hW (y_add hF rfl rfl (IntWalk.i64_in _ Om)) fun a hF=>?_;replace hF:=hF.drop 42;refine pv hF hW (y_move hF rfl) fun a hF=>l_nil ?_;replace hF:=hF.ks [0,1,2,3,4,6,7,8,9,10,11,12,17,24,40,41,42,43,56] rfl;replace hW:=hW.del 0 rfl;replace hW:=hW.del 1 rfl;refine t_n ?_;refine⟨(k+1,m+1,L++[LD.mk lv A3 n3],A9,c10),?_,?_,?_,?_⟩
     ·exact⟨by omega,by simp[hLm],by omega,by rw[linesTo_yes (by unfold touches;rw[hz];simp_all),List.map_append,hlin,hlv];rfl⟩
     ·first|omega|(dsimp only;omega)
     ·exact Fr.app (Fr.cons hF (t:=42) rfl Rf (Fr.nil hF)) (hF.ks [0,1,2,3,4,6,7,8,9,10,17,24,40,41] rfl)
     ·exact hW.res2T fun u h1 h3 q hq=>(List.mem_append.1 hq).elim (h3 q) fun h=>by rw[List.mem_singleton.1 h];exact h1
    ·refine d_op rfl rfl (e_call hF rfl rfl en_33 Rl rfl rfl (clone_int (show Ints _ (.slice lqa lv.length lqk) lv from hlat.below hW.below) (by show lv.length*8≤_;omega)) ?_);rintro e w1 ⟨A3,n3,rfl,hb,hr⟩;replace hW:=hW.del 1 rfl;replace hW:=hW.gotR hb hr;refine⟨_,rfl,fun a hF=>?_⟩;replace hS:=(((hW.del 0 rfl).del 2 rfl).del 2 rfl);refine⟨hS,?_⟩;refine dv 9 rfl hF hS (y_build hF rfl (fun w=>bu_ViewA_44_0 _ _ _ w)) fun a hF=>?_;refine d_2 1 10 Kr ?_ ?_
     ·refine d_opval rfl hF rfl hW (y_loadOwn hF rfl 4 rfl rfl Tryz.underlying28 rfl) rfl rfl fun a hF=>?_;replace hS:=(((hW.del 0 rfl).del 2 rfl).del 2 rfl);refine⟨hS,?_⟩;refine d_1 10 Kr ?_;refine d_op rfl rfl (e_buildSlice hF hW rfl (fun w=>bs_ViewA_28_1_0 _ _ _ w) rfl rfl rfl ?_);intro b11 a wc hF hW;replace hS:=((((hW.del 0 rfl).del 0 rfl).del 2 rfl).del 2 rfl);refine⟨hS,?_⟩;refine d_1 11 Kr ?_;refine d_op rfl rfl (e_append hF hW 4 rfl rfl rfl Tryz.underlying28 inf_44 rfl Dc (rowAt_blk (hW.blk 0 rfl) 1 1 rfl) Oc (show _=m+1 by omega) (show _=(L++[LD.mk lv A3 n3]).flatMap encL by simp[encL]) Ox Ml rfl rfl ?_);intro A12 c13 a wc hF hW;replace hS:=((((hW.del 0 rfl).del 0 rfl).del 2 rfl).del 2 rfl);refine⟨hS,?_⟩;refine dv 12 rfl hF hS (y_fieldOwn hF rfl fa_53_1) fun a hF=>d_1 13 Kr ?_;refine d_op rfl rfl (e_store rfl hF hW rfl rfl 5 rfl rfl rfl sz_28 ?_);intro wc hW;replace hS:=((((hW.del 0 rfl).del 0 rfl).del 2 rfl).del 2 rfl);refine⟨hS,?_⟩;clear hS;refine d_nil Kr ?_;replace hF:=hF.ks [0,1,2,3,4,6,7,8,9,10,11,12,17,24,40,41,42,43,56] rfl;refine b_n<|t_n<|c_r<|pv hF hW (y_add hF rfl rfl (IntWalk.i64_in _ Om)) fun a hF=>?_;replace hF:=hF.drop 42;refine pv hF hW (y_move hF rfl) fun a hF=>l_nil ?_;replace hF:=hF.ks [0,1,2,3,4,6,7,8,9,10,11,12,17,24,40,41,42,43,56] rfl;replace hW:=hW.del 0 rfl;replace hW:=hW.del 1 rfl;refine t_n ?_;refine⟨(k+1,m+1,L++[LD.mk lv A3 n3],A12,c13),?_,?_,?_,?_⟩
      ·exact⟨by omega,by simp[hLm],by omega,by rw[linesTo_yes (by unfold touches;rw[hz];simp_all),List.map_append,hlin,hlv];rfl⟩
      ·first|omega|(dsimp only;omega)
      ·exact Fr.app (Fr.cons hF (t:=42) rfl Rf (Fr.nil hF)) (hF.ks [0,1,2,3,4,6,7,8,9,10,17,24,40,41] rfl)
      ·exact hW.res2T fun u h1 h3 q hq=>(List.mem_append.1 hq).elim (h3 q) fun h=>by rw[List.mem_singleton.1 h];exact h1
     ·refine d_op rfl rfl (e_buildSlice hF hW rfl (fun w=>bs_ViewA_28_1_0 _ _ _ w) rfl rfl rfl ?_);intro b14 a wc hF hW;replace hS:=((((hW.del 0 rfl).del 0 rfl).del 2 rfl).del 2 rfl);refine⟨hS,?_⟩;refine d_1 1 Kr<|d_opval rfl hF rfl hW (y_loadOwn hF rfl 5 rfl rfl Tryz.underlying28 rfl) rfl rfl fun a hF=>?_;replace hS:=((((hW.del 0 rfl).del 0 rfl).del 2 rfl).del 2 rfl);refine⟨hS,?_⟩;refine d_1 11 Kr ?_;refine d_op rfl rfl (e_append hF hW 4 rfl rfl rfl Tryz.underlying28 inf_44 rfl Dc (rowAt_blk (hW.blk 0 rfl) 1 1 rfl) Oc (show _=m+1 by omega) (show _=(L++[LD.mk lv A3 n3]).flatMap encL by simp[encL]) Ox Ml rfl rfl ?_);intro A15 c16 a wc hF hW;replace hS:=((((hW.del 0 rfl).del 0 rfl).del 2 rfl).del 2 rfl);refine⟨hS,?_⟩;refine dv 12 rfl hF hS (y_fieldOwn hF rfl fa_53_1) fun a hF=>d_1 13 Kr ?_;refine d_op rfl rfl (e_store rfl hF hW rfl rfl 5 rfl rfl rfl sz_28 ?_);intro wc hW;replace hS:=((((hW.del 0 rfl).del 0 rfl).del 2 rfl).del 2 rfl);refine⟨hS,?_⟩;clear hS;refine d_nil Kr ?_;replace hF:=hF.ks [0,1,2,3,4,6,7,8,9,10,11,12,17,24,40,41,42,43,56] rfl;refine b_n<|t_n<|c_r<|pv hF hW (y_add hF rfl rfl (IntWalk.i64_in _ Om)) fun a hF=>?_;replace hF:=hF.drop 42;refine pv hF hW (y_move hF rfl) fun a hF=>l_nil ?_;replace hF:=hF.ks [0,1,2,3,4,6,7,8,9,10,11,12,17,24,40,41,42,43,56] rfl;replace hW:=hW.del 0 rfl;replace hW:=hW.del 1 rfl;refine t_n ?_;refine⟨(k+1,m+1,L++[LD.mk lv A3 n3],A15,c16),?_,?_,?_,?_⟩
      ·exact⟨by omega,by simp[hLm],by omega,by rw[linesTo_yes (by unfold touches;rw[hz];simp_all),List.map_append,hlin,hlv];rfl⟩
      ·first|omega|(dsimp only;omega)
      ·exact Fr.app (Fr.cons hF (t:=42) rfl Rf (Fr.nil hF)) (hF.ks [0,1,2,3,4,6,7,8,9,10,17,24,40,41] rfl)
      ·exact hW.res2T fun u h1 h3 q hq=>(List.mem_append.1 hq).elim (h3 q) fun h=>by rw[List.mem_singleton.1 h];exact h1
   ·intro h7 hF;refine pv hF hW (y_move hF rfl) fun a hF=>pvg hF hW (y_fieldOwn hF rfl fa_67_2) (ws hF rfl rfl) fun a hF=>pvg hF hW (y_loadOwn hF rfl 0 rfl rfl Tryz.underlying3 rfl) (ws hF rfl rfl) fun a hF=>pvg hF hW (y_move hF rfl) (ws hF rfl rfl) fun a hF=>pvg hF hW (y_eql hF rfl rfl) (ws hF rfl rfl) fun a hF=>?_;refine Fr.splitD hF ?_ ?_
    ·intro h17 hF;refine pv hF hW (y_pick hF rfl rfl) fun a hF=>l_nil ?_;replace hF:=hF.ks [0,1,2,3,4,6,7,8,9,10,11,12,17,24,40,41,42,43,56] rfl;refine t_n<|c_t hF rfl<|c_d mixed_ok hW ((((hW.del 1 rfl).del 2 rfl).del 2 rfl)) ?_
     clear hW;intro wc hW hS
     refine dv 0 rfl hF hS (y_fieldOwn hF rfl fa_53_1) fun a hF=>dv 2 rfl hF hS (y_fieldOwn hF rfl fa_30_2) fun a hF=>dv 3 rfl hF hS (y_loadOwn hF rfl 4 rfl rfl Tryz.underlying28 rfl) fun a hF=>dv 4 rfl hF hS (y_move hF rfl) fun a hF=>dv 5 rfl hF hS (y_indexS hF rfl rfl Od Tryz.underlying28 sz_44 (fun w h=>(hy.linesR).wd h)) fun a hF=>dv 6 rfl hF hS (y_fieldRow hF rfl fa_44_0) fun a hF=>dv 7 rfl hF hS (y_loadRow hF rfl (fun w h=>(hy.linesR).wd h) Od (show _=some (.slice lqa lv.length lqk) by rw[hlz];rfl) Tryz.underlying40 rfl) fun a hF=>?_;refine d_2 1 8 Kr ?_ ?_
     ·refine d_opval rfl hF rfl hW (y_loadOwn hF rfl 4 rfl rfl Tryz.underlying28 rfl) rfl rfl fun a hF=>?_;replace hS:=(((hW.del 1 rfl).del 2 rfl).del 2 rfl);refine⟨hS,?_⟩;refine d_1 8 Kr ?_;refine d_op rfl rfl (e_call hF rfl rfl en_33 Rl rfl rfl (clone_int (show Ints _ (.slice lqa lv.length lqk) lv from hlat.below hW.below) (by show lv.length*8≤_;omega)) ?_);rintro e w1 ⟨A3,n3,rfl,hb,hr⟩;replace hW:=hW.del 1 rfl;replace hW:=hW.gotR hb hr;refine⟨_,rfl,fun a hF=>?_⟩;replace hS:=(((hW.del 0 rfl).del 2 rfl).del 2 rfl);refine⟨hS,?_⟩;refine dv 9 rfl hF hS (y_build hF rfl (fun w=>bu_ViewA_44_0 _ _ _ w)) fun a hF=>d_1 10 Kr ?_;refine d_op rfl rfl (e_buildSlice hF hW rfl (fun w=>bs_ViewA_28_1_0 _ _ _ w) rfl rfl rfl ?_);intro b18 a wc hF hW;replace hS:=((((hW.del 0 rfl).del 0 rfl).del 2 rfl).del 2 rfl);refine⟨hS,?_⟩;refine d_1 11 Kr ?_;refine d_op rfl rfl (e_append hF hW 4 rfl rfl rfl Tryz.underlying28 inf_44 rfl Dc (rowAt_blk (hW.blk 0 rfl) 1 1 rfl) Oc (show _=m+1 by omega) (show _=(L++[LD.mk lv A3 n3]).flatMap encL by simp[encL]) Ox Ml rfl rfl ?_);intro A19 c20 a wc hF hW;replace hS:=((((hW.del 0 rfl).del 0 rfl).del 2 rfl).del 2 rfl);refine⟨hS,?_⟩;refine dv 12 rfl hF hS (y_fieldOwn hF rfl fa_53_1) fun a hF=>d_1 13 Kr ?_;refine d_op rfl rfl (e_store rfl hF hW rfl rfl 5 rfl rfl rfl sz_28 ?_);intro wc hW;replace hS:=((((hW.del 0 rfl).del 0 rfl).del 2 rfl).del 2 rfl);refine⟨hS,?_⟩;clear hS;refine d_nil Kr ?_;replace hF:=hF.ks [0,1,2,3,4,6,7,8,9,10,11,12,17,24,40,41,42,43,56] rfl;refine b_n<|t_n<|c_r<|pv hF hW (y_add hF rfl rfl (IntWalk.i64_in _ Om)) fun a hF=>?_;replace hF:=hF.drop 42;refine pv hF hW (y_move hF rfl) fun a hF=>l_nil ?_;replace hF:=hF.ks [0,1,2,3,4,6,7,8,9,10,11,12,17,24,40,41,42,43,56] rfl;replace hW:=hW.del 0 rfl;replace hW:=hW.del 1 rfl;refine t_n ?_;refine⟨(k+1,m+1,L++[LD.mk lv A3 n3],A19,c20),?_,?_,?_,?_⟩
      ·exact⟨by omega,by simp[hLm],by omega,by rw[linesTo_yes (by unfold touches;rw[hz];simp_all),List.map_append,hlin,hlv];rfl⟩
      ·first|omega|(dsimp only;omega)
      ·exact Fr.app (Fr.cons hF (t:=42) rfl Rf (Fr.nil hF)) (hF.ks [0,1,2,3,4,6,7,8,9,10,17,24,40,41] rfl)
      ·exact hW.res2T fun u h1 h3 q hq=>(List.mem_append.1 hq).elim (h3 q) fun h=>by rw[List.mem_singleton.1 h];exact h1
     ·refine d_op rfl rfl (e_call hF rfl rfl en_33 Rl rfl rfl (clone_int (show Ints _ (.slice lqa lv.length lqk) lv from hlat.below hW.below) (by show lv.length*8≤_;omega)) ?_);rintro e w1 ⟨A3,n3,rfl,hb,hr⟩;replace hW:=hW.del 1 rfl;replace hW:=hW.gotR hb hr;refine⟨_,rfl,fun a hF=>?_⟩;replace hS:=(((hW.del 0 rfl).del 2 rfl).del 2 rfl);refine⟨hS,?_⟩;refine dv 9 rfl hF hS (y_build hF rfl (fun w=>bu_ViewA_44_0 _ _ _ w)) fun a hF=>?_;refine d_2 1 10 Kr ?_ ?_
      ·refine d_opval rfl hF rfl hW (y_loadOwn hF rfl 4 rfl rfl Tryz.underlying28 rfl) rfl rfl fun a hF=>?_;replace hS:=(((hW.del 0 rfl).del 2 rfl).del 2 rfl);refine⟨hS,?_⟩;refine d_1 10 Kr ?_;refine d_op rfl rfl (e_buildSlice hF hW rfl (fun w=>bs_ViewA_28_1_0 _ _ _ w) rfl rfl rfl ?_);intro b21 a wc hF hW;replace hS:=((((hW.del 0 rfl).del 0 rfl).del 2 rfl).del 2 rfl);refine⟨hS,?_⟩;refine d_1 11 Kr ?_;refine d_op rfl rfl (e_append hF hW 4 rfl rfl rfl Tryz.underlying28 inf_44 rfl Dc (rowAt_blk (hW.blk 0 rfl) 1 1 rfl) Oc (show _=m+1 by omega) (show _=(L++[LD.mk lv A3 n3]).flatMap encL by simp[encL]) Ox Ml rfl rfl ?_);intro A22 c23 a wc hF hW;replace hS:=((((hW.del 0 rfl).del 0 rfl).del 2 rfl).del 2 rfl);refine⟨hS,?_⟩;refine dv 12 rfl hF hS (y_fieldOwn hF rfl fa_53_1) fun a hF=>d_1 13 Kr ?_;refine d_op rfl rfl (e_store rfl hF hW rfl rfl 5 rfl rfl rfl sz_28 ?_);intro wc hW;replace hS:=((((hW.del 0 rfl).del 0 rfl).del 2 rfl).del 2 rfl);refine⟨hS,?_⟩;clear hS;refine d_nil Kr ?_;replace hF:=hF.ks [0,1,2,3,4,6,7,8,9,10,11,12,17,24,40,41,42,43,56] rfl;refine b_n<|t_n<|c_r<|pv hF hW (y_add hF rfl rfl (IntWalk.i64_in _ Om)) fun a hF=>?_;replace hF:=hF.drop 42;refine pv hF hW (y_move hF rfl) fun a hF=>l_nil ?_;replace hF:=hF.ks [0,1,2,3,4,6,7,8,9,10,11,12,17,24,40,41,42,43,56] rfl;replace hW:=hW.del 0 rfl;replace hW:=hW.del 1 rfl;refine t_n ?_;refine⟨(k+1,m+1,L++[LD.mk lv A3 n3],A22,c23),?_,?_,?_,?_⟩
       ·exact⟨by omega,by simp[hLm],by omega,by rw[linesTo_yes (by unfold touches;rw[hz];simp_all),List.map_append,hlin,hlv];rfl⟩
       ·first|omega|(dsimp only;omega)
       ·exact Fr.app (Fr.cons hF (t:=42) rfl Rf (Fr.nil hF)) (hF.ks [0,1,2,3,4,6,7,8,9,10,17,24,40,41] rfl)
       ·exact hW.res2T fun u h1 h3 q hq=>(List.mem_append.1 hq).elim (h3 q) fun h=>by rw[List.mem_singleton.1 h];exact h1
      ·refine d_op rfl rfl (e_buildSlice hF hW rfl (fun w=>bs_ViewA_28_1_0 _ _ _ w) rfl rfl rfl ?_);intro b24 a wc hF hW;replace hS:=((((hW.del 0 rfl).del 0 rfl).del 2 rfl).del 2 rfl);refine⟨hS,?_⟩;refine d_1 1 Kr<|d_opval rfl hF rfl hW (y_loadOwn hF rfl 5 rfl rfl Tryz.underlying28 rfl) rfl rfl fun a hF=>?_;replace hS:=((((hW.del 0 rfl).del 0 rfl).del 2 rfl).del 2 rfl);refine⟨hS,?_⟩;refine d_1 11 Kr ?_;refine d_op rfl rfl (e_append hF hW 4 rfl rfl rfl Tryz.underlying28 inf_44 rfl Dc (rowAt_blk (hW.blk 0 rfl) 1 1 rfl) Oc (show _=m+1 by omega) (show _=(L++[LD.mk lv A3 n3]).flatMap encL by simp[encL]) Ox Ml rfl rfl ?_);intro A25 c26 a wc hF hW;replace hS:=((((hW.del 0 rfl).del 0 rfl).del 2 rfl).del 2 rfl);refine⟨hS,?_⟩;refine dv 12 rfl hF hS (y_fieldOwn hF rfl fa_53_1) fun a hF=>d_1 13 Kr ?_;refine d_op rfl rfl (e_store rfl hF hW rfl rfl 5 rfl rfl rfl sz_28 ?_);intro wc hW;replace hS:=((((hW.del 0 rfl).del 0 rfl).del 2 rfl).del 2 rfl);refine⟨hS,?_⟩;clear hS;refine d_nil Kr ?_;replace hF:=hF.ks [0,1,2,3,4,6,7,8,9,10,11,12,17,24,40,41,42,43,56] rfl;refine b_n<|t_n<|c_r<|pv hF hW (y_add hF rfl rfl (IntWalk.i64_in _ Om)) fun a hF=>?_;replace hF:=hF.drop 42;refine pv hF hW (y_move hF rfl) fun a hF=>l_nil ?_;replace hF:=hF.ks [0,1,2,3,4,6,7,8,9,10,11,12,17,24,40,41,42,43,56] rfl;replace hW:=hW.del 0 rfl;replace hW:=hW.del 1 rfl;refine t_n ?_;refine⟨(k+1,m+1,L++[LD.mk lv A3 n3],A25,c26),?_,?_,?_,?_⟩
       ·exact⟨by omega,by simp[hLm],by omega,by rw[linesTo_yes (by unfold touches;rw[hz];simp_all),List.map_append,hlin,hlv];rfl⟩
       ·first|omega|(dsimp only;omega)
       ·exact Fr.app (Fr.cons hF (t:=42) rfl Rf (Fr.nil hF)) (hF.ks [0,1,2,3,4,6,7,8,9,10,17,24,40,41] rfl)
       ·exact hW.res2T fun u h1 h3 q hq=>(List.mem_append.1 hq).elim (h3 q) fun h=>by rw[List.mem_singleton.1 h];exact h1
    ·intro h17 hF;refine pv hF hW (y_pick hF rfl rfl) fun a hF=>l_nil ?_;replace hF:=hF.ks [0,1,2,3,4,6,7,8,9,10,11,12,17,24,40,41,42,43,56] rfl;refine t_n<|c_f hF rfl<|wp_skip<|b_n<|t_n<|c_r<|pv hF hW (y_add hF rfl rfl (IntWalk.i64_in _ Om)) fun a hF=>?_;replace hF:=hF.drop 42;refine pv hF hW (y_move hF rfl) fun a hF=>l_nil ?_;replace hF:=hF.ks [0,1,2,3,4,6,7,8,9,10,11,12,17,24,40,41,42,43,56] rfl;replace hW:=hW.del 0 rfl;refine t_n ?_;refine⟨(k+1,m,L,A,c),?_,?_,?_,?_⟩
     ·exact⟨by omega,hLm,by omega,by rw[linesTo_no (by unfold touches;rw[hz];simp_all)];exact hlin⟩
     ·first|omega|(dsimp only;omega)
     ·exact Fr.app (Fr.cons hF (t:=42) rfl Rf (Fr.nil hF)) (hF.ks [0,1,2,3,4,6,7,8,9,10,17,24,40,41] rfl)
     ·exact hW
  ·intro h5 hF;refine l_nil<|t_n<|c_s<|c_f hF rfl<|wp_exit<|t_x<|t_x<|b_h<|t_n<|c_sr<|pv hF hW (y_loadAll hF rfl 3 rfl Tryz.underlying53 rfl sz_53) fun a hF=>?_;refine pe (e_storeAll rfl hF hW rfl rfl 5 rfl rfl rfl Kr sz_53 ?_);intro wc hW;replace hF:=hF.drop 7;refine pv hF hW (y_assign hF rfl) fun a hF=>l_nil ?_;replace hF:=hF.ks [0,1,2,3,4,6,7,8,9,10,17,24,40,41,42,43] rfl;refine t_n<|wp_ret<|ret2 Tryz.results10 hF (rv_c hF rfl hW 5 rfl Tryz.underlying53 rfl sz_53) (rv_t hF rfl) ?_;replace hW:=hW.del 0 rfl;replace hW:=hW.del 2 rfl;replace hW:=hW.del 3 rfl;replace hW:=hW.del 3 rfl;replace hW:=hW.del 3 rfl;replace hW:=hW.front 1 rfl rfl;replace hW:=hW.front 1 rfl rfl;replace hW:=hW.front 2 rfl rfl
   obtain rfl:k=x.chans.length:=Om
   subst hLm
   exact⟨⟨⟨⟨atA,[raA,rbA,rcA,reA],[maA,mbA,mcA,mdA,meA,mfA,mgA,mhA],rdA,outA,enA⟩,wfA,A1,n1⟩,L,A,c⟩,rfl,by simp only[VD.vw,hlin],hW.below,((((hW.front 2 rfl rfl).row_res 0 rfl).res3 fun u h1 h2 h3=>⟨⟨OwnInts.ints h2,Flat.of_own h1 rfl,h3⟩,h2⟩).res_res 0 rfl)⟩
 ·rw[show viewOr x.sys y.wrl p=Vw.zero from if_neg h0]
  rw[x.val_eq,y.val_eq] at*
  by_cases hcw:chkWorld x.sys y.wrl=0
  ·have he:=viewErr_t (p:=p) hcw
   rw[hcw] at hc
   rw[he] at h0⊢
   generalize thereErr x.sys p=E at*
   refine enter Tryz.func10 rfl Tryz.ntmps10 rfl fun a hF=>?_
   have hW:=Wd.start w NoB
   refine c_sr ?_;refine pe (e_box hF hW rfl rfl rfl rfl ?_);intro b1 a wc hF hW;refine pe (e_box hF hW rfl rfl rfl rfl ?_);intro b2 a wc hF hW;refine pe (e_alloc hF hW ze_53 rfl rfl rfl ?_);intro b3 a wc hF hW;refine pv hF hW (y_assign hF rfl) fun a hF=>l_nil<|t_n<|c_s<|c_sr<|pv hF hW (y_loadAll hF rfl 2 rfl Tryz.underlying26 rfl sz_26) fun a hF=>pv hF hW (y_loadAll hF rfl 1 rfl Tryz.underlying30 rfl sz_30) fun a hF=>?_;refine pe (e_call hF rfl rfl en_23 Rl rfl rfl (hc _ hW.below) ?_);rintro e w1 ⟨rfl,hb⟩;replace hW:=hW.kept hb;clear hb;refine⟨_,rfl,fun a hF=>?_⟩;refine pv hF hW (y_assign hF rfl) fun a hF=>l_nil ?_;replace hF:=hF.ks [0,1,2,3,4,6,7,8] rfl;refine t_n<|c_sr<|pv hF hW (y_move hF rfl) fun a hF=>pv hF hW (y_neq hF rfl rfl) fun a hF=>?_;replace hF:=hF.ff;refine l_nil ?_;replace hF:=hF.ks [0,1,2,3,4,6,7,8,17] rfl;refine t_n<|c_f hF rfl<|wp_skip<|t_n<|c_s<|c_sr<|pv hF hW (y_loadAll hF rfl 2 rfl Tryz.underlying26 rfl sz_26) fun a hF=>pv hF hW (y_move hF rfl) fun a hF=>?_;refine pe (e_call hF rfl rfl en_28 Rl rfl rfl (ht _ hW.below) ?_);rintro e w1 ⟨rfl,hb⟩;replace hW:=hW.kept hb;clear hb;refine⟨_,rfl,fun a hF=>?_⟩;refine pv hF hW (y_assign hF rfl) fun a hF=>l_nil ?_;replace hF:=hF.ks [0,1,2,3,4,6,7,8,9,17] rfl;refine t_n<|c_sr<|pv hF hW (y_move hF rfl) fun a hF=>pv hF hW (y_neq hF rfl rfl) fun a hF=>?_;refine Fr.splitD hF ?_ ?_
   ·intro h4 hF;refine l_nil ?_;replace hF:=hF.ks [0,1,2,3,4,6,7,8,9,17,24] rfl;refine t_n<|c_t hF rfl<|c_sr<|pv hF hW (y_build hF rfl (fun w=>bu_ViewA_53_ w)) fun a hF=>pv hF hW (y_move hF rfl) fun a hF=>?_;refine pe (e_storeAll rfl hF hW rfl rfl 0 rfl rfl rfl Kr sz_53 ?_);intro wc hW;replace hF:=hF.drop 7;refine pv hF hW (y_assign hF rfl) fun a hF=>l_nil ?_;replace hF:=hF.ks [0,1,2,3,4,6,7,8,9,17,24] rfl;refine t_n<|wp_ret<|t_r<|ret2 Tryz.results10 hF (rv_c hF rfl hW 0 rfl Tryz.underlying53 rfl sz_53) (rv_t hF rfl) ?_
    exact⟨VD.zero,rfl,rfl,hW.below,fun u _=>VD.zero_atO u⟩
   ·intro h4 hF;exfalso
    omega
  ·have he:=viewErr_c (p:=p) hcw
   rw[he] at h0⊢
   generalize chkWorld x.sys y.wrl=E at*
   refine enter Tryz.func10 rfl Tryz.ntmps10 rfl fun a hF=>?_
   have hW:=Wd.start w NoB
   refine c_sr ?_;refine pe (e_box hF hW rfl rfl rfl rfl ?_);intro b1 a wc hF hW;refine pe (e_box hF hW rfl rfl rfl rfl ?_);intro b2 a wc hF hW;refine pe (e_alloc hF hW ze_53 rfl rfl rfl ?_);intro b3 a wc hF hW;refine pv hF hW (y_assign hF rfl) fun a hF=>l_nil<|t_n<|c_s<|c_sr<|pv hF hW (y_loadAll hF rfl 2 rfl Tryz.underlying26 rfl sz_26) fun a hF=>pv hF hW (y_loadAll hF rfl 1 rfl Tryz.underlying30 rfl sz_30) fun a hF=>?_;refine pe (e_call hF rfl rfl en_23 Rl rfl rfl (hc _ hW.below) ?_);rintro e w1 ⟨rfl,hb⟩;replace hW:=hW.kept hb;clear hb;refine⟨_,rfl,fun a hF=>?_⟩;refine pv hF hW (y_assign hF rfl) fun a hF=>l_nil ?_;replace hF:=hF.ks [0,1,2,3,4,6,7,8] rfl;refine t_n<|c_sr<|pv hF hW (y_move hF rfl) fun a hF=>pv hF hW (y_neq hF rfl rfl) fun a hF=>?_;refine Fr.splitD hF ?_ ?_
   ·intro h4 hF;refine l_nil ?_;replace hF:=hF.ks [0,1,2,3,4,6,7,8,17] rfl;refine t_n<|c_t hF rfl<|c_sr<|pv hF hW (y_build hF rfl (fun w=>bu_ViewA_53_ w)) fun a hF=>pv hF hW (y_move hF rfl) fun a hF=>?_;refine pe (e_storeAll rfl hF hW rfl rfl 0 rfl rfl rfl Kr sz_53 ?_);intro wc hW;replace hF:=hF.drop 7;refine pv hF hW (y_assign hF rfl) fun a hF=>l_nil ?_;replace hF:=hF.ks [0,1,2,3,4,6,7,8,17] rfl;refine t_n<|wp_ret<|t_r<|ret2 Tryz.results10 hF (rv_c hF rfl hW 0 rfl Tryz.underlying53 rfl sz_53) (rv_t hF rfl) ?_
    exact⟨VD.zero,rfl,rfl,hW.below,fun u _=>VD.zero_atO u⟩
   ·intro h4 hF;exfalso
    omega
end Go.Proofs.YtndcjmopebcdgaaGreat
