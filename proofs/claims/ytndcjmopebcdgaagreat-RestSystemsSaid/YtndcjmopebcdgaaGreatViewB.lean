/- view.Purge. -/
import Derived.Test.YtndcjmopebcdgaaGreatViewQ
import Derived.Test.YtndcjmopebcdgaaGreatFlowM
import Derived.Test.YtndcjmopebcdgaaGreatConfD1
set_option linter.unusedSimpArgs false
set_option linter.unusedVariables false
namespace Go.Proofs.YtndcjmopebcdgaaGreat
open Go.ChangeShapes Go.WideShapes Go.ChangeAt Go.RowKit
theorem bu_ViewB_26_(w:World):(Instr.build 26 #[]).run Tryz.prog w=.ok (.agg #[(.slice none 0 0),(.slice none 0 0),(.slice none 0 0)]) w:=by kernel_rfl
set_option maxRecDepth 100000
theorem purge1_any{q0:PP}{D:List BR}{A:Option Addr}{c:Nat}{w w1:World}{b7 b3:Nat}{T7 T3:TypeId}{k p:Nat}(hq:q0.At w)(hM:RM D A c w)(hb:Below w.heap.size w w1)(hB7:Blk w1 b7 T7 [.slice A D.length c])(hB3:Blk w1 b3 T3 [.int .i64 p])
  (hk:k<D.length) (hp:p<(D.getD k BR0).l.length):
  Calls Tryz.prog 31 #[.int .i64 k,.agg (encP q0).toArray,.pointer (some ⟨b7,0,none⟩),.pointer (some ⟨b3,0,none⟩)] w1 fun e w'=>
   ∃q:PP,e=.returned (.agg (encP q).toArray)∧q.1=(if(D.getD k BR0).l.getD p false=true then q0.1 else calmP)∧Below w1.heap.size w1 w'∧OwnRes w1 w' (fun u=>Below w.heap.size w u→q.At u):=by
 change Calls _ _ #[.int .i64 k,.agg #[.slice q0.2.ca q0.1.code.length q0.2.cc,.slice q0.2.ia q0.1.inp.length q0.2.ic],_,_] _ _
 have hM1:=hM.below hb
 have hr1:=hM1.row
 have hr2:=hM1.inner hk
 refine enter Tryz.func31 rfl Tryz.ntmps31 rfl fun a hF=>?_
 have hW:=Wd.start w1 NoB
 refine c_sr ?_;refine pe (e_box hF hW rfl rfl rfl rfl ?_);intro b1 a wc hF hW;refine pe (e_alloc hF hW ze_49 rfl rfl rfl ?_);intro b2 a wc hF hW;refine l_nil<|t_n<|c_s<|c_sd mixed_ok hW (hW) ?_
 clear hW;intro wc hW hS
 refine dv 0 rfl hF hS (y_loadB hF rfl (hB7) rfl Tryz.underlying75 rfl) fun a hF=>dv 1 rfl hF hS (y_move hF rfl) fun a hF=>dv 2 rfl hF hS (y_indexS hF rfl rfl Od Tryz.underlying75 sz_79 (fun w h=>(hr1).wd h)) fun a hF=>dv 3 rfl hF hS (y_loadRow hF rfl (fun w h=>(hr1).wd h) Od rfl Tryz.underlying79 rfl) fun a hF=>?_;replace hF:=Fr.cast (v':=.slice (D.getD k BR0).a (D.getD k BR0).l.length (D.getD k BR0).k) Rl hF;refine dv 4 rfl hF hS (y_loadB hF rfl (hB3) rfl Tryz.underlying3 rfl) fun a hF=>dv 5 rfl hF hS (y_indexS hF rfl rfl Od Tryz.underlying79 sz_4 (fun w h=>(hr2).wd h)) fun a hF=>dv 6 rfl hF hS (y_loadRow hF rfl (fun w h=>(hr2).wd h) Od rfl Tryz.underlying4 rfl) fun a hF=>?_;refine Fr.splitB hF ?_ ?_
 ·intro h3 hF;clear hS;refine d_nil Kr ?_;replace hF:=hF.ks [0,1,2,3,5,6,13] rfl;refine t_n<|c_t hF rfl<|c_sr<|pv hF hW (y_loadAll hF rfl 1 rfl Tryz.underlying49 rfl sz_49) fun a hF=>?_;refine pe (e_storeAll rfl hF hW rfl rfl 0 rfl rfl rfl Kr sz_49 ?_);intro wc hW;refine l_nil ?_;replace hF:=hF.ks [0,1,2,3,5,6,13] rfl;refine t_n<|wp_ret<|t_r<|ret1 Tryz.results31 hF (rv_c hF rfl hW 0 rfl Tryz.underlying49 rfl sz_49) ?_
  exact⟨q0,rfl,by rw[if_pos Am],hW.below,fun u _ hbu=>hq.below hbu⟩
 ·intro h3 hF;clear hS;refine d_nil Kr ?_;replace hF:=hF.ks [0,1,2,3,5,6,13] rfl;refine t_n<|c_f hF rfl<|wp_skip<|t_n<|c_sr ?_;refine pe (e_call hF rfl rfl en_32 Rl rfl rfl (still_any _) ?_);rintro e w1 ⟨q,rfl,hqc,hb2,hr⟩;replace hW:=hW.gotR hb2 hr;refine⟨_,rfl,fun a hF=>?_⟩;replace hF:=Fr.cast (v':=.agg #[.slice q.2.ca q.1.code.length q.2.cc,.slice q.2.ia q.1.inp.length q.2.ic]) rfl hF;refine pe (e_storeAll rfl hF hW rfl rfl 1 rfl rfl rfl Kr sz_49 ?_);intro wc hW;refine l_nil ?_;replace hF:=hF.ks [0,1,2,3,5,6,13] rfl;refine t_n<|wp_ret<|ret1 Tryz.results31 hF (rv_c hF rfl hW 1 rfl Tryz.underlying49 rfl sz_49) ?_
  exact⟨q,rfl,by rw[if_neg (by simp_all),hqc],hW.below,(hW.res_res 0 rfl).mono fun u h _=>h⟩
theorem turnPurge{x:SysD}{D:List BR}{A:Option Addr}{c:Nat}{w:World}{b7 b3:Nat}{T7 T3:TypeId}{p:Nat}(hx:x.At w)(hM:RM D A c w)(hB7:Blk w b7 T7 [.slice A D.length c])(hB3:Blk w b3 T3 [.int .i64 p])(hD:IsReach x D)(hp:p<x.parts.length):
  Turns w x 31 #[.pointer (some ⟨b7,0,none⟩),.pointer (some ⟨b3,0,none⟩)] (fun k:Nat=>if rch x.chans x.parts.length k p=true then(x.parts.getD k P0).1 else calmP):=fun k w1 hk hb=>by
 have:=purge1_any (k:=k) (p:=p) (hx.part hk) hM hb (hB7.kept hb) (hB3.kept hb) (by rw[hD.len];exact hk) (by rw[hD.each k hk];exact hp)
 rw[hD.val k p hk hp] at this
 exact this
def purgeOr(s:Sys)(p:Int):Sys:=if thereErr s p=0 then purged s p.toNat else Sys.zero
theorem purge_range{x:SysD}{p:Nat}:(⟨(List.range x.parts.length).map (fun k:Nat=>if rch x.chans x.parts.length k p=true then(x.parts.getD k P0).1 else calmP),x.chans,x.slots⟩:Sys)=purged x.sys p:=by
 simp only[purged,SysD.sys,List.length_map]
 congr 1
 refine List.map_congr_left fun k hk=>?_
 have e:(x.parts.map Prod.fst).getD k Pt0=(x.parts.getD k P0).1:=getD_map Prod.fst k P0
 rw[e]
theorem purge_lens{x:SysD}{p:Nat}(hfc:firstCode x.sys.parts=0)(h6:∀k,k<x.parts.length→(x.parts.getD k P0).1.inp.length≤12):∀k,k<x.parts.length→(if rch x.chans x.parts.length k p=true then(x.parts.getD k P0).1 else calmP).code.length*32≤140737488355328∧(if rch x.chans x.parts.length k p=true then(x.parts.getD k P0).1 else calmP).inp.length*8≤140737488355328:=fun k hk=>by
 have h1:=code_le hfc hk
 have h2:=h6 k hk
 split
 ·omega
 ·exact⟨by decide,by decide⟩
def SysErrO(w:World)(s:Sys)(E:Int)(e:Ending)(w':World):Prop:=∃y:SysD,e=.returned (.tuple #[y.val,.int .i64 E])∧y.sys=s∧Wd w NoB [y.rowP,.res y.OwnP,.res y.Tail] w'
theorem viewPurgeO_any{x:SysD}{w:World}(hx:x.At w)(p:Int):Calls Tryz.prog 9 #[x.val,.int .i64 p] w (SysErrO w (purgeOr x.sys p) (thereErr x.sys p)):=by
 have ht:=fun w1 (hb:Below w.heap.size w w1)=>confThere_any (hx.below hb) p
 by_cases h0:thereErr x.sys p=0
 ·obtain⟨hk,hpp⟩:=there_zero h0
  obtain⟨hz,hfc,-⟩:=chkSys_zero hk
  obtain⟨⟨hz1,hz2⟩,hz3,⟨hz4,hz5⟩,hz6⟩:=sizes_get hz
  obtain⟨hp0,hp1⟩:=part_len hpp
  obtain⟨p,rfl⟩:=Int.eq_ofNat_of_zero_le hp0
  have hpl:p<x.parts.length:=by omega
  have hlens:=purge_lens (p:=p) hfc hz6
  have hrc:=fun w1 (hb:Below w.heap.size w w1)=>flowReach_any (hx.below hb)
  rw[hk] at hrc
  rw[show purgeOr x.sys p=purged x.sys p from(if_pos h0).trans (by rw[Int.toNat_natCast]),h0]
  rw[h0] at ht
  clear h0 hpp
  have hx':=hx
  rw[x.val_eq] at*
  refine enter Tryz.func9 rfl Tryz.ntmps9 rfl fun a hF=>?_
  have hW:=Wd.start w NoB
  refine c_sr ?_;refine pe (e_box hF hW rfl rfl rfl rfl ?_);intro b1 a wc hF hW;refine pe (e_box hF hW rfl rfl rfl rfl ?_);intro b2 a wc hF hW;refine pe (e_alloc hF hW ze_26 rfl rfl rfl ?_);intro b3 a wc hF hW;refine pv hF hW (y_assign hF rfl) fun a hF=>l_nil<|t_n<|c_s<|c_sr<|pv hF hW (y_loadAll hF rfl 2 rfl Tryz.underlying26 rfl sz_26) fun a hF=>pv hF hW (y_loadOwn hF rfl 1 rfl rfl Tryz.underlying3 rfl) fun a hF=>?_;refine pe (e_call hF rfl rfl en_28 Rl rfl rfl (ht _ hW.below) ?_);rintro e w1 ⟨rfl,hb⟩;replace hW:=hW.kept hb;clear hb;refine⟨_,rfl,fun a hF=>?_⟩;refine pv hF hW (y_assign hF rfl) fun a hF=>l_nil ?_;replace hF:=hF.ks [0,1,2,3,4,5,6] rfl;refine t_n<|c_sr<|pv hF hW (y_move hF rfl) fun a hF=>pv hF hW (y_neq hF rfl rfl) fun a hF=>?_;replace hF:=hF.ff;refine l_nil ?_;replace hF:=hF.ks [0,1,2,3,4,5,6,13] rfl;refine t_n<|c_f hF rfl<|wp_skip<|t_n<|c_sr<|pv hF hW (y_loadAll hF rfl 2 rfl Tryz.underlying26 rfl sz_26) fun a hF=>?_;refine pe (e_call hF rfl rfl en_29 Rl rfl rfl (hrc _ hW.below) ?_);rintro e w1 ⟨D,A,c,rfl,hD,hb,hr⟩;replace hW:=hW.gotR hb (hr.mono fun u h=>RM.mk h.1 h.2)
  replace hD:=IsReach.of (hD.trans (if_pos rfl))
  refine⟨_,rfl,fun a hF=>?_⟩;refine pv hF hW (y_move hF rfl) fun a hF=>pv hF hW (y_extract hF rfl rfl) fun a hF=>pv hF hW (y_extract hF rfl rfl) fun a hF=>?_;refine pe (e_alloc hF hW ze_75 rfl rfl rfl ?_);intro b4 a wc hF hW;refine pe (e_store rfl hF hW rfl rfl 0 rfl rfl rfl sz_75 ?_);intro wc hW;refine pv hF hW (y_assign hF rfl) fun a hF=>l_nil ?_;replace hF:=hF.ks [0,1,2,3,4,5,6,7,13] rfl;refine t_n<|c_sr<|pv hF hW (y_loadAll hF rfl 4 rfl Tryz.underlying26 rfl sz_26) fun a hF=>pv hF hW (y_makeFunc hF rfl) fun a hF=>?_;refine pe (e_call hF rfl rfl en_30 Rl rfl rfl (confOwnO_any (hx.below hW.below) en_31 (turnPurge (hx.below hW.below) (hW.res 1 rfl) (hW.blk 0 rfl) (hW.blk 3 rfl) hD hpl) Om Om Om hlens) ?_);rintro e w1 ⟨y,rfl,hsys,hN⟩;replace hW:=hW.comb3 hN;refine⟨_,rfl,fun a hF=>?_⟩;replace hF:=Fr.cast (v':=.agg #[.slice y.pa y.parts.length y.pc,.slice y.ha y.chans.length y.hc,.slice y.sa y.slots.length y.sc]) rfl hF;refine pe (e_storeAll rfl hF hW rfl rfl 5 rfl rfl rfl Kr sz_26 ?_);intro wc hW;replace hF:=hF.drop 5;refine pv hF hW (y_assign hF rfl) fun a hF=>l_nil ?_;replace hF:=hF.ks [0,1,2,3,4,5,6,7,13] rfl;refine t_n<|wp_ret<|ret2 Tryz.results9 hF (rv_c hF rfl hW 5 rfl Tryz.underlying26 rfl sz_26) (rv_t hF rfl) ?_;replace hW:=hW.del 3 rfl;replace hW:=hW.del 3 rfl;replace hW:=hW.del 3 rfl;replace hW:=hW.del 3 rfl;replace hW:=hW.del 3 rfl
  exact⟨y,rfl,by rw[hsys,purge_range],hW⟩
 ·rw[show purgeOr x.sys p=Sys.zero from if_neg h0]
  rw[x.val_eq] at*
  generalize thereErr x.sys p=E at*
  refine enter Tryz.func9 rfl Tryz.ntmps9 rfl fun a hF=>?_
  have hW:=Wd.start w NoB
  refine c_sr ?_;refine pe (e_box hF hW rfl rfl rfl rfl ?_);intro b1 a wc hF hW;refine pe (e_box hF hW rfl rfl rfl rfl ?_);intro b2 a wc hF hW;refine pe (e_alloc hF hW ze_26 rfl rfl rfl ?_);intro b3 a wc hF hW;refine pv hF hW (y_assign hF rfl) fun a hF=>l_nil<|t_n<|c_s<|c_sr<|pv hF hW (y_loadAll hF rfl 2 rfl Tryz.underlying26 rfl sz_26) fun a hF=>pv hF hW (y_loadOwn hF rfl 1 rfl rfl Tryz.underlying3 rfl) fun a hF=>?_;refine pe (e_call hF rfl rfl en_28 Rl rfl rfl (ht _ hW.below) ?_);rintro e w1 ⟨rfl,hb⟩;replace hW:=hW.kept hb;clear hb;refine⟨_,rfl,fun a hF=>?_⟩;refine pv hF hW (y_assign hF rfl) fun a hF=>l_nil ?_;replace hF:=hF.ks [0,1,2,3,4,5,6] rfl;refine t_n<|c_sr<|pv hF hW (y_move hF rfl) fun a hF=>pv hF hW (y_neq hF rfl rfl) fun a hF=>?_;refine Fr.splitD hF ?_ ?_
  ·intro h4 hF;refine l_nil ?_;replace hF:=hF.ks [0,1,2,3,4,5,6,13] rfl;refine t_n<|c_t hF rfl<|c_sr<|pv hF hW (y_build hF rfl (fun w=>bu_ViewB_26_ w)) fun a hF=>pv hF hW (y_move hF rfl) fun a hF=>?_;refine pe (e_storeAll rfl hF hW rfl rfl 0 rfl rfl rfl Kr sz_26 ?_);intro wc hW;replace hF:=hF.drop 5;refine pv hF hW (y_assign hF rfl) fun a hF=>l_nil ?_;replace hF:=hF.ks [0,1,2,3,4,5,6,13] rfl;refine t_n<|wp_ret<|t_r<|ret2 Tryz.results9 hF (rv_c hF rfl hW 0 rfl Tryz.underlying26 rfl sz_26) (rv_t hF rfl) ?_;replace hW:=hW.del 0 rfl;replace hW:=hW.del 0 rfl;replace hW:=hW.del 0 rfl
   exact⟨SysD.zero,rfl,rfl,((hW.free (R:=SysD.zero.Tail) fun u=>⟨(SysD.zero_at u).chans,(SysD.zero_at u).slots⟩).free (R:=SysD.zero.OwnP) fun _ _ h=>(by cases h)).nil_row _ _⟩
  ·intro h4 hF;exfalso
   omega
end Go.Proofs.YtndcjmopebcdgaaGreat
