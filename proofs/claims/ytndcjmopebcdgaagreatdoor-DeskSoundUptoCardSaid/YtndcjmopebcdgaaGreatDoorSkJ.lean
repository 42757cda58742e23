/- What flow.Reach gives, as a matrix in memory. Worlds: cells and lines; how they lie in memory; what is right of them; a step of the kernel, said by a plain function. A system purged of all that does not reach one partition. view.Purge. view.Other. -/
import Derived.Test.YtndcjmopebcdgaaGreatDoorFlowB
import Derived.Test.YtndcjmopebcdgaaGreatDoorCellB
import Derived.Test.YtndcjmopebcdgaaGreatDoorSchedB1
import Derived.Test.YtndcjmopebcdgaaGreatDoorLineB
import Derived.Test.YtndcjmopebcdgaaGreatDoorFlowPl
import Derived.Test.YtndcjmopebcdgaaGreatDoorConfC1
import Derived.Test.YtndcjmopebcdgaaGreatDoorConfD1
set_option linter.unusedSimpArgs false
set_option linter.unusedVariables false
namespace Go.Proofs.YtndcjmopebcdgaaGreatDoor
section
open Go.ChangeShapes Go.WideShapes Go.ChangeAt Go.RowKit
set_option maxRecDepth 100000
structure RM(D:List BR)(A:Option Addr)(c:Nat)(u:World):Prop where
 m:Flat BR.cells 1 u (.slice A D.length c) D
 each:∀q,q∈D→q.At u
theorem RM.row{D:List BR}{A:Option Addr}{c:Nat}{w:World}(h:RM D A c w):RF w A D.length 1 (fun k=>BR.cells (D.getD k BR0)):=h.m.rf BR.cells_len BR0
theorem RM.inner{D:List BR}{A:Option Addr}{c:Nat}{w:World}(h:RM D A c w){k:Nat}(hk:k<D.length):RF w (D.getD k BR0).a (D.getD k BR0).l.length 1 (fun j=>encB ((D.getD k BR0).l.getD j false)):=Flat.rf encB_len false (h.each _ (mem_getD BR0 hk))
structure IsReach(x:SysD)(D:List BR):Prop where
 len:D.length=x.parts.length
 each:∀k,k<x.parts.length→(D.getD k BR0).l.length=x.parts.length
 val:∀k j,k<x.parts.length→j<x.parts.length→(D.getD k BR0).l.getD j false=rch x.chans x.parts.length k j
theorem IsReach.of{x:SysD}{D:List BR}(h:D.map BR.l=(List.range x.parts.length).map fun a=>(List.range x.parts.length).map (rch x.chans x.parts.length a)):IsReach x D:=by
 have hl:D.length=x.parts.length:=by have:=congrArg List.length h;simpa using this
 have hk:∀k,k<x.parts.length→(D.getD k BR0).l=(List.range x.parts.length).map (rch x.chans x.parts.length k):=fun k hk=>by
  have e:(D.getD k BR0).l=(D.map BR.l).getD k []:=(getD_map BR.l k BR0).symm
  rw[e,h]
  simp[List.getD,hk]
 refine⟨hl,fun k h1=>by rw[hk k h1];simp,fun k j h1 h2=>by rw[hk k h1];simp[List.getD,h2]⟩
end
section
open Go.ChangeShapes Go.WideShapes Go.ChangeAt Go.RowKit
set_option maxRecDepth 100000
structure CD where
 c:Cel
 wf:c.wf
 a:Option Addr
 k:Nat
def CD.ov(q:CD):Value:=.slice q.a q.c.out.length q.k
def encC(q:CD):List Value:=cellL q.c q.ov
theorem encC_len(q:CD):(encC q).length=16:=by simp[encC,cellL,q.wf.1,q.wf.2]
def CD.At(q:CD)(u:World):Prop:=Ints u (.slice q.a q.c.out.length q.k) q.c.out
def CD.Own(q:CD)(u:World):Prop:=OwnInts u 0 (.slice q.a q.c.out.length q.k) q.c.out
def CD0:CD:=⟨Cel.zero,Cel.zero_wf,none,0⟩
structure LD where
 vals:List Int
 a:Option Addr
 k:Nat
def encL(q:LD):List Value:=[.slice q.a q.vals.length q.k]
theorem encL_len(q:LD):(encL q).length=1:=rfl
def LD.At(q:LD)(u:World):Prop:=Ints u (.slice q.a q.vals.length q.k) q.vals
def LD.Own(q:LD)(u:World):Prop:=OwnInts u 0 (.slice q.a q.vals.length q.k) q.vals
def LD0:LD:=⟨[],none,0⟩
structure Wrl where
 tick:Int
 cells:List Cel
 lines:List (List Int)
instance :DecidableEq Wrl:=fun x y=>decidable_of_iff (x.tick=y.tick∧x.cells=y.cells∧x.lines=y.lines)
 ⟨fun h=>by cases x;cases y;simp_all,fun h=>by subst h;exact⟨rfl,rfl,rfl⟩⟩
def Wrl.zero:Wrl:=⟨0,[],[]⟩
structure WD where
 tick:Int
 cells:List CD
 ca:Option Addr
 cc:Nat
 lines:List LD
 la:Option Addr
 lc:Nat
def WD.wrl(x:WD):Wrl:=⟨x.tick,x.cells.map CD.c,x.lines.map LD.vals⟩
def WD.val(x:WD):Value:=.agg #[.int .i64 x.tick,.slice x.ca x.cells.length x.cc,.slice x.la x.lines.length x.lc]
theorem WD.val_eq(x:WD):x.val=.agg #[.int .i64 x.tick,.slice x.ca x.cells.length x.cc,.slice x.la x.lines.length x.lc]:=rfl
def WD.zero:WD:=⟨0,[],none,0,[],none,0⟩
structure WD.At(x:WD)(u:World):Prop where
 cells:Flat encC 16 u (.slice x.ca x.cells.length x.cc) x.cells
 eachC:∀q,q∈x.cells→q.At u
 lines:Flat encL 1 u (.slice x.la x.lines.length x.lc) x.lines
 eachL:∀q,q∈x.lines→q.At u
section
variable {x:WD} {w w':World} {k:Nat}
theorem CD.Own.at_{q:CD}(h:q.Own w):q.At w:=OwnInts.ints h
theorem LD.Own.at_{q:LD}(h:q.Own w):q.At w:=OwnInts.ints h
theorem WD.At.cellsR(h:x.At w):RF w x.ca x.cells.length 16 (fun k=>encC (x.cells.getD k CD0)):=h.cells.rf encC_len CD0
theorem WD.At.cell(h:x.At w)(hk:k<x.cells.length):(x.cells.getD k CD0).At w:=h.eachC _ (mem_getD CD0 hk)
end
def Pt0:Prt:=⟨[],[]⟩
structure Right(s:Sys)(w:Wrl):Prop where
 t0:0≤w.tick
 t1:w.tick≤300
 cl:w.cells.length=s.parts.length
 ll:w.lines.length=s.chans.length
 cell:∀k,k<w.cells.length→cellFine (w.cells.getD k Cel.zero)=true∧(w.cells.getD k Cel.zero).read≤(s.parts.getD k Pt0).inp.length
 line:∀k,k<w.lines.length→chkLine (s.chans.getD k C0).kind (w.lines.getD k []).length=0
def chanOf(kind:Int)(k:Wnt)(c:Cel)(l:List Int):Cel×List Int:=
 if k.kind=12 then(replyOf c k kind 0 (putOf kind l k.val).2.1,(putOf kind l k.val).1)
 else(replyOf c k kind (getOf kind l).2.1 (getOf kind l).2.2.1,(getOf kind l).1)
def stepP(s:Sys)(p:Nat)(w:Wrl):Wrl:=
 let r:=stepOf (s.parts.getD p Pt0) (w.cells.getD p Cel.zero)
 let k:=r.2.chan.toNat
 let q:=chanOf (s.chans.getD k C0).kind r.2 r.1 (w.lines.getD k [])
 if r.2.kind=0 then⟨w.tick+1,w.cells.set p r.1,w.lines⟩ else⟨w.tick+1,w.cells.set p q.1,w.lines.set k q.2⟩
def stepW(s:Sys)(w:Wrl):Wrl:=stepP s (whoOf s.slots w.tick).toNat w
theorem stepP_0{s:Sys}{p:Nat}{w:Wrl}{c:Cel}{k:Wnt}(h:stepOf (s.parts.getD p Pt0) (w.cells.getD p Cel.zero)=(c,k))(hk:k.kind=0):stepP s p w=⟨w.tick+1,w.cells.set p c,w.lines⟩:=by
 unfold stepP
 rw[h]
 exact if_pos hk
theorem stepP_1{s:Sys}{p:Nat}{w:Wrl}{c:Cel}{k:Wnt}{q:Cel×List Int}(h:stepOf (s.parts.getD p Pt0) (w.cells.getD p Cel.zero)=(c,k))(hk:k.kind≠0)(hq:chanOf (s.chans.getD k.chan.toNat C0).kind k c (w.lines.getD k.chan.toNat [])=q):
  stepP s p w=⟨w.tick+1,w.cells.set p q.1,w.lines.set k.chan.toNat q.2⟩:=by
 subst hq
 unfold stepP
 rw[h]
 exact if_neg hk
def beginW(s:Sys):Wrl:=⟨0,List.replicate s.parts.length Cel.zero,List.replicate s.chans.length []⟩
def runW(s:Sys):Nat→Wrl
 |0=>beginW s
 |n+1=>stepW s (runW s n)
end
section
def purged(s:Sys)(u:Nat):Sys:=⟨(List.range s.parts.length).map fun k=>if rch s.chans s.parts.length k u=true then s.parts.getD k Pt0 else calmP,s.chans,s.slots⟩
end
section
open Go.ChangeShapes Go.WideShapes Go.ChangeAt Go.RowKit
set_option maxRecDepth 100000
end
section
open Go.ChangeShapes Go.WideShapes Go.ChangeAt Go.RowKit
theorem bu_ViewC_39_(w:World):(Instr.build 39 #[]).run Tryz.prog w=.ok (.agg #[(.slice none 0 0),(.slice none 0 0),(.slice none 0 0)]) w:=by kernel_rfl
set_option maxRecDepth 100000
def otherSys(s:Sys)(p:Nat)(q:Prt):Sys:=⟨s.parts.set p q,s.chans,s.slots⟩
def otherErr(s:Sys)(p:Int)(q:Prt):Int:=if thereErr s p=0 then chkSys (otherSys s p.toNat q) else thereErr s p
def otherOr(s:Sys)(p:Int)(q:Prt):Sys:=if otherErr s p q=0 then otherSys s p.toNat q else Sys.zero
theorem otherErr_t{s:Sys}{p:Int}{q:Prt}(h:thereErr s p≠0):otherErr s p q=thereErr s p:=if_neg h
theorem otherErr_c{s:Sys}{p:Int}{q:Prt}(h:thereErr s p=0):otherErr s p q=chkSys (otherSys s p.toNat q):=if_pos h
theorem other_range{x:SysD}{p:Nat}{q:Prt}:(⟨(List.range x.parts.length).map (fun k:Nat=>if(k:Int)=(p:Int) then q else(x.parts.getD k P0).1),x.chans,x.slots⟩:Sys)=otherSys x.sys p q:=by
 have e:(List.range x.parts.length).map (fun k:Nat=>if(k:Int)=(p:Int) then q else(x.parts.getD k P0).1)=(x.parts.map Prod.fst).set p q:=by
  apply List.ext_getElem
  ·simp
  ·intro i h1 h2
   simp only[List.length_map,List.length_range] at h1
   simp only[List.getElem_map,List.getElem_range,List.getElem_set]
   by_cases hi:(i:Int)=p
   ·rw[if_pos hi,if_pos Om]
   ·rw[if_neg hi,if_neg Om,List.getD,List.getElem?_eq_getElem h1]
    rfl
 simp only[otherSys,SysD.sys,e]
theorem other_lens{x:SysD}{p:Nat}{q:Prt}(hfc:firstCode x.sys.parts=0)(h6:∀k,k<x.parts.length→(x.parts.getD k P0).1.inp.length≤12)(hq:q.code.length*32≤140737488355328∧q.inp.length*8≤140737488355328):∀k,k<x.parts.length→(if(k:Int)=(p:Int) then q else(x.parts.getD k P0).1).code.length*32≤140737488355328∧(if(k:Int)=(p:Int) then q else(x.parts.getD k P0).1).inp.length*8≤140737488355328:=fun k hk=>by
 have h1:=code_le hfc hk
 have h2:=h6 k hk
 split
 ·exact hq
 ·omega
theorem other1_any{q0 qx:PP}{w w1:World}{b4 b5:Nat}{T4 T5:TypeId}{k:Nat}{p:Int}(hq:q0.At w)(hx:qx.At w)(hb:Below w.heap.size w w1)(hB4:Blk w1 b4 T4 [.int .i64 p])(hB5:Blk w1 b5 T5 (encP qx)):
  Calls Tryz.prog 45 #[.int .i64 k,.agg (encP q0).toArray,.pointer (some ⟨b4,0,none⟩),.pointer (some ⟨b5,0,none⟩)] w1 fun e w'=>
   ∃q:PP,e=.returned (.agg (encP q).toArray)∧q.1=(if(k:Int)=p then qx.1 else q0.1)∧Below w1.heap.size w1 w'∧OwnRes w1 w' (fun u=>Below w.heap.size w u→q.At u):=by
 change Calls _ _ #[.int .i64 k,.agg #[.slice q0.2.ca q0.1.code.length q0.2.cc,.slice q0.2.ia q0.1.inp.length q0.2.ic],_,_] _ _
 change Blk w1 b5 T5 [.slice qx.2.ca qx.1.code.length qx.2.cc,.slice qx.2.ia qx.1.inp.length qx.2.ic] at hB5
 refine enter Tryz.func45 rfl Tryz.ntmps45 rfl fun a hF=>?_
 have hW:=Wd.start w1 NoB
 refine c_sr<|pe<|e_box hF hW rfl rfl rfl rfl fun b1 a wc hF hW=>pe<|e_alloc hF hW ze_43 rfl rfl rfl fun b2 a wc hF hW=>l_nil<|t_n<|c_s<|c_sr<|pq 1 hF rfl fun a hF=>pv hF hW (y_loadB hF rfl (hB4) rfl Tryz.underlying3 rfl) fun a hF=>pq 1 hF rfl fun a hF=>?_;refine Fr.splitD hF (fun h3 hF=>?_) (fun h3 hF=>?_);refine l_nil<|t_n<|c_t hF rfl<|c_sr<|pv hF hW (y_loadBN hF rfl (hB5) Tryz.underlying43 rfl sz_43 rfl) fun a hF=>pe<|e_storeAll rfl hF hW rfl rfl 0 rfl rfl rfl Kr sz_43 fun wc hW=>l_nil<|t_n<|wp_ret<|t_r<|ret1 Tryz.results45 hF (rv_c hF rfl hW 0 rfl Tryz.underlying43 rfl sz_43) ?_
 exact⟨qx,rfl,by rw[if_pos Am],hW.below,fun u _ hbu=>hx.below hbu⟩
 refine l_nil<|t_n<|c_f hF rfl<|wp_skip<|t_n<|c_sr<|pv hF hW (y_loadAll hF rfl 1 rfl Tryz.underlying43 rfl sz_43) fun a hF=>pe<|e_storeAll rfl hF hW rfl rfl 0 rfl rfl rfl Kr sz_43 fun wc hW=>l_nil<|t_n<|wp_ret<|ret1 Tryz.results45 hF (rv_c hF rfl hW 0 rfl Tryz.underlying43 rfl sz_43) ?_
 exact⟨q0,rfl,by rw[if_neg Am],hW.below,fun u _ hbu=>hq.below hbu⟩
theorem turnOther{x:SysD}{qx:PP}{w:World}{b4 b5:Nat}{T4 T5:TypeId}{p:Int}(hx:x.At w)(hq:qx.At w)(hB4:Blk w b4 T4 [.int .i64 p])(hB5:Blk w b5 T5 (encP qx)):
  Turns w x 45 #[.pointer (some ⟨b4,0,none⟩),.pointer (some ⟨b5,0,none⟩)] (fun k:Nat=>if(k:Int)=p then qx.1 else(x.parts.getD k P0).1):=fun k w1 hk hb=>other1_any (hx.part hk) hq hb (hB4.kept hb) (hB5.kept hb)
theorem viewOther_any{x:SysD}{qx:PP}{w:World}(hx:x.At w)(hq:qx.At w)(p:Int)(hl:qx.1.code.length*32≤140737488355328∧qx.1.inp.length*8≤140737488355328):
  Calls Tryz.prog 13 #[x.val,.int .i64 p,.agg (encP qx).toArray] w (SysErr w (otherOr x.sys p qx.1) (otherErr x.sys p qx.1)):=by
 have ht:=fun w1 (hb:Below w.heap.size w w1)=>confThere_any (hx.below hb) p
 change Calls _ _ #[_,_,.agg #[.slice qx.2.ca qx.1.code.length qx.2.cc,.slice qx.2.ia qx.1.inp.length qx.2.ic]] _ _
 by_cases h0:thereErr x.sys p=0
 ·obtain⟨hk,hpp⟩:=there_zero h0
  obtain⟨hz,hfc,-⟩:=chkSys_zero hk
  obtain⟨⟨hz1,hz2⟩,hz3,⟨hz4,hz5⟩,hz6⟩:=sizes_get hz
  obtain⟨hp0,hp1⟩:=part_len hpp
  obtain⟨p,rfl⟩:=Int.eq_ofNat_of_zero_le hp0
  have hlens:=other_lens (p:=p) hfc hz6 hl
  have hE:otherErr x.sys p qx.1=chkSys (otherSys x.sys p qx.1):=(otherErr_c h0).trans (by rw[Int.toNat_natCast])
  have hO:otherErr x.sys p qx.1=0→otherOr x.sys p qx.1=otherSys x.sys p qx.1:=fun h=>(if_pos h).trans (by rw[Int.toNat_natCast])
  have hN:otherErr x.sys p qx.1≠0→otherOr x.sys p qx.1=Sys.zero:=fun h=>if_neg h
  rw[h0] at ht
  generalize otherErr x.sys p qx.1=E at*
  generalize otherOr x.sys p qx.1=O at*
  clear h0 hpp
  have hx':=hx
  rw[x.val_eq] at*
  refine enter Tryz.func13 rfl Tryz.ntmps13 rfl fun a hF=>?_
  have hW:=Wd.start w NoB
  refine c_sr<|pe<|e_box hF hW rfl rfl rfl rfl fun b1 a wc hF hW=>pe<|e_box hF hW rfl rfl rfl rfl fun b2 a wc hF hW=>pe<|e_box hF hW rfl rfl rfl rfl fun b3 a wc hF hW=>pe<|e_alloc hF hW ze_39 rfl rfl rfl fun b4 a wc hF hW=>pq 1 hF rfl fun a hF=>l_nil<|t_n<|c_s<|c_sr<|pv hF hW (y_loadAll hF rfl 3 rfl Tryz.underlying39 rfl sz_39) fun a hF=>pv hF hW (y_loadOwn hF rfl 2 rfl rfl Tryz.underlying3 rfl) fun a hF=>pe<|e_callK hF hW rfl rfl en_43 Rl (ht _ hW.below) fun a w1 hW hF=>pq 1 hF rfl fun a hF=>lts<|pq 2 hF rfl fun a hF=>?_;replace hF:=hF.ff;refine l_nil<|t_n<|c_f hF rfl<|wp_skip<|t_n<|c_sr<|pv hF hW (y_loadAll hF rfl 3 rfl Tryz.underlying39 rfl sz_39) fun a hF=>pv hF hW (y_makeFunc hF rfl) fun a hF=>?_;refine pe (e_callA hF rfl rfl en_44 Rl (confOwn_any (hx.below hW.below) en_45 (turnOther (hx.below hW.below) (hq.below hW.below) (hW.blk 2 rfl) (hW.blk 1 rfl)) Om Om Om hlens) ?_);rintro e w1 ⟨y,rfl,hsys,hb,hr⟩;replace hW:=hW.gotR hb hr
  replace hsys:=hsys.trans other_range
  refine⟨_,rfl,fun a hF=>?_⟩;replace hF:=Fr.cast (v':=.agg #[.slice y.pa y.parts.length y.pc,.slice y.ha y.chans.length y.hc,.slice y.sa y.slots.length y.sc]) rfl hF;refine pe<|e_alloc hF hW ze_39 rfl rfl rfl fun b5 a wc hF hW=>pe<|e_storeAll rfl hF hW rfl rfl 0 rfl rfl rfl Kr sz_39 fun wc hW=>l_nil<|t_n<|c_s<|c_sr<|pv hF hW (y_loadAll hF rfl 0 rfl Tryz.underlying39 rfl sz_39) fun a hF=>pe<|e_callK hF hW rfl rfl en_46 Rl (confCheck_any (hW.res 1 rfl)) fun a w1 hW hF=>pq 1 hF rfl fun a hF=>lts<|pq 2 hF rfl fun a hF=>?_;refine Fr.splitD hF (fun h6 hF=>?_) (fun h6 hF=>?_);refine l_nil<|t_n<|c_t hF rfl<|c_sr<|pv hF hW (y_build hF rfl (fun w=>bu_ViewC_39_ w)) fun a hF=>pq 1 hF rfl fun a hF=>?_;refine pe<|e_storeAll rfl hF hW rfl rfl 2 rfl rfl rfl Kr sz_39 fun wc hW=>pq 1 hF rfl fun a hF=>l_nil<|t_n<|wp_ret<|t_r<|ret2 Tryz.results13 hF (rv_c hF rfl hW 2 rfl Tryz.underlying39 rfl sz_39) (rv_t hF rfl) ?_
  exact⟨SysD.zero,by rw[hE,←hsys];rfl,by rw[hN (by rw[hE,←hsys];assumption)];rfl,hW.below,fun u _=>SysD.zero_at u⟩
  refine l_nil<|t_n<|c_f hF rfl<|wp_skip<|t_n<|c_sr<|pv hF hW (y_loadAll hF rfl 0 rfl Tryz.underlying39 rfl sz_39) fun a hF=>pe<|e_storeAll rfl hF hW rfl rfl 2 rfl rfl rfl Kr sz_39 fun wc hW=>pq 1 hF rfl fun a hF=>l_nil<|t_n<|wp_ret<|ret2 Tryz.results13 hF (rv_c hF rfl hW 2 rfl Tryz.underlying39 rfl sz_39) (rv_t hF rfl) ?_
  exact⟨y,by rw[hE,←hsys,show chkSys y.sys=0 by omega];rfl,by rw[hO (by rw[hE,←hsys];omega)];exact hsys,hW.below,hW.res_res 1 rfl⟩
 ·rw[show otherOr x.sys p qx.1=Sys.zero from if_neg (by rw[otherErr_t h0];exact h0),otherErr_t h0]
  rw[x.val_eq] at*
  generalize thereErr x.sys p=E at*
  refine enter Tryz.func13 rfl Tryz.ntmps13 rfl fun a hF=>?_
  have hW:=Wd.start w NoB
  refine c_sr<|pe<|e_box hF hW rfl rfl rfl rfl fun b1 a wc hF hW=>pe<|e_box hF hW rfl rfl rfl rfl fun b2 a wc hF hW=>pe<|e_box hF hW rfl rfl rfl rfl fun b3 a wc hF hW=>pe<|e_alloc hF hW ze_39 rfl rfl rfl fun b4 a wc hF hW=>pq 1 hF rfl fun a hF=>l_nil<|t_n<|c_s<|c_sr<|pv hF hW (y_loadAll hF rfl 3 rfl Tryz.underlying39 rfl sz_39) fun a hF=>pv hF hW (y_loadOwn hF rfl 2 rfl rfl Tryz.underlying3 rfl) fun a hF=>pe<|e_callK hF hW rfl rfl en_43 Rl (ht _ hW.below) fun a w1 hW hF=>pq 1 hF rfl fun a hF=>lts<|pq 2 hF rfl fun a hF=>?_;refine Fr.splitD hF (fun h5 hF=>?_) (fun h5 hF=>?_);refine l_nil<|t_n<|c_t hF rfl<|c_sr<|pv hF hW (y_build hF rfl (fun w=>bu_ViewC_39_ w)) fun a hF=>pq 1 hF rfl fun a hF=>?_;refine pe<|e_storeAll rfl hF hW rfl rfl 0 rfl rfl rfl Kr sz_39 fun wc hW=>pq 1 hF rfl fun a hF=>l_nil<|t_n<|wp_ret<|t_r<|ret2 Tryz.results13 hF (rv_c hF rfl hW 0 rfl Tryz.underlying39 rfl sz_39) (rv_t hF rfl) ?_
  exact⟨SysD.zero,rfl,rfl,hW.below,fun u _=>SysD.zero_at u⟩
  exfalso
  omega
end
end Go.Proofs.YtndcjmopebcdgaaGreatDoor
