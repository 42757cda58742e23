/- The reference's ImageBytes. The reference's eye and ImageFrom. imageBegun answers true; systems among a law's arguments, whose numbers are ints; strings among them. What an input's weight says of the lengths of a part among the arguments. A part among the arguments: its numbers are ints, its lengths by the input's bulk. -/
import Derived.Test.YtndcjmopebcdgaaGreatDoorImgW
import Derived.Test.YtndcjmopebcdgaaGreatDoorImgR
import Derived.Test.YtndcjmopebcdgaaGreatDoorSysRef
import Derived.ChangeMaps5
import Derived.Test.YtndcjmopebcdgaaGreatDoorConfD1
import Derived.Test.YtndcjmopebcdgaaGreatDoorSkE
import Derived.SizedLaws
import Derived.Test.YtndcjmopebcdgaaGreatDoorRows
set_option linter.unusedSimpArgs false
set_option linter.unusedVariables false
namespace Go.Proofs.YtndcjmopebcdgaaGreatDoor
section
open Go.ChangeShapes Go.WideShapes Go.ChangeAt Go.RowKit
set_option maxRecDepth 100000
end
section
open Go.ChangeShapes Go.WideShapes Go.ChangeAt Go.RowKit
set_option maxRecDepth 100000
end
section
open Go.ChangeShapes Go.WideShapes Go.ChangeAt Go.RowKit
set_option maxRecDepth 100000
section
variable {H:Type} {enc:TypeId×Value→H} {w:World} {base base':Nat} {r:Reach} {spare:Nat→Bool} {held:Bool} {v:Value} {d:DataW H} {p:List MemPlace}
theorem wf_I64{n:Int}(h:(Lit.int .i64 n).wf=true):I64 n:=by
 simp[Lit.wf,IntKind.min,IntKind.max,IntKind.signed,IntKind.bits] at h
 unfold I64
 omega
theorem intR_rd{u:World}{n:Nat}{cs:List Value}(h:Rd Tryz.prog u (n+1) 3 cs):∃m:Int,cs=encI m∧I64 m:=by
 obtain⟨m,e,hw⟩:=h.int Tryz.underlying3
 exact⟨m,e,wf_I64 hw⟩
theorem insR_rd{u:World}{n:Nat}{cs:List Value}(h:Rd Tryz.prog u (n+2) 118 cs):∃i:Ins,cs=i.cells∧I64 i.n:=by
 obtain⟨i,rfl⟩:=ins_rd h
 have h1:Tryz.prog.cellsOf 3=1:=by kernel_rfl
 have g:=h.fld Tryz.underlying118 3 rfl rfl rfl h1 rfl
 obtain⟨m,e,hm⟩:=intR_rd g
 have e2:[Value.int .i64 i.n]=[Value.int .i64 m]:=e
 obtain rfl:i.n=m:=by simpa using e2
 exact⟨i,rfl,hm⟩
theorem encI_len(n:Int):(encI n).length=1:=rfl
theorem flat_ints{u:World}{v:Value}{l:List Int}(h:Flat encI 1 u v l):Ints u v l:=by
 obtain⟨A,c,e,h1,h2,h3⟩:=h
 rw[encI_map] at h3
 exact⟨A,c,e,h1,h2,h3⟩
def PrtR(p:Prt):Prop:=(∀i,i∈p.code→I64 i.n)∧∀n,n∈p.inp→I64 n
theorem partR_rd{u:World}{n:Nat}{cs:List Value}(h:Rd Tryz.prog u (n+4) 43 cs):∃q:{q:PP//q.At u},cs=encP q.1∧PrtR q.1.1:=by
 obtain⟨hl,-⟩:=h.struct Tryz.underlying43
 have h2:Tryz.prog.cellsOf 43=2:=by kernel_rfl
 have h1:Tryz.prog.cellsOf 41=1:=by kernel_rfl
 have h1':Tryz.prog.cellsOf 40=1:=by kernel_rfl
 rw[h2] at hl
 match cs,hl with
 |[a,b],_=>
  have g0:=h.fld Tryz.underlying43 0 rfl rfl rfl h1' rfl
  have g1:=h.fld Tryz.underlying43 1 rfl rfl rfl h1 rfl
  obtain⟨v0,l0,e0,k0,q0⟩:=Rd.flatQ Tryz.underlying40 Kr Ins.cells_len (fun _ h=>insR_rd h) g0
  obtain⟨v1,l1,e1,k1,q1⟩:=Rd.flatQ Tryz.underlying41 Kr encI_len (fun _ h=>intR_rd h) g1
  obtain rfl:a=v0:=by simpa using e0
  obtain rfl:b=v1:=by simpa using e1
  obtain⟨A,c,rfl⟩:=k0.form rfl
  have k2:=flat_ints k1
  obtain⟨A2,c2,rfl⟩:=k2.form rfl
  exact⟨⟨(⟨l0,l1⟩,⟨A,c,A2,c2⟩),k0,k2⟩,rfl,q0,q1⟩
theorem sysR_rd{u:World}{n:Nat}{cs:List Value}(h:Rd Tryz.prog u (n+6) 39 cs):∃x:SysD,cs=[.slice x.pa x.parts.length x.pc,.slice x.ha x.chans.length x.hc,.slice x.sa x.slots.length x.sc]∧x.At u∧SysR x.sys:=by
 obtain⟨hl,-⟩:=h.struct Tryz.underlying39
 have h3:Tryz.prog.cellsOf 39=3:=by kernel_rfl
 have h1:Tryz.prog.cellsOf 35=1:=by kernel_rfl
 have h1':Tryz.prog.cellsOf 36=1:=by kernel_rfl
 have h1'':Tryz.prog.cellsOf 37=1:=by kernel_rfl
 rw[h3] at hl
 match cs,hl with
 |[a,b,c],_=>
  have g0:=h.fld Tryz.underlying39 0 rfl rfl rfl h1 rfl
  have g1:=h.fld Tryz.underlying39 1 rfl rfl rfl h1' rfl
  have g2:=h.fld Tryz.underlying39 2 rfl rfl rfl h1'' rfl
  obtain⟨v0,l0,e0,k0,q0⟩:=Rd.flatQ (enc:=encP) (Q:=fun q:PP=>q.At u∧PrtR q.1) Tryz.underlying35 Kr encP_len (fun _ h=>by obtain⟨⟨q,h1⟩,h2,h3⟩:=partR_rd h;exact⟨q,h2,h1,h3⟩) g0
  obtain⟨v1,l1,e1,k1⟩:=Rd.flatS Tryz.underlying36 Kr Chn.cells_len (fun _ h=>chn_rd h) g1
  obtain⟨v2,l2,e2,k2⟩:=Rd.flatS Tryz.underlying37 Kr Slt.cells_len (fun _ h=>slt_rd h) g2
  obtain rfl:a=v0:=by simpa using e0
  obtain rfl:b=v1:=by simpa using e1
  obtain rfl:c=v2:=by simpa using e2
  obtain⟨A0,c0,rfl⟩:=k0.form rfl
  obtain⟨A1,c1,rfl⟩:=k1.form rfl
  obtain⟨A2,c2,rfl⟩:=k2.form rfl
  refine⟨⟨l0,A0,c0,l1,A1,c1,l2,A2,c2⟩,rfl,⟨k0,fun q hq=>(q0 q hq).1,k1,k2⟩,fun p hp=>?_⟩
  obtain⟨q,hq,rfl⟩:=List.mem_map.1 hp
  exact(q0 q hq).2
theorem sysR_open(hv:Value.okWide Tryz.prog w r base' 39 v)(h:DataW.Trod enc Tryz.prog w base spare held 39 v d p):∃x:SysD,v=x.val∧x.At w∧SysR x.sys:=by
 obtain⟨cs,rfl,_⟩:=okWide_struct Tryz.underlying39 hv
 obtain⟨x,e,h1⟩:=sysR_rd (n:=0) (rd_of 6 h)
 exact⟨x,agg_toList e,h1⟩
end
def relaySysI:Sys:=⟨relayP,relayC,relayS⟩
theorem relayI_ok:chkSys relaySysI=0:=by kernel_rfl
theorem relayI_read:(readL (imgL relaySysI)).isSome=true:=by kernel_rfl
theorem relayI_len:(imgL relaySysI).length=187:=by kernel_rfl
theorem relayI_R:SysR relaySysI:=by
 cases h:readL (imgL relaySysI) with
 |none=>
  have:=relayI_read
  rw[h] at this
  cases this
 |some s=>
  obtain⟨h1,h2,h3⟩:=img_read h
  intro p hp
  simp only[relaySysI,relayP,tellerL,List.mem_cons,List.not_mem_nil,or_false] at hp
  unfold I64
  rcases hp with rfl|rfl|rfl|rfl<;>
  ·refine⟨fun i hi=>?_,fun n hn=>?_⟩
   ·simp only[List.mem_cons,List.not_mem_nil,or_false] at hi
    rcases hi with rfl|rfl|rfl|rfl|rfl<;>decide
   ·simp only[List.mem_cons,List.not_mem_nil,or_false] at hn<;>(subst hn;decide)
section
variable {L:List PP} {pa sa:Option Addr} {b:Nat} {T:TypeId} {u:World}
theorem relay_write(hL:L.map Prod.fst=relayP)(hB:Blk u b T (relayC.flatMap Chn.cells))(h:RelayR L pa sa u):
  Calls Tryz.prog 14 #[.agg #[.slice pa 4 4,.slice (some ⟨b,0,none⟩) 2 2,.slice sa 4 4]] u fun e w'=>e=.returned (.tuple #[.string (bstr (imgL relaySysI)),.int .i64 0])∧Below u.heap.size u w':=by
 have:=imageWrite_any (relay_at hL rfl hB h)
 rw[relay_val hL rfl,relay_sys hL] at this
 unfold imgOr at this
 rwa [show(⟨relayP,relayC,relayS⟩:Sys)=relaySysI from rfl,relayI_ok,if_pos rfl] at this
end
end
section
open Go.ChangeShapes Go.WideShapes Go.ChangeAt Go.RowKit
set_option maxRecDepth 100000
section
variable {H:Type} {enc:TypeId×Value→H} {w:World} {base base':Nat} {r:Reach} {spare:Nat→Bool} {held:Bool} {v:Value} {d:DataW H} {p:List MemPlace}
end
end
section
open Go.ChangeShapes Go.WideShapes Go.ChangeAt Go.RowKit
set_option maxRecDepth 100000
theorem bulk_pos{H:Type}(d:DataW H):1≤Rows.uptoBulk d:=by
 cases d with
 |lit l=>cases l<;>simp[Rows.uptoBulk]
 |_=>simp[Rows.uptoBulk]
theorem bulk_all{H:Type}:∀l:List (DataW H),l.length≤Rows.uptoBulkAll l
 |[]=>Nat.le_refl _
 |d::r=>by
  have h1:=bulk_pos d
  have h2:=bulk_all r
  simp only[Rows.uptoBulkAll,List.length_cons]
  omega
section
variable {H:Type} {enc:TypeId×Value→H} {w:World} {base base':Nat} {r:Reach} {spare:Nat→Bool} {held:Bool} {v:Value} {d:DataW H} {p:List MemPlace}
theorem slice_bulk{P:Program}{t e:TypeId}(hu:P.underlying t=some (.slice e)){fuel:Nat}{cs:List Value}{x:DataW H×List MemPlace}(h:DataW.trod enc P w base spare held fuel t cs=some x){A:Option Addr}{n c:Nat}(hcs:cs=[.slice A n c]):n≤Rows.uptoBulk x.1:=by
 rcases DataW.trod_slice hu h with⟨rfl,_⟩|⟨a,len,cap,elems,rest,m,_,rfl,rfl,_,_,_,hlen,_⟩
 ·simp only[List.cons.injEq,Value.slice.injEq,and_true] at hcs
  rw[←hcs.2.1]
  exact Nat.zero_le _
 ·simp only[List.cons.injEq,Value.slice.injEq,and_true] at hcs
  have:=bulk_all (elems.map (·.1))
  rw[List.length_map] at this
  simp only[Rows.uptoBulk]
  omega
theorem partB_open(hv:Value.okWide Tryz.prog w r base' 43 v)(h:DataW.Trod enc Tryz.prog w base spare held 43 v d p):∃q:PP,v=.agg (encP q).toArray∧q.At w∧PrtR q.1∧q.1.code.length≤Rows.uptoBulk d∧q.1.inp.length≤Rows.uptoBulk d:=by
 obtain⟨cs,rfl,_⟩:=okWide_struct Tryz.underlying43 hv
 obtain⟨⟨q,hq⟩,e,hr⟩:=partR_rd (n:=0) (rd_of 4 h)
 obtain rfl:cs=(encP q).toArray:=by
  have:=agg_toList e
  injection this
 refine⟨q,rfl,hq,hr,?_⟩
 obtain⟨pt,⟨ca,cc,ia,ic⟩⟩:=q
 obtain⟨fuel,hf⟩:=h
 obtain⟨xs,n,_,hx,_,hlen,hg⟩:=DataW.trod_struct Tryz.underlying43 hf
 have hd:d=.agg (xs.map (·.1)):=congrArg Prod.fst hx
 subst hd
 have hl2:xs.length=2:=hlen
 match xs,hl2 with
 |[a,b],_=>
  have g0:=hg 0 _ rfl
  have g1:=hg 1 _ rfl
  have b0:=slice_bulk Tryz.underlying40 g0 (A:=ca) (n:=pt.code.length) (c:=cc) Kr
  have b1:=slice_bulk Tryz.underlying41 g1 (A:=ia) (n:=pt.inp.length) (c:=ic) Kr
  simp only[List.map_cons,List.map_nil,Rows.uptoBulk,Rows.uptoBulkAll]
  show pt.code.length≤_∧pt.inp.length≤_
  omega
end
end
end Go.Proofs.YtndcjmopebcdgaaGreatDoor
