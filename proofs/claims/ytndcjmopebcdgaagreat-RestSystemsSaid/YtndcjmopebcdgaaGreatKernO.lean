/- Worlds among a law's arguments; calls whose answer is known. -/
import Derived.Test.YtndcjmopebcdgaaGreatKernBg
import Derived.Test.YtndcjmopebcdgaaGreatKernP
import Derived.Test.YtndcjmopebcdgaaGreatKernR
import Derived.Test.YtndcjmopebcdgaaGreatEngX
set_option linter.unusedSimpArgs false
set_option linter.unusedVariables false
namespace Go.Proofs.YtndcjmopebcdgaaGreat
open Go.ChangeShapes Go.WideShapes Go.ChangeAt Go.RowKit
set_option maxRecDepth 100000
section
variable {H:Type} {enc:TypeId×Value→H} {w:World} {base base':Nat} {r:Reach} {spare:Nat→Bool} {held:Bool} {v:Value} {d:DataW H} {p:List MemPlace}
theorem cd_rd{u:World}{n:Nat}{cs:List Value}(h:Rd Tryz.prog u (n+3) 42 cs):∃q:CD,cs=encC q∧q.At u:=by
 obtain⟨c,ov,rfl,hwf,ho⟩:=cell_rd h
 obtain⟨A,k,rfl⟩:=ho.form rfl
 exact⟨⟨c,hwf,A,k⟩,rfl,ho⟩
theorem ld_rd{u:World}{n:Nat}{cs:List Value}(h:Rd Tryz.prog u (n+3) 44 cs):∃q:LD,cs=encL q∧q.At u:=by
 obtain⟨hl,-⟩:=h.struct Tryz.underlying44
 have h1:Tryz.prog.cellsOf 44=1:=by kernel_rfl
 have h1':Tryz.prog.cellsOf 40=1:=by kernel_rfl
 rw[h1] at hl
 match cs,hl with
 |[x],_=>
  have g0:=h.fld Tryz.underlying44 0 rfl rfl rfl h1' rfl
  obtain⟨v,l,e,k⟩:=Rd.intsS Tryz.underlying40 Tryz.underlying3 Kr g0
  obtain rfl:x=v:=by simpa using e
  obtain⟨A,c,rfl⟩:=k.form rfl
  exact⟨⟨l,A,c⟩,rfl,k⟩
theorem wrl_rd{u:World}{n:Nat}{cs:List Value}(h:Rd Tryz.prog u (n+5) 30 cs):∃x:WD,cs=[.int .i64 x.tick,.slice x.ca x.cells.length x.cc,.slice x.la x.lines.length x.lc]∧x.At u:=by
 obtain⟨hl,-⟩:=h.struct Tryz.underlying30
 have h3:Tryz.prog.cellsOf 30=3:=by kernel_rfl
 have h1:Tryz.prog.cellsOf 3=1:=by kernel_rfl
 have h1':Tryz.prog.cellsOf 27=1:=by kernel_rfl
 have h1'':Tryz.prog.cellsOf 28=1:=by kernel_rfl
 rw[h3] at hl
 match cs,hl with
 |[a,b,c],_=>
  have g0:=h.fld Tryz.underlying30 0 rfl rfl rfl h1 rfl
  have g1:=h.fld Tryz.underlying30 1 rfl rfl rfl h1' rfl
  have g2:=h.fld Tryz.underlying30 2 rfl rfl rfl h1'' rfl
  obtain⟨t,rfl⟩:=one_int g0
  obtain⟨v1,l1,e1,k1,q1⟩:=Rd.flatQ Tryz.underlying27 Kr encC_len (fun _ h=>cd_rd h) g1
  obtain⟨v2,l2,e2,k2,q2⟩:=Rd.flatQ Tryz.underlying28 Kr encL_len (fun _ h=>ld_rd h) g2
  obtain rfl:b=v1:=by simpa using e1
  obtain rfl:c=v2:=by simpa using e2
  obtain⟨A1,c1,rfl⟩:=k1.form rfl
  obtain⟨A2,c2,rfl⟩:=k2.form rfl
  exact⟨⟨t,l1,A1,c1,l2,A2,c2⟩,rfl,k1,q1,k2,q2⟩
theorem wrl_open(hv:Value.okWide Tryz.prog w r base' 30 v)(h:DataW.Trod enc Tryz.prog w base spare held 30 v d p):∃x:WD,v=x.val∧x.At w:=by
 obtain⟨cs,rfl,_⟩:=okWide_struct Tryz.underlying30 hv
 obtain⟨x,e,h1⟩:=wrl_rd (n:=0) (rd_of 5 h)
 exact⟨x,agg_toList e,h1⟩
end
theorem same_worlds{x y:WD}{w:World}(hx:x.At w)(hy:y.At w)(h:x.wrl=y.wrl):Calls Tryz.prog 12 #[x.val,y.val] w fun e w'=>e=.returned (.bool true)∧Below w.heap.size w w':=by
 have:=sameWorlds_any hx hy
 rwa [decide_eq_true h] at this
end Go.Proofs.YtndcjmopebcdgaaGreat
