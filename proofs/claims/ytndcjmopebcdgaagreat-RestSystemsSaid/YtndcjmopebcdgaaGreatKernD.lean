/- Worlds: cells and lines; how they lie in memory; what is right of them; a step of the kernel, said by a plain function. -/
import Derived.Test.YtndcjmopebcdgaaGreatCellB
import Derived.Test.YtndcjmopebcdgaaGreatSchedB1
import Derived.Test.YtndcjmopebcdgaaGreatLineB
set_option linter.unusedSimpArgs false
set_option linter.unusedVariables false
namespace Go.Proofs.YtndcjmopebcdgaaGreat
open Go.ChangeShapes Go.WideShapes Go.ChangeAt Go.RowKit
set_option maxRecDepth 100000
structure CD where
 c:Cel
 wf:c.wf
 a:Option Addr
 k:Nat
def CD.ov(q:CD):Value:=.slice q.a q.c.out.length q.k
def encC(q:CD):List Value:=cellL q.c q.ov
theorem encC_len(q:CD):(encC q).length=16:=by simp[encC,cellL,q.wf.1,q.wf.2]
def CD.At(q:CD)(u:World):Prop:=Ints u (.slice q.a q.c.out.length q.k) q.c.out
def CD.Own(q:CD)(u:World):Prop:=OwnInts u 0 (.slice q.a q.c.out.length q.k) q.c.out
def CD0:CD:=⟨Cel.zero,Cel.zero_wf,none,0⟩
structure LD where
 vals:List Int
 a:Option Addr
 k:Nat
def encL(q:LD):List Value:=[.slice q.a q.vals.length q.k]
theorem encL_len(q:LD):(encL q).length=1:=rfl
def LD.At(q:LD)(u:World):Prop:=Ints u (.slice q.a q.vals.length q.k) q.vals
def LD.Own(q:LD)(u:World):Prop:=OwnInts u 0 (.slice q.a q.vals.length q.k) q.vals
def LD0:LD:=⟨[],none,0⟩
structure Wrl where
 tick:Int
 cells:List Cel
 lines:List (List Int)
instance :DecidableEq Wrl:=fun x y=>decidable_of_iff (x.tick=y.tick∧x.cells=y.cells∧x.lines=y.lines)
 ⟨fun h=>by cases x;cases y;simp_all,fun h=>by subst h;exact⟨rfl,rfl,rfl⟩⟩
def Wrl.zero:Wrl:=⟨0,[],[]⟩
structure WD where
 tick:Int
 cells:List CD
 ca:Option Addr
 cc:Nat
 lines:List LD
 la:Option Addr
 lc:Nat
def WD.wrl(x:WD):Wrl:=⟨x.tick,x.cells.map CD.c,x.lines.map LD.vals⟩
def WD.val(x:WD):Value:=.agg #[.int .i64 x.tick,.slice x.ca x.cells.length x.cc,.slice x.la x.lines.length x.lc]
theorem WD.val_eq(x:WD):x.val=.agg #[.int .i64 x.tick,.slice x.ca x.cells.length x.cc,.slice x.la x.lines.length x.lc]:=rfl
def WD.zero:WD:=⟨0,[],none,0,[],none,0⟩
structure WD.At(x:WD)(u:World):Prop where
 cells:Flat encC 16 u (.slice x.ca x.cells.length x.cc) x.cells
 eachC:∀q,q∈x.cells→q.At u
 lines:Flat encL 1 u (.slice x.la x.lines.length x.lc) x.lines
 eachL:∀q,q∈x.lines→q.At u
section
variable {x:WD} {w w':World} {k:Nat}
theorem CD.At.below{q:CD}(h:q.At w)(hb:Below w.heap.size w w'):q.At w':=Ints.below h hb
theorem LD.At.below{q:LD}(h:q.At w)(hb:Below w.heap.size w w'):q.At w':=Ints.below h hb
theorem CD.Own.at_{q:CD}(h:q.Own w):q.At w:=OwnInts.ints h
theorem LD.Own.at_{q:LD}(h:q.Own w):q.At w:=OwnInts.ints h
theorem WD.At.below(h:x.At w)(hb:Below w.heap.size w w'):x.At w':=⟨h.cells.below hb,fun q hq=>(h.eachC q hq).below hb,h.lines.below hb,fun q hq=>(h.eachL q hq).below hb⟩
theorem WD.zero_at(w:World):WD.zero.At w:=⟨Flat.nil_,fun _ h=>(by cases h),Flat.nil_,fun _ h=>(by cases h)⟩
theorem WD.At.cellsR(h:x.At w):RF w x.ca x.cells.length 16 (fun k=>encC (x.cells.getD k CD0)):=h.cells.rf encC_len CD0
theorem WD.At.linesR(h:x.At w):RF w x.la x.lines.length 1 (fun k=>encL (x.lines.getD k LD0)):=h.lines.rf encL_len LD0
theorem WD.At.cell(h:x.At w)(hk:k<x.cells.length):(x.cells.getD k CD0).At w:=h.eachC _ (mem_getD CD0 hk)
theorem WD.At.line(h:x.At w)(hk:k<x.lines.length):(x.lines.getD k LD0).At w:=h.eachL _ (mem_getD LD0 hk)
end
def cellOk(p:Prt)(c:Cel):Bool:=cellFine c&&decide (c.read≤p.inp.length)
def lineOk(c:Chn)(l:List Int):Bool:=decide (chkLine c.kind l.length=0)
def Pt0:Prt:=⟨[],[]⟩
def wrlOk(s:Sys)(w:Wrl):Bool:=
 decide (0≤w.tick∧w.tick≤300∧w.cells.length=s.parts.length∧w.lines.length=s.chans.length)&&
  ((List.range w.cells.length).all (fun k=>cellOk (s.parts.getD k Pt0) (w.cells.getD k Cel.zero))&&(List.range w.lines.length).all (fun k=>lineOk (s.chans.getD k C0) (w.lines.getD k [])))
def chkWorld(s:Sys)(w:Wrl):Int:=if chkSys s=0 then(if wrlOk s w then 0 else 1) else chkSys s
theorem chkWorld_c{s:Sys}{w:Wrl}(h:chkSys s≠0):chkWorld s w=chkSys s:=if_neg h
theorem chkWorld_1{s:Sys}{w:Wrl}(h:chkSys s=0)(h2:wrlOk s w=false):chkWorld s w=1:=by unfold chkWorld;rw[if_pos h,if_neg (by simp[h2])]
theorem chkWorld_0{s:Sys}{w:Wrl}(h:chkSys s=0)(h2:wrlOk s w=true):chkWorld s w=0:=by unfold chkWorld;rw[if_pos h,if_pos h2]
theorem chkWorld_zero{s:Sys}{w:Wrl}(h:chkWorld s w=0):chkSys s=0∧wrlOk s w=true:=by
 unfold chkWorld at h
 by_cases h1:chkSys s=0
 ·rw[if_pos h1] at h
  refine⟨h1,?_⟩
  cases h2:wrlOk s w
  ·rw[h2] at h;cases h
  ·rfl
 ·rw[if_neg h1] at h;exact absurd h h1
structure Right(s:Sys)(w:Wrl):Prop where
 t0:0≤w.tick
 t1:w.tick≤300
 cl:w.cells.length=s.parts.length
 ll:w.lines.length=s.chans.length
 cell:∀k,k<w.cells.length→cellFine (w.cells.getD k Cel.zero)=true∧(w.cells.getD k Cel.zero).read≤(s.parts.getD k Pt0).inp.length
 line:∀k,k<w.lines.length→chkLine (s.chans.getD k C0).kind (w.lines.getD k []).length=0
theorem right_iff{s:Sys}{w:Wrl}:wrlOk s w=true↔Right s w:=by
 unfold wrlOk
 simp only[Bool.and_eq_true,decide_eq_true_eq,List.all_eq_true,List.mem_range,cellOk,lineOk]
 constructor
 ·rintro⟨⟨h1,h2,h3,h4⟩,h5,h6⟩
  exact⟨h1,h2,h3,h4,h5,h6⟩
 ·intro h
  exact⟨⟨h.t0,h.t1,h.cl,h.ll⟩,h.cell,h.line⟩
def chanOf(kind:Int)(k:Wnt)(c:Cel)(l:List Int):Cel×List Int:=
 if k.kind=12 then(replyOf c k kind 0 (putOf kind l k.val).2.1,(putOf kind l k.val).1)
 else(replyOf c k kind (getOf kind l).2.1 (getOf kind l).2.2.1,(getOf kind l).1)
def stepP(s:Sys)(p:Nat)(w:Wrl):Wrl:=
 let r:=stepOf (s.parts.getD p Pt0) (w.cells.getD p Cel.zero)
 let k:=r.2.chan.toNat
 let q:=chanOf (s.chans.getD k C0).kind r.2 r.1 (w.lines.getD k [])
 if r.2.kind=0 then⟨w.tick+1,w.cells.set p r.1,w.lines⟩ else⟨w.tick+1,w.cells.set p q.1,w.lines.set k q.2⟩
def stepW(s:Sys)(w:Wrl):Wrl:=stepP s (whoOf s.slots w.tick).toNat w
theorem stepP_0{s:Sys}{p:Nat}{w:Wrl}{c:Cel}{k:Wnt}(h:stepOf (s.parts.getD p Pt0) (w.cells.getD p Cel.zero)=(c,k))(hk:k.kind=0):stepP s p w=⟨w.tick+1,w.cells.set p c,w.lines⟩:=by
 unfold stepP
 rw[h]
 exact if_pos hk
theorem stepP_1{s:Sys}{p:Nat}{w:Wrl}{c:Cel}{k:Wnt}{q:Cel×List Int}(h:stepOf (s.parts.getD p Pt0) (w.cells.getD p Cel.zero)=(c,k))(hk:k.kind≠0)(hq:chanOf (s.chans.getD k.chan.toNat C0).kind k c (w.lines.getD k.chan.toNat [])=q):
  stepP s p w=⟨w.tick+1,w.cells.set p q.1,w.lines.set k.chan.toNat q.2⟩:=by
 subst hq
 unfold stepP
 rw[h]
 exact if_neg hk
def beginW(s:Sys):Wrl:=⟨0,List.replicate s.parts.length Cel.zero,List.replicate s.chans.length []⟩
def runW(s:Sys):Nat→Wrl
 |0=>beginW s
 |n+1=>stepW s (runW s n)
end Go.Proofs.YtndcjmopebcdgaaGreat
