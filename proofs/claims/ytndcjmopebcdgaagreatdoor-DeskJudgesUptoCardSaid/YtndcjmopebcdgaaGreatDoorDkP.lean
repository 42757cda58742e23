/- Worlds: cells and lines; how they lie in memory; what is right of them; a step of the kernel, said by a plain function. Plain laws of the kernel's step: whose turn it is, what its cell wants, and that what comes is right. The reference's functions on cells: CellFine, StepError, ReplyError, ReplyOf, SameCells. kern.Check and the reference's CheckWorld find the same. The kernel's worlds of one's own: begin, own. -/
import Derived.Test.YtndcjmopebcdgaaGreatDoorCellB
import Derived.Test.YtndcjmopebcdgaaGreatDoorSchedB1
import Derived.Test.YtndcjmopebcdgaaGreatDoorLineB
import Derived.Test.YtndcjmopebcdgaaGreatDoorConfD1
import Derived.Test.YtndcjmopebcdgaaGreatDoorTys
import Derived.Test.YtndcjmopebcdgaaGreatDoorSysB
import Derived.Test.YtndcjmopebcdgaaGreatDoorBase
import Derived.Test.YtndcjmopebcdgaaGreatDoorDkG
import Derived.Test.YtndcjmopebcdgaaGreatDoorConfC1
set_option linter.unusedSimpArgs false
set_option linter.unusedVariables false
namespace Go.Proofs.YtndcjmopebcdgaaGreatDoor
section
open Go.ChangeShapes Go.WideShapes Go.ChangeAt Go.RowKit
set_option maxRecDepth 100000
structure CD where
 c:Cel
 wf:c.wf
 a:Option Addr
 k:Nat
def CD.ov(q:CD):Value:=.slice q.a q.c.out.length q.k
def encC(q:CD):List Value:=cellL q.c q.ov
theorem encC_len(q:CD):(encC q).length=16:=by simp[encC,cellL,q.wf.1,q.wf.2]
def CD.At(q:CD)(u:World):Prop:=Ints u (.slice q.a q.c.out.length q.k) q.c.out
def CD.Own(q:CD)(u:World):Prop:=OwnInts u 0 (.slice q.a q.c.out.length q.k) q.c.out
def CD0:CD:=⟨Cel.zero,Cel.zero_wf,none,0⟩
structure LD where
 vals:List Int
 a:Option Addr
 k:Nat
def encL(q:LD):List Value:=[.slice q.a q.vals.length q.k]
theorem encL_len(q:LD):(encL q).length=1:=rfl
def LD.At(q:LD)(u:World):Prop:=Ints u (.slice q.a q.vals.length q.k) q.vals
def LD.Own(q:LD)(u:World):Prop:=OwnInts u 0 (.slice q.a q.vals.length q.k) q.vals
def LD0:LD:=⟨[],none,0⟩
structure Wrl where
 tick:Int
 cells:List Cel
 lines:List (List Int)
instance :DecidableEq Wrl:=fun x y=>decidable_of_iff (x.tick=y.tick∧x.cells=y.cells∧x.lines=y.lines)
 ⟨fun h=>by cases x;cases y;simp_all,fun h=>by subst h;exact⟨rfl,rfl,rfl⟩⟩
def Wrl.zero:Wrl:=⟨0,[],[]⟩
structure WD where
 tick:Int
 cells:List CD
 ca:Option Addr
 cc:Nat
 lines:List LD
 la:Option Addr
 lc:Nat
def WD.wrl(x:WD):Wrl:=⟨x.tick,x.cells.map CD.c,x.lines.map LD.vals⟩
def WD.val(x:WD):Value:=.agg #[.int .i64 x.tick,.slice x.ca x.cells.length x.cc,.slice x.la x.lines.length x.lc]
theorem WD.val_eq(x:WD):x.val=.agg #[.int .i64 x.tick,.slice x.ca x.cells.length x.cc,.slice x.la x.lines.length x.lc]:=rfl
def WD.zero:WD:=⟨0,[],none,0,[],none,0⟩
structure WD.At(x:WD)(u:World):Prop where
 cells:Flat encC 16 u (.slice x.ca x.cells.length x.cc) x.cells
 eachC:∀q,q∈x.cells→q.At u
 lines:Flat encL 1 u (.slice x.la x.lines.length x.lc) x.lines
 eachL:∀q,q∈x.lines→q.At u
section
variable {x:WD} {w w':World} {k:Nat}
theorem CD.At.below{q:CD}(h:q.At w)(hb:Below w.heap.size w w'):q.At w':=Ints.below h hb
theorem LD.At.below{q:LD}(h:q.At w)(hb:Below w.heap.size w w'):q.At w':=Ints.below h hb
theorem CD.Own.at_{q:CD}(h:q.Own w):q.At w:=OwnInts.ints h
theorem LD.Own.at_{q:LD}(h:q.Own w):q.At w:=OwnInts.ints h
theorem WD.At.below(h:x.At w)(hb:Below w.heap.size w w'):x.At w':=⟨h.cells.below hb,fun q hq=>(h.eachC q hq).below hb,h.lines.below hb,fun q hq=>(h.eachL q hq).below hb⟩
theorem WD.At.cellsR(h:x.At w):RF w x.ca x.cells.length 16 (fun k=>encC (x.cells.getD k CD0)):=h.cells.rf encC_len CD0
theorem WD.At.linesR(h:x.At w):RF w x.la x.lines.length 1 (fun k=>encL (x.lines.getD k LD0)):=h.lines.rf encL_len LD0
theorem WD.At.cell(h:x.At w)(hk:k<x.cells.length):(x.cells.getD k CD0).At w:=h.eachC _ (mem_getD CD0 hk)
theorem WD.At.line(h:x.At w)(hk:k<x.lines.length):(x.lines.getD k LD0).At w:=h.eachL _ (mem_getD LD0 hk)
end
def cellOk(p:Prt)(c:Cel):Bool:=cellFine c&&decide (c.read≤p.inp.length)
def lineOk(c:Chn)(l:List Int):Bool:=decide (chkLine c.kind l.length=0)
def Pt0:Prt:=⟨[],[]⟩
def wrlOk(s:Sys)(w:Wrl):Bool:=
 decide (0≤w.tick∧w.tick≤300∧w.cells.length=s.parts.length∧w.lines.length=s.chans.length)&&
  ((List.range w.cells.length).all (fun k=>cellOk (s.parts.getD k Pt0) (w.cells.getD k Cel.zero))&&(List.range w.lines.length).all (fun k=>lineOk (s.chans.getD k C0) (w.lines.getD k [])))
def chkWorld(s:Sys)(w:Wrl):Int:=if chkSys s=0 then(if wrlOk s w then 0 else 1) else chkSys s
theorem chkWorld_0{s:Sys}{w:Wrl}(h:chkSys s=0)(h2:wrlOk s w=true):chkWorld s w=0:=by unfold chkWorld;rw[if_pos h,if_pos h2]
theorem chkWorld_zero{s:Sys}{w:Wrl}(h:chkWorld s w=0):chkSys s=0∧wrlOk s w=true:=by
 unfold chkWorld at h
 by_cases h1:chkSys s=0
 ·rw[if_pos h1] at h
  refine⟨h1,?_⟩
  cases h2:wrlOk s w
  ·rw[h2] at h;cases h
  ·rfl
 ·rw[if_neg h1] at h;exact absurd h h1
structure Right(s:Sys)(w:Wrl):Prop where
 t0:0≤w.tick
 t1:w.tick≤300
 cl:w.cells.length=s.parts.length
 ll:w.lines.length=s.chans.length
 cell:∀k,k<w.cells.length→cellFine (w.cells.getD k Cel.zero)=true∧(w.cells.getD k Cel.zero).read≤(s.parts.getD k Pt0).inp.length
 line:∀k,k<w.lines.length→chkLine (s.chans.getD k C0).kind (w.lines.getD k []).length=0
theorem right_iff{s:Sys}{w:Wrl}:wrlOk s w=true↔Right s w:=by
 unfold wrlOk
 simp only[Bool.and_eq_true,decide_eq_true_eq,List.all_eq_true,List.mem_range,cellOk,lineOk]
 constructor
 ·rintro⟨⟨h1,h2,h3,h4⟩,h5,h6⟩
  exact⟨h1,h2,h3,h4,h5,h6⟩
 ·intro h
  exact⟨⟨h.t0,h.t1,h.cl,h.ll⟩,h.cell,h.line⟩
def chanOf(kind:Int)(k:Wnt)(c:Cel)(l:List Int):Cel×List Int:=
 if k.kind=12 then(replyOf c k kind 0 (putOf kind l k.val).2.1,(putOf kind l k.val).1)
 else(replyOf c k kind (getOf kind l).2.1 (getOf kind l).2.2.1,(getOf kind l).1)
def stepP(s:Sys)(p:Nat)(w:Wrl):Wrl:=
 let r:=stepOf (s.parts.getD p Pt0) (w.cells.getD p Cel.zero)
 let k:=r.2.chan.toNat
 let q:=chanOf (s.chans.getD k C0).kind r.2 r.1 (w.lines.getD k [])
 if r.2.kind=0 then⟨w.tick+1,w.cells.set p r.1,w.lines⟩ else⟨w.tick+1,w.cells.set p q.1,w.lines.set k q.2⟩
def stepW(s:Sys)(w:Wrl):Wrl:=stepP s (whoOf s.slots w.tick).toNat w
theorem stepP_0{s:Sys}{p:Nat}{w:Wrl}{c:Cel}{k:Wnt}(h:stepOf (s.parts.getD p Pt0) (w.cells.getD p Cel.zero)=(c,k))(hk:k.kind=0):stepP s p w=⟨w.tick+1,w.cells.set p c,w.lines⟩:=by
 unfold stepP
 rw[h]
 exact if_pos hk
theorem stepP_1{s:Sys}{p:Nat}{w:Wrl}{c:Cel}{k:Wnt}{q:Cel×List Int}(h:stepOf (s.parts.getD p Pt0) (w.cells.getD p Cel.zero)=(c,k))(hk:k.kind≠0)(hq:chanOf (s.chans.getD k.chan.toNat C0).kind k c (w.lines.getD k.chan.toNat [])=q):
  stepP s p w=⟨w.tick+1,w.cells.set p q.1,w.lines.set k.chan.toNat q.2⟩:=by
 subst hq
 unfold stepP
 rw[h]
 exact if_neg hk
def beginW(s:Sys):Wrl:=⟨0,List.replicate s.parts.length Cel.zero,List.replicate s.chans.length []⟩
def runW(s:Sys):Nat→Wrl
 |0=>beginW s
 |n+1=>stepW s (runW s n)
end
section
open Go.ChangeShapes Go.WideShapes Go.ChangeAt Go.RowKit
set_option maxRecDepth 100000
theorem doOf_want{i:Ins}{c:Cel}{inp:List Int}{x:Cel×Wnt}(hd:doOf i c inp=some x):
  x.2=Wnt.zero∨(i.op.toNat=12∧∃v,x.2=⟨12,i.n,i.a,0,v⟩)∨(i.op.toNat=13∧x.2=⟨13,i.n,i.a,i.b,0⟩):=by
 unfold doOf at hd
 dsimp only at hd
 split at hd
 all_goals(try split at hd)
 all_goals first|(cases hd;done)|(simp only[Option.some.injEq] at hd;subst hd)
 all_goals first
  |exact .inl rfl
  |exact .inr (.inl ⟨by assumption,_,rfl⟩)
  |exact .inr (.inr ⟨by assumption,rfl⟩)
structure Wants(s:Sys)(p:Nat)(k:Wnt):Prop where
 kind:(k.kind=12∧k.flag=0)∨(k.kind=13∧k.val=0)
 reg:regOk k.reg=true
 flag:regOk k.flag=true
 c0:0≤k.chan
 c1:k.chan<s.chans.length
 put:k.kind=12→(s.chans.getD k.chan.toNat C0).from_=p
 get:k.kind=13→(s.chans.getD k.chan.toNat C0).to_=p
theorem part_code{s:Sys}(hk:chkSys s=0){p:Nat}(hp:p<s.parts.length):chkCode (s.parts.getD p Pt0).code=0∧(s.parts.getD p Pt0).inp.length≤12∧(s.parts.getD p Pt0).code.all (insOk s.chans p)=true:=by
 obtain⟨h1,h2,-,-,-,h6⟩:=chkSys_zero hk
 simp only[sizesOk,Bool.and_eq_true] at h1
 refine⟨firstCode_zero.1 h2 _ (mem_getD Pt0 hp),by simpa using List.all_eq_true.1 h1.2 _ (mem_getD Pt0 hp),?_⟩
 have:=(namesFrom_iff _ _ _).1 h6 p hp
 rwa [Nat.zero_add] at this
theorem ins_wants{s:Sys}{p:Nat}{i:Ins}(hi:chkIns i=0)(ho:insOk s.chans p i=true):(i.op.toNat=12→∀v,Wants s p ⟨12,i.n,i.a,0,v⟩)∧(i.op.toNat=13→Wants s p ⟨13,i.n,i.a,i.b,0⟩):=by
 obtain⟨-,⟨a0,a4⟩,b0,b4⟩:=chk_regs hi
 obtain⟨-,-,hn⟩:=chkIns_op hi
 simp only[insOk,Bool.and_eq_true,Bool.or_eq_true,bne_iff_ne,ne_eq,decide_eq_true_eq,beq_iff_eq] at ho
 refine⟨fun h v=>?_,fun h=>?_⟩
 ·have e:i.op=12:=by omega
  obtain⟨n0,n6⟩:=hn (.inl e)
  obtain⟨h1,h2⟩:=ho.1.resolve_left fun h=>h e
  exact⟨.inl ⟨rfl,rfl⟩,by simp[regOk];omega,rfl,n0,h1,fun _=>h2,fun h=>by simp at h⟩
 ·have e:i.op=13:=by omega
  obtain⟨n0,n6⟩:=hn (.inr e)
  obtain⟨h1,h2⟩:=ho.2.resolve_left fun h=>h e
  exact⟨.inr ⟨rfl,rfl⟩,by simp[regOk];omega,by simp[regOk];omega,n0,h1,fun h=>by simp at h,fun _=>h2⟩
theorem stepOf_want{s:Sys}{p:Nat}{c:Cel}(hk:chkSys s=0)(hp:p<s.parts.length):(stepOf (s.parts.getD p Pt0) c).2=Wnt.zero∨Wants s p (stepOf (s.parts.getD p Pt0) c).2:=by
 obtain⟨hc,-,hn⟩:=part_code hk hp
 obtain⟨-,hall⟩:=chkCode_all hc
 unfold stepOf
 split
 ·exact .inl rfl
 ·split
  ·exact .inl rfl
  ·rename_i i hi
   have hmem:=List.mem_of_getElem? hi
   have hw:=ins_wants (s:=s) (p:=p) (hall i hmem) (List.all_eq_true.1 hn i hmem)
   split
   ·exact .inl rfl
   ·rename_i x hx
    rcases doOf_want hx with h|⟨h,v,e⟩|⟨h,e⟩
    ·exact .inl h
    ·rw[e];exact .inr (hw.1 h v)
    ·rw[e];exact .inr (hw.2 h)
theorem mem_turns{ss:List Slt}{p:Int}(h:p∈turnsL ss):∃s∈ss,s.part=p:=by
 obtain⟨s,hs,hp⟩:=List.mem_flatMap.1 h
 exact⟨s,hs,(List.eq_of_mem_replicate hp).symm⟩
theorem slot_ok{s:Sys}(hk:chkSys s=0):(0<s.slots.length)∧∀k,k<s.slots.length→(0≤(s.slots.getD k S0).part∧(s.slots.getD k S0).part<s.parts.length)∧1≤(s.slots.getD k S0).ticks∧(s.slots.getD k S0).ticks≤8:=by
 obtain⟨h1,-,-,-,h5,-⟩:=chkSys_zero hk
 simp only[sizesOk,Bool.and_eq_true,decide_eq_true_eq] at h1
 refine⟨by omega,fun k h=>?_⟩
 have:=List.all_eq_true.1 h5 _ (mem_getD (l:=s.slots) S0 h)
 simp only[sltOk,partOk,Bool.and_eq_true] at this
 exact⟨of_decide_eq_true this.1,of_decide_eq_true this.2⟩
theorem turns_pos{s:Sys}(hk:chkSys s=0):0<(turnsL s.slots).length:=by
 obtain⟨h0,h⟩:=slot_ok hk
 have h1:=h 0 h0
 have:=turnsL_snoc (ss:=s.slots) (k:=0) h0
 have hle:(turnsL (s.slots.take 1)).length≤(turnsL s.slots).length:=by
  conv=>rhs;rw[←List.take_append_drop 1 s.slots]
  unfold turnsL
  rw[List.flatMap_append,List.length_append]
  omega
 rw[Nat.zero_add] at this
 rw[this,List.length_append,List.length_replicate] at hle
 omega
theorem who_part{s:Sys}(hk:chkSys s=0){t:Int}(ht:0≤t):∃p:Nat,whoOf s.slots t=p∧p<s.parts.length:=by
 have hpos:=turns_pos hk
 have hlt:(t.tmod (turnsL s.slots).length).toNat<(turnsL s.slots).length:=by
  have h1:=Int.tmod_nonneg ((turnsL s.slots).length:Int) ht
  have h2:=Int.tmod_lt_of_pos t (show(0:Int)<(turnsL s.slots).length by omega)
  omega
 obtain⟨x,hx,hp⟩:=mem_turns (mem_getD (l:=turnsL s.slots) 0 hlt)
 obtain⟨k,hkk,e⟩:=List.mem_iff_getElem.1 hx
 have hok:=(slot_ok hk).2 k hkk
 rw[List.getD,List.getElem?_eq_getElem hkk,Option.getD_some,e,hp] at hok
 exact⟨(whoOf s.slots t).toNat,by unfold whoOf;omega,by unfold whoOf;omega⟩
theorem right_err{s:Sys}{w:Wrl}(hk:chkSys s=0)(hr:Right s w){p:Nat}(hp:p<s.parts.length):stepErr (s.parts.getD p Pt0) (w.cells.getD p Cel.zero)=0:=by
 obtain⟨h1,h2,-⟩:=part_code hk hp
 unfold stepErr
 rw[if_neg (fun h=>h h1),if_neg Om,if_pos (hr.cell p (by have:=hr.cl;omega))]
theorem kind_ok{s:Sys}(hk:chkSys s=0){k:Nat}(h:k<s.chans.length):(s.chans.getD k C0).kind=1∨(s.chans.getD k C0).kind=2:=by
 have:=List.all_eq_true.1 (chkSys_zero hk).2.2.1 _ (mem_getD C0 h)
 simpa[kindOk] using this
theorem putOf_ok{k x:Int}{l:List Int}(h:chkLine k l.length=0):∃m b,putOf k l x=(m,b,0)∧chkLine k m.length=0:=by
 unfold putOf
 rw[if_pos h]
 rcases chk_zero h with⟨rfl,h1⟩|⟨rfl,h1⟩
 ·exact⟨_,_,rfl,by simp[chkLine,roomIs,roomOf]⟩
 ·rw[if_neg Dc]
  split
  ·exact⟨_,_,rfl,by simp[chkLine,roomIs,roomOf];omega⟩
  ·exact⟨_,_,rfl,h⟩
theorem getOf_ok{k:Int}{l:List Int}(h:chkLine k l.length=0):∃m v b,getOf k l=(m,v,b,0)∧chkLine k m.length=0∧(k=1→m=l):=by
 unfold getOf
 rw[if_pos h]
 rcases l with _|⟨x,r⟩
 ·exact⟨_,_,_,rfl,h,fun _=>rfl⟩
 ·rcases chk_zero h with⟨rfl,h1⟩|⟨rfl,h1⟩
  ·exact⟨_,_,_,rfl,h,fun _=>rfl⟩
  ·refine⟨_,_,_,rfl,?_,fun h=>by cases h⟩
   rw[if_pos rfl]
   simp[chkLine,roomIs,roomOf] at h1⊢
   omega
theorem replyErr_ok{s:Sys}{p:Nat}{c:Cel}{k:Wnt}(hf:cellFine c=true)(hw:Wants s p k){kind:Int}(hkd:kind=1∨kind=2):replyErr c k kind=0:=by
 unfold replyErr
 rw[if_neg (by simp[hf]),if_neg (by rcases hw.kind with h|h<;>omega),if_pos (by simp[hw.reg,hw.flag])]
theorem replyOf_fine{c:Cel}{k:Wnt}{kind val:Int}{b:Bool}(hf:cellFine c=true):cellFine (replyOf c k kind val b)=true∧(replyOf c k kind val b).read=c.read∧(replyOf c k kind val b).out=c.out∧(replyOf c k kind val b).end_=c.end_:=by
 unfold replyOf
 split
 ·split
  ·exact⟨by simpa[cellFine] using hf,rfl,rfl,rfl⟩
  ·exact⟨hf,rfl,rfl,rfl⟩
 ·exact⟨by simpa[cellFine] using hf,rfl,rfl,rfl⟩
theorem chanOf_ok{kind:Int}{k:Wnt}{c:Cel}{l:List Int}(hf:cellFine c=true)(hl:chkLine kind l.length=0):cellFine (chanOf kind k c l).1=true∧(chanOf kind k c l).1.read=c.read∧(chanOf kind k c l).1.out=c.out∧(chanOf kind k c l).1.end_=c.end_∧chkLine kind (chanOf kind k c l).2.length=0:=by
 unfold chanOf
 split
 ·obtain⟨m,b,e,hm⟩:=putOf_ok (x:=k.val) hl
  have:=replyOf_fine (k:=k) (kind:=kind) (val:=0) (b:=(putOf kind l k.val).2.1) hf
  exact⟨this.1,this.2.1,this.2.2.1,this.2.2.2,by rw[e];exact hm⟩
 ·obtain⟨m,v,b,e,hm,-⟩:=getOf_ok hl
  have:=replyOf_fine (k:=k) (kind:=kind) (val:=(getOf kind l).2.1) (b:=(getOf kind l).2.2.1) hf
  exact⟨this.1,this.2.1,this.2.2.1,this.2.2.2,by rw[e];exact hm⟩
theorem stepP_right{s:Sys}{w:Wrl}{p:Nat}(hk:chkSys s=0)(hr:Right s w)(ht:w.tick<300)(hp:p<s.parts.length):Right s (stepP s p w)∧Goes (w.cells.getD p Cel.zero) ((stepP s p w).cells.getD p Cel.zero) (s.parts.getD p Pt0).inp.length∧(∀q,q≠p→(stepP s p w).cells.getD q Cel.zero=w.cells.getD q Cel.zero):=by
 have hcl:=hr.cl
 have hll:=hr.ll
 have h0:=hr.t0
 obtain⟨hg,-⟩:=stepOf_goes (right_err hk hr hp)
 obtain⟨⟨c,k⟩,e⟩:∃q,stepOf (s.parts.getD p Pt0) (w.cells.getD p Cel.zero)=q:=⟨_,rfl⟩
 have hw:=stepOf_want (c:=w.cells.getD p Cel.zero) hk hp
 rw[e] at hg hw
 dsimp only at hg hw
 have put:∀(d:Cel) (n:Nat),n<(w.cells.set p d).length→(w.cells.set p d).getD n Cel.zero=if p=n then d else w.cells.getD n Cel.zero:=fun d n hn=>getD_set (by simpa using hn)
 have oth:∀(d:Cel) (q:Nat),q≠p→(w.cells.set p d).getD q Cel.zero=w.cells.getD q Cel.zero:=fun d q hq=>by
  simp only[List.getD,List.getElem?_set]
  rw[if_neg (fun h=>hq h.symm)]
 have cells:∀d:Cel,Goes (w.cells.getD p Cel.zero) d (s.parts.getD p Pt0).inp.length→∀n,n<(w.cells.set p d).length→cellFine ((w.cells.set p d).getD n Cel.zero)=true∧((w.cells.set p d).getD n Cel.zero).read≤(s.parts.getD n Pt0).inp.length:=fun d hd n hn=>by
  rw[put d n hn]
  by_cases h:p=n
  ·subst h
   rw[if_pos rfl]
   exact⟨hd.fine,hd.read⟩
  ·rw[if_neg h]
   exact hr.cell n (by simpa using hn)
 rcases hw with hz|hw
 ·rw[stepP_0 e (by rw[hz];rfl)]
  refine⟨⟨by dsimp only;omega,by dsimp only;omega,by simpa using hcl,hll,cells c hg,hr.line⟩,?_,oth c⟩
  dsimp only
  rw[put c p (by simp;omega),if_pos rfl]
  exact hg
 ·have hkn:k.chan.toNat<s.chans.length:=by have:=hw.c0;have:=hw.c1;omega
  obtain⟨c2,l2⟩:∃q,chanOf (s.chans.getD k.chan.toNat C0).kind k c (w.lines.getD k.chan.toNat [])=q:=⟨_,rfl⟩
  obtain⟨q1,q2,q3,q4,q5⟩:=chanOf_ok (k:=k) hg.fine (hr.line k.chan.toNat Om)
  rw[stepP_1 e (by rcases hw.kind with h|h<;>omega) l2]
  rw[l2] at q1 q2 q3 q4 q5
  have hg2:Goes (w.cells.getD p Cel.zero) c2.1 (s.parts.getD p Pt0).inp.length:=⟨q1,by rw[q2];exact hg.read,by rw[q3];exact hg.told,by rw[q3];exact hg.len,by rw[q2];exact hg.lo,by rw[q2];exact hg.hi⟩
  refine⟨⟨by dsimp only;omega,by dsimp only;omega,by simpa using hcl,by simpa using hll,cells c2.1 hg2,fun n hn=>?_⟩,?_,oth c2.1⟩
  ·dsimp only at hn⊢
   rw[getD_set (by simpa using hn)]
   split
   ·rename_i h
    rw[←h]
    exact q5
   ·exact hr.line n (by simpa using hn)
  ·dsimp only
   rw[put c2.1 p (by simp;omega),if_pos rfl]
   exact hg2
theorem stepW_right{s:Sys}{w:Wrl}(hk:chkSys s=0)(hr:Right s w)(ht:w.tick<300):Right s (stepW s w):=by
 obtain⟨p,e,hp⟩:=who_part hk hr.t0
 unfold stepW
 rw[e,Int.toNat_natCast]
 exact(stepP_right hk hr ht hp).1
theorem stepW_tick{s:Sys}{w:Wrl}:(stepW s w).tick=w.tick+1:=by
 unfold stepW stepP
 dsimp only
 split<;>rfl
theorem beginW_right{s:Sys}(hk:chkSys s=0):Right s (beginW s):=by
 refine⟨Int.le_refl 0,show(0:Int)≤300 by decide,by simp[beginW],by simp[beginW],fun k h=>?_,fun k h=>?_⟩
 ·have hk2:k<s.parts.length:=by simpa[beginW] using h
  have:(beginW s).cells.getD k Cel.zero=Cel.zero:=by simp[beginW,List.getD,hk2]
  rw[this]
  exact⟨rfl,by simp[Cel.zero]⟩
 ·have hk2:k<s.chans.length:=by simpa[beginW] using h
  have:(beginW s).lines.getD k []=[]:=by simp[beginW,List.getD,hk2]
  rw[this]
  rcases kind_ok hk hk2 with e|e<;>rw[e]<;>rfl
theorem runW_right{s:Sys}(hk:chkSys s=0):∀n:Nat,n≤300→Right s (runW s n)∧(runW s n).tick=n
 |0,_=>⟨beginW_right hk,rfl⟩
 |n+1,h=>by
  obtain⟨h1,h2⟩:=runW_right hk n Om
  exact⟨stepW_right hk h1 Om,by rw[runW,stepW_tick,h2];rfl⟩
end
section
open Go.RowKit
set_option maxRecDepth 100000
theorem truth_any(b:Bool)(w:World):Calls Tryz.prog 148 #[.bool b] w fun e w'=>e=.returned (.int .i64 (bitI b))∧Below w.heap.size w w':=by
 cases b
 ·refine enter Tryz.func148 rfl Tryz.ntmps148 rfl fun a hF=>?_
  have hW:=Wd.start w NoB
  refine c_sr<|pq 1 hF rfl fun a hF=>l_nil<|t_n<|c_s<|c_sr<|pq 1 hF rfl fun a hF=>l_nil<|t_n<|c_f hF rfl<|wp_skip<|t_n<|c_sr<|pq 1 hF rfl fun a hF=>l_nil<|t_n<|wp_ret<|ret1 Tryz.results148 hF (rv_t hF rfl) ?_
  exact⟨rfl,hW.below⟩
 ·refine enter Tryz.func148 rfl Tryz.ntmps148 rfl fun a hF=>?_
  have hW:=Wd.start w NoB
  refine c_sr<|pq 1 hF rfl fun a hF=>l_nil<|t_n<|c_s<|c_sr<|pq 1 hF rfl fun a hF=>l_nil<|t_n<|c_t hF rfl<|c_sr<|pq 1 hF rfl fun a hF=>l_nil<|t_n<|wp_ret<|t_r<|ret1 Tryz.results148 hF (rv_t hF rfl) ?_
  exact⟨rfl,hW.below⟩
end
section
open Go.ChangeShapes Go.WideShapes Go.ChangeAt Go.RowKit
set_option maxRecDepth 100000
structure RightD(x:SysD)(y:WD):Prop where
 t0:0≤y.tick
 t1:y.tick≤300
 cl:y.cells.length=x.parts.length
 ll:y.lines.length=x.chans.length
 cell:∀k,k<y.cells.length→cellFine (y.cells.getD k CD0).c=true∧(y.cells.getD k CD0).c.read≤(x.parts.getD k P0).1.inp.length
 line:∀k,k<y.lines.length→chkLine (x.chans.getD k C0).kind (y.lines.getD k LD0).vals.length=0
theorem rightD_iff{x:SysD}{y:WD}:Right x.sys y.wrl↔RightD x y:=by
 have e1:∀k,(y.cells.map CD.c).getD k Cel.zero=(y.cells.getD k CD0).c:=fun k=>getD_map CD.c k CD0
 have e2:∀k,(x.parts.map Prod.fst).getD k Pt0=(x.parts.getD k P0).1:=fun k=>getD_map Prod.fst k P0
 have e3:∀k,(y.lines.map LD.vals).getD k []=(y.lines.getD k LD0).vals:=fun k=>getD_map LD.vals k LD0
 constructor
 ·intro h
  refine⟨h.t0,h.t1,?_,?_,fun k hk=>?_,fun k hk=>?_⟩
  ·simpa[SysD.sys,WD.wrl] using h.cl
  ·simpa[SysD.sys,WD.wrl] using h.ll
  ·have:=h.cell k (by simpa[WD.wrl] using hk)
   simp only[SysD.sys,WD.wrl,e1,e2] at this
   exact this
  ·have:=h.line k (by simpa[WD.wrl] using hk)
   simp only[SysD.sys,WD.wrl,e3] at this
   exact this
 ·intro h
  refine⟨h.t0,h.t1,by simpa[SysD.sys,WD.wrl] using h.cl,by simpa[SysD.sys,WD.wrl] using h.ll,fun k hk=>?_,fun k hk=>?_⟩
  ·simp only[SysD.sys,WD.wrl,e1,e2]
   exact h.cell k (by simpa[WD.wrl] using hk)
  ·simp only[SysD.sys,WD.wrl,e3]
   exact h.line k (by simpa[WD.wrl] using hk)
end
section
open Go.ChangeShapes Go.WideShapes Go.ChangeAt Go.RowKit
set_option maxRecDepth 100000
section
variable {w0 w w':World} {X:Nat→Prop} {es:List Asn}
theorem Wd.blk_rowC(h:Wd w0 X es w)(i:Nat){b:Nat}{T:TypeId}{l cs:List Value}(hi:es[i]?=some (.blk b T l))(size n c:Nat)(hl:l.length=c*size)(hn:n≤c)(hc:c≤maxLen)(htk:l.take (n*size)=cs):Wd w0 X (es.set i (.row T size (.slice (some ⟨b,0,none⟩) n c) n cs)) w:=
 h.upd i hi fun F hF=>⟨Chg.refl _ _,(· =b),⟨⟨by rw[←htk,List.length_take,hl];exact Nat.min_eq_left (Nat.mul_le_mul_right _ hn),.inr ⟨b,c,l.toArray,rfl,Nat.zero_le _,hF.2.2,hn,hc,by simpa using hl,by simpa using htk⟩⟩,fun k hk=>by simp[Value.ownBlock] at hk;exact hk.symm⟩,
  fun k hk=>⟨by subst hk;exact hF.2.2.lt,.inl (hk▸hF.1)⟩⟩
end
abbrev WD.rowC(y:WD):Asn:=.row 75 16 (.slice y.ca y.cells.length y.cc) y.cells.length (y.cells.flatMap encC)
abbrev WD.rowL(y:WD):Asn:=.row 195 1 (.slice y.la y.lines.length y.lc) y.lines.length (y.lines.flatMap encL)
def WD.Rest(y:WD)(u:World):Prop:=(∀q,q∈y.cells→q.Own u)∧∀q,q∈y.lines→q.Own u
def WrlOwn(w:World)(W:Wrl)(e:Ending)(w':World):Prop:=∃y:WD,e=.returned y.val∧y.wrl=W∧Wd w NoB [y.rowC,y.rowL,.res y.Rest] w'
theorem Wd.own_world{w0 w:World}{es:List Asn}{y:WD}(hW:Wd w0 NoB (y.rowC::y.rowL::.res y.Rest::es) w):Wd w0 NoB (.res y.At::es) w:=
 Wd.res3 ((hW.row_res 0 rfl).row_res 1 rfl) fun u h1 h2 h3=>(⟨Flat.of_own h1 rfl,fun q hq=>(h3.1 q hq).at_,Flat.of_own h2 rfl,fun q hq=>(h3.2 q hq).at_⟩:y.At u)
structure WD.Small(y:WD):Prop where
 nc:y.cells.length≤1024
 nl:y.lines.length≤1024
 out:∀k,k<y.cells.length→(y.cells.getD k CD0).c.out.length≤1024
 val:∀k,k<y.lines.length→(y.lines.getD k LD0).vals.length≤1024
theorem chk_len{k:Int}{n:Nat}(h:chkLine k n=0):n≤3:=by rcases chk_zero h with h|h<;>omega
theorem RightD.small{x:SysD}{y:WD}(hk:chkSys x.sys=0)(h:RightD x y):y.Small:=by
 obtain⟨h1,-⟩:=chkSys_zero hk
 obtain⟨⟨-,h2⟩,h3,-⟩:=sizes_get h1
 refine⟨by have:=h.cl;omega,by have:=h.ll;omega,fun k hk=>?_,fun k hk=>?_⟩
 ·have:=(h.cell k hk).1
  simp only[cellFine,decide_eq_true_eq] at this
  omega
 ·have:=chk_len (h.line k hk)
  omega
theorem wrl_eq{y:WD}{t:Int}{L:List CD}{M:List LD}{a b:Option Addr}{c d:Nat}(ht:t=y.tick)(hL:L.length=y.cells.length)(hM:M.length=y.lines.length)
  (h1:∀i,i<y.cells.length→(L.getD i CD0).c=(y.cells.getD i CD0).c) (h2:∀i,i<y.lines.length→(M.getD i LD0).vals=(y.lines.getD i LD0).vals):(⟨t,L,a,c,M,b,d⟩:WD).wrl=y.wrl:=by
 have e1:L.map CD.c=y.cells.map CD.c:=list_eq_getD CD0.c (by simpa using hL) fun i hi=>by rw[getD_map,getD_map];exact h1 i (by rw[←hL];simpa using hi)
 have e2:M.map LD.vals=y.lines.map LD.vals:=list_eq_getD LD0.vals (by simpa using hM) fun i hi=>by rw[getD_map,getD_map];exact h2 i (by rw[←hM];simpa using hi)
 simp only[WD.wrl,ht,e1,e2]
end
end Go.Proofs.YtndcjmopebcdgaaGreatDoor
