/- Systems: parts, channels, slots; how they lie in memory; what is right of them. Small functions of the reference: within, SameInts; what is so of a right program. teller: a program that comes in memory of its own. Parts among a law's arguments. The library's Sort at []int over this program: the shelf's contract, laid; and over a row of the call's own. slices.Clone at []api.Chan, []api.Slot, []api.Instr and []int: what comes back lies in memory of its own. code.Puts and code.Gets: the channels that a program names, sorted. -/
import Derived.Test.YtndcjmopebcdgaaGreatDoorEng
import Derived.Test.YtndcjmopebcdgaaGreatDoorIsaB
import Derived.Test.YtndcjmopebcdgaaGreatDoorCellSpec
import Derived.Test.YtndcjmopebcdgaaGreatDoorTys
import Derived.Test.YtndcjmopebcdgaaGreatDoorBase
import Derived.Shelf.Sort.Plain
import Derived.Sort.OwnSortedInts
set_option linter.unusedSimpArgs false
set_option linter.unusedVariables false
namespace Go.Proofs.YtndcjmopebcdgaaGreatDoor
section
open Go.ChangeShapes Go.WideShapes Go.ChangeAt Go.RowKit
set_option maxRecDepth 100000
structure Chn where
 kind:Int
 from_:Int
 to_:Int
def Chn.cells(c:Chn):List Value:=[.int .i64 c.kind,.int .i64 c.from_,.int .i64 c.to_]
theorem Chn.cells_len(c:Chn):c.cells.length=3:=rfl
instance :DecidableEq Chn:=fun x y=>decidable_of_iff (x.kind=y.kind∧x.from_=y.from_∧x.to_=y.to_)
 ⟨fun h=>by cases x;cases y;simp_all,fun h=>by subst h;exact⟨rfl,rfl,rfl⟩⟩
structure Slt where
 part:Int
 ticks:Int
def Slt.cells(c:Slt):List Value:=[.int .i64 c.part,.int .i64 c.ticks]
theorem Slt.cells_len(c:Slt):c.cells.length=2:=rfl
instance :DecidableEq Slt:=fun x y=>decidable_of_iff (x.part=y.part∧x.ticks=y.ticks)
 ⟨fun h=>by cases x;cases y;simp_all,fun h=>by subst h;exact⟨rfl,rfl⟩⟩
instance :DecidableEq Prt:=fun x y=>decidable_of_iff (x.code=y.code∧x.inp=y.inp)
 ⟨fun h=>by cases x;cases y;simp_all,fun h=>by subst h;exact⟨rfl,rfl⟩⟩
structure Sys where
 parts:List Prt
 chans:List Chn
 slots:List Slt
instance :DecidableEq Sys:=fun x y=>decidable_of_iff (x.parts=y.parts∧x.chans=y.chans∧x.slots=y.slots)
 ⟨fun h=>by cases x;cases y;simp_all,fun h=>by subst h;exact⟨rfl,rfl,rfl⟩⟩
def Sys.zero:Sys:=⟨[],[],[]⟩
structure PX where
 ca:Option Addr
 cc:Nat
 ia:Option Addr
 ic:Nat
abbrev PP:=Prt×PX
def encP(q:PP):List Value:=[.slice q.2.ca q.1.code.length q.2.cc,.slice q.2.ia q.1.inp.length q.2.ic]
theorem encP_len(q:PP):(encP q).length=2:=rfl
structure PP.At(q:PP)(w:World):Prop where
 code:Code_ w (.slice q.2.ca q.1.code.length q.2.cc) q.1.code
 inp:Ints w (.slice q.2.ia q.1.inp.length q.2.ic) q.1.inp
def P0:PP:=(⟨[],[]⟩,⟨none,0,none,0⟩)
def I0:Ins:=⟨0,0,0,0⟩
def C0:Chn:=⟨0,0,0⟩
def S0:Slt:=⟨0,0⟩
theorem PP.At.below{q:PP}{w w':World}(h:q.At w)(hb:Below w.heap.size w w'):q.At w':=⟨h.code.below hb,h.inp.below hb⟩
structure SysD where
 parts:List PP
 pa:Option Addr
 pc:Nat
 chans:List Chn
 ha:Option Addr
 hc:Nat
 slots:List Slt
 sa:Option Addr
 sc:Nat
def SysD.sys(x:SysD):Sys:=⟨x.parts.map Prod.fst,x.chans,x.slots⟩
def SysD.val(x:SysD):Value:=.agg #[.slice x.pa x.parts.length x.pc,.slice x.ha x.chans.length x.hc,.slice x.sa x.slots.length x.sc]
def SysD.zero:SysD:=⟨[],none,0,[],none,0,[],none,0⟩
theorem SysD.val_eq(x:SysD):x.val=.agg #[.slice x.pa x.parts.length x.pc,.slice x.ha x.chans.length x.hc,.slice x.sa x.slots.length x.sc]:=rfl
structure SysD.At(x:SysD)(w:World):Prop where
 parts:Flat encP 2 w (.slice x.pa x.parts.length x.pc) x.parts
 each:∀q,q∈x.parts→q.At w
 chans:Flat Chn.cells 3 w (.slice x.ha x.chans.length x.hc) x.chans
 slots:Flat Slt.cells 2 w (.slice x.sa x.slots.length x.sc) x.slots
theorem SysD.At.below{x:SysD}{w w':World}(h:x.At w)(hb:Below w.heap.size w w'):x.At w':=
 ⟨h.parts.below hb,fun q hq=>(h.each q hq).below hb,h.chans.below hb,h.slots.below hb⟩
theorem SysD.zero_at(w:World):SysD.zero.At w:=⟨Flat.nil_,fun _ h=>(by cases h),Flat.nil_,Flat.nil_⟩
section
variable {α:Type} {enc:α→List Value} {size:Nat} {w:World} {A:Option Addr} {n c:Nat} {l:List α}
theorem Flat.len(h:Flat enc size w (.slice A n c) l):n=l.length∧n≤c∧c≤maxLen:=by
 obtain⟨A',c',e,h1,h2,h3⟩:=h
 simp only[Value.slice.injEq] at e
 obtain⟨rfl,rfl,rfl⟩:=e
 exact⟨rfl,h1,h2⟩
theorem Flat.rf(hs:∀a,(enc a).length=size)(d:α)(h:Flat enc size w (.slice A n c) l):RF w A n size (fun k=>enc (l.getD k d)):=by
 obtain⟨A',c',e,h1,h2,h3⟩:=RF.of_flat hs d h
 simp only[Value.slice.injEq] at e
 obtain⟨rfl,rfl,rfl⟩:=e
 exact h3
theorem Ints.rf{xs:List Int}(h:Ints w (.slice A n c) xs):RF w A n 1 (fun k=>[.int .i64 (xs.getD k 0)]):=by
 obtain⟨A',c',e,h1,h2,h3⟩:=RF.of_ints h
 simp only[Value.slice.injEq] at e
 obtain⟨rfl,rfl,rfl⟩:=e
 exact h3
theorem Flat.of_own{T:TypeId}{base n:Nat}{v:Value}(h:w.ownsRow base T size v n (l.flatMap enc))(hn:n=l.length):Flat enc size w v l:=by
 subst hn
 obtain⟨A,c,rfl,hc,hm⟩:=own_slice h
 exact⟨A,c,rfl,hc,hm,RowAt.of_own h⟩
theorem mem_getD{k:Nat}(d:α)(hk:k<l.length):l.getD k d∈l:=by
 rw[List.getD,List.getElem?_eq_getElem hk]
 exact List.getElem_mem hk
theorem getD_map{β:Type}(f:α→β)(k:Nat)(d:α):(l.map f).getD k (f d)=f (l.getD k d):=by
 simp only[List.getD,List.getElem?_map]
 cases l[k]?<;>rfl
end
section
variable {x:SysD} {w:World} {k:Nat}
theorem SysD.At.partsR(h:x.At w):RF w x.pa x.parts.length 2 (fun k=>encP (x.parts.getD k P0)):=h.parts.rf encP_len P0
theorem SysD.At.chansR(h:x.At w):RF w x.ha x.chans.length 3 (fun k=>Chn.cells (x.chans.getD k C0)):=h.chans.rf Chn.cells_len C0
theorem SysD.At.slotsR(h:x.At w):RF w x.sa x.slots.length 2 (fun k=>Slt.cells (x.slots.getD k S0)):=h.slots.rf Slt.cells_len S0
theorem SysD.At.part(h:x.At w)(hk:k<x.parts.length):(x.parts.getD k P0).At w:=h.each _ (mem_getD P0 hk)
theorem SysD.At.codeR(h:x.At w)(hk:k<x.parts.length):RF w (x.parts.getD k P0).2.ca (x.parts.getD k P0).1.code.length 4 (fun i=>Ins.cells ((x.parts.getD k P0).1.code.getD i I0)):=(h.part hk).code.rf Ins.cells_len I0
theorem SysD.At.inpR(h:x.At w)(hk:k<x.parts.length):RF w (x.parts.getD k P0).2.ia (x.parts.getD k P0).1.inp.length 1 (fun i=>[.int .i64 ((x.parts.getD k P0).1.inp.getD i 0)]):=(h.part hk).inp.rf
end
def kindOk(k:Int):Bool:=k==1||k==2
def partOk(n:Nat)(p:Int):Bool:=decide (0≤p∧p<n)
def chnOk(n:Nat)(c:Chn):Bool:=partOk n c.from_&&(partOk n c.to_&&c.from_ != c.to_)
def sltOk(n:Nat)(s:Slt):Bool:=partOk n s.part&&decide (1≤s.ticks∧s.ticks≤8)
def insOk(cs:List Chn)(p:Nat)(i:Ins):Bool:=
 (i.op != 12||(decide (i.n<cs.length)&&(cs.getD i.n.toNat C0).from_==p))&&(i.op != 13||(decide (i.n<cs.length)&&(cs.getD i.n.toNat C0).to_==p))
def sizesOk(s:Sys):Bool:=decide (1≤s.parts.length∧s.parts.length≤4∧s.chans.length≤6∧1≤s.slots.length∧s.slots.length≤6)&&s.parts.all fun p=>decide (p.inp.length≤12)
def firstCode:List Prt→Int
 |[]=>0
 |p::r=>if chkCode p.code=0 then firstCode r else chkCode p.code
def namesFrom(cs:List Chn):Nat→List Prt→Bool
 |_,[]=>true
 |k,p::r=>p.code.all (insOk cs k)&&namesFrom cs (k+1) r
def chkSys(s:Sys):Int:=
 if sizesOk s=false then 2
 else if firstCode s.parts≠0 then firstCode s.parts
 else if(s.chans.all fun c=>kindOk c.kind)=false then 4
 else if s.chans.all (chnOk s.parts.length)=false then 3
 else if s.slots.all (sltOk s.parts.length)=false then 3
 else if namesFrom s.chans 0 s.parts=false then 1 else 0
theorem all_getD{α:Type}{l:List α}{f:α→Bool}(d:α):l.all f=true↔∀k,k<l.length→f (l.getD k d)=true:=by
 constructor
 ·intro h k hk
  exact List.all_eq_true.1 h _ (mem_getD d hk)
 ·intro h
  refine List.all_eq_true.2 fun y hy=>?_
  obtain⟨k,hk,rfl⟩:=List.mem_iff_getElem.1 hy
  have:=h k hk
  rwa [List.getD,List.getElem?_eq_getElem hk] at this
theorem all_false{α:Type}{l:List α}{f:α→Bool}(d:α){k:Nat}(hk:k<l.length)(h:f (l.getD k d)=false):l.all f=false:=by
 cases ha:l.all f
 ·rfl
 ·rw[(all_getD d).1 ha k hk] at h;cases h
theorem firstCode_drop{l:List Prt}{k:Nat}(hk:k<l.length):firstCode (l.drop k)=if chkCode l[k].code=0 then firstCode (l.drop (k+1)) else chkCode l[k].code:=by
 rw[List.drop_eq_getElem_cons hk];rfl
theorem namesFrom_iff(cs:List Chn):∀(l:List Prt) (b:Nat),namesFrom cs b l=true↔∀k,k<l.length→(l.getD k ⟨[],[]⟩).code.all (insOk cs (b+k))=true
 |[],b=>by simp[namesFrom]
 |p::r,b=>by
  simp only[namesFrom,Bool.and_eq_true,namesFrom_iff cs r (b+1)]
  constructor
  ·rintro⟨h1,h2⟩ k hk
   cases k with
   |zero=>simpa using h1
   |succ k=>
    have:=h2 k (by simpa using hk)
    rw[show b+(k+1)=b+1+k by omega]
    simpa using this
  ·intro h
   refine⟨by simpa using h 0 Si,fun k hk=>?_⟩
   have:=h (k+1) (by simpa using hk)
   rw[show b+(k+1)=b+1+k by omega] at this
   simpa using this
end
section
open Go.RowKit
set_option maxRecDepth 100000
theorem withinD_any(n lo hi:Int)(w:World):Calls Tryz.prog 23 #[.int .i64 n,.int .i64 lo,.int .i64 hi] w fun e w'=>e=.returned (.bool (decide (lo≤n∧n≤hi)))∧Below w.heap.size w w':=by
 refine enter Tryz.func23 rfl Tryz.ntmps23 rfl fun a hF=>?_
 have hW:=Wd.start w NoB
 refine c_sr<|pq 1 hF rfl fun a hF=>lts<|pq 3 hF rfl fun a hF=>?_;refine Fr.splitD hF (fun h1 hF=>?_) (fun h1 hF=>?_);refine pq 4 hF rfl fun a hF=>?_;refine Fr.splitD hF (fun h2 hF=>?_) (fun h2 hF=>?_);refine pq 2 hF rfl fun a hF=>l_nil<|t_n<|wp_ret<|ret1 Tryz.results23 hF (rv_t hF rfl) ?_
 exact⟨by simp[*],hW.below⟩
 refine pq 2 hF rfl fun a hF=>l_nil<|t_n<|wp_ret<|ret1 Tryz.results23 hF (rv_t hF rfl) ?_
 exact⟨by simp[*],hW.below⟩
 refine pq 6 hF rfl fun a hF=>l_nil<|t_n<|wp_ret<|ret1 Tryz.results23 hF (rv_t hF rfl) ?_
 exact⟨by simp[*],hW.below⟩
theorem firstErr_all:∀(l:List Ins),firstErr l=0→∀i∈l,chkIns i=0
 |[],_,_,h=>by cases h
 |x::r,h0,i,h=>by
  unfold firstErr at h0
  by_cases hx:chkIns x=0
  ·rw[if_pos hx] at h0
   rcases List.mem_cons.1 h with rfl|h
   ·exact hx
   ·exact firstErr_all r h0 i h
  ·rw[if_neg hx] at h0
   exact absurd h0 hx
theorem chkCode_all{l:List Ins}(h:chkCode l=0):(1≤l.length∧l.length≤20)∧∀i∈l,chkIns i=0:=by
 unfold chkCode at h
 split at h
 ·cases h
 ·exact⟨by omega,firstErr_all l h⟩
end
section
open Go.RowKit
theorem bs_Teller_40_5_0_1_2_3_4(x0:Int)(x1:Int)(x2:Int)(x3:Int)(x4:Int)(x5:Int)(x6:Int)(x7:Int)(x8:Int)(x9:Int)(x10:Int)(x11:Int)(x12:Int)(x13:Int)(x14:Int)(x15:Int)(x16:Int)(x17:Int)(x18:Int)(x19:Int)(w:World):(Instr.buildSlice 40 5 #[(0,(.agg #[(.int .i64 x0),(.int .i64 x1),(.int .i64 x2),(.int .i64 x3)])),(1,(.agg #[(.int .i64 x4),(.int .i64 x5),(.int .i64 x6),(.int .i64 x7)])),(2,(.agg #[(.int .i64 x8),(.int .i64 x9),(.int .i64 x10),(.int .i64 x11)])),(3,(.agg #[(.int .i64 x12),(.int .i64 x13),(.int .i64 x14),(.int .i64 x15)])),(4,(.agg #[(.int .i64 x16),(.int .i64 x17),(.int .i64 x18),(.int .i64 x19)]))]).run Tryz.prog w=.ok (.slice (some ⟨w.heap.size,0,none⟩) 5 5) (w.alloc (.cells #[(.int .i64 x0),(.int .i64 x1),(.int .i64 x2),(.int .i64 x3),(.int .i64 x4),(.int .i64 x5),(.int .i64 x6),(.int .i64 x7),(.int .i64 x8),(.int .i64 x9),(.int .i64 x10),(.int .i64 x11),(.int .i64 x12),(.int .i64 x13),(.int .i64 x14),(.int .i64 x15),(.int .i64 x16),(.int .i64 x17),(.int .i64 x18),(.int .i64 x19)] 118)):=by kernel_rfl
theorem bu_Teller_118_0(x0:Int)(w:World):(Instr.build 118 #[(0,(.int .i64 x0))]).run Tryz.prog w=.ok (.agg #[(.int .i64 x0),(.int .i64 0),(.int .i64 0),(.int .i64 0)]) w:=by kernel_rfl
theorem bu_Teller_118_0_1_2(x0:Int)(x1:Int)(x2:Int)(w:World):(Instr.build 118 #[(0,(.int .i64 x0)),(1,(.int .i64 x1)),(2,(.int .i64 x2))]).run Tryz.prog w=.ok (.agg #[(.int .i64 x0),(.int .i64 x1),(.int .i64 x2),(.int .i64 0)]) w:=by kernel_rfl
theorem bu_Teller_118_0_1_3(x0:Int)(x1:Int)(x2:Int)(w:World):(Instr.build 118 #[(0,(.int .i64 x0)),(1,(.int .i64 x1)),(3,(.int .i64 x2))]).run Tryz.prog w=.ok (.agg #[(.int .i64 x0),(.int .i64 x1),(.int .i64 0),(.int .i64 x2)]) w:=by kernel_rfl
theorem bu_Teller_118_0_3(x0:Int)(x1:Int)(w:World):(Instr.build 118 #[(0,(.int .i64 x0)),(3,(.int .i64 x1))]).run Tryz.prog w=.ok (.agg #[(.int .i64 x0),(.int .i64 0),(.int .i64 0),(.int .i64 x1)]) w:=by kernel_rfl
set_option maxRecDepth 100000
def tellerL:List Ins:=[⟨13,0,1,0⟩,⟨9,1,0,0⟩,⟨11,0,0,0⟩,⟨12,0,0,1⟩,⟨8,0,0,0⟩]
theorem teller_any(w:World):Calls Tryz.prog 81 #[] w fun e w'=>∃A,e=.returned (.slice A 5 5)∧OwnRes w w' (fun u=>Code_ u (.slice A 5 5) tellerL)∧Below w.heap.size w w':=by
 refine enter Tryz.func81 rfl Tryz.ntmps81 rfl fun a hF=>?_
 have hW:=Wd.start w NoB
 refine c_sr<|pq 1 hF rfl fun a hF=>lts<|pv hF hW (y_build hF rfl (fun w=>bu_Teller_118_0_1_2 _ _ _ w)) fun a hF=>pv hF hW (y_build hF rfl (fun w=>bu_Teller_118_0_1_3 _ _ _ w)) fun a hF=>pv hF hW (y_build hF rfl (fun w=>bu_Teller_118_0 _ w)) fun a hF=>pv hF hW (y_build hF rfl (fun w=>bu_Teller_118_0_3 _ _ w)) fun a hF=>pv hF hW (y_build hF rfl (fun w=>bu_Teller_118_0 _ w)) fun a hF=>pe<|e_buildSlice hF hW rfl (fun w=>bs_Teller_40_5_0_1_2_3_4 _ _ _ _ _ _ _ _ _ _ _ _ _ _ _ _ _ _ _ _ w) rfl rfl rfl fun b1 a wc hF hW=>pq 1 hF rfl fun a hF=>l_nil<|t_n<|wp_ret<|ret1 Tryz.results81 hF (rv_t hF rfl) ?_
 exact⟨_,rfl,(hW.res_blk 0 rfl).mono fun u h=>flat_blk h rfl rfl rfl (by unfold maxLen;omega),hW.below⟩
end
section
open Go.ChangeShapes Go.WideShapes Go.ChangeAt Go.RowKit
set_option maxRecDepth 100000
section
variable {H:Type} {enc:TypeId×Value→H} {w:World} {base base':Nat} {r:Reach} {spare:Nat→Bool} {held:Bool} {v:Value} {d:DataW H} {p:List MemPlace}
end
end
section
open Go.ChangeShapes Go.WideShapes Go.ChangeAt Go.RowKit Go.Sort
theorem ck_3_187(n:Int)(h:0≤n∧n≤18446744073709551615)(w:World):(convert 3 187 (.int .i64 n)).run Tryz.prog w=.ok (.int .u64 n) w:=by
 have:=IntWalk.u64_in n h
 simp[convert,run_underlying Tryz.underlying3,run_underlying Tryz.underlying187,Conv.intToInt,this]
set_option maxRecDepth 100000
def lays189_ren:Go.Shelf.Ren:=⟨fun|125=>163|128=>196|129=>197|189=>128|215=>80|216=>193|257=>162|294=>187|295=>188|296=>189|297=>190|298=>191|299=>192|300=>194|301=>195|328=>207|329=>208|330=>209|331=>210|332=>211|343=>214|n=>n,fun|0=>0|3=>3|4=>4|5=>5|9=>9|28=>41|46=>187|51=>271|53=>264|131=>90|182=>281|183=>282|218=>302|222=>132|228=>307|229=>308|n=>n,fun n=>n⟩
theorem lays189:Go.Proofs.Lays.n189 Tryz.prog lays189_ren:={
 mixed:=by kernel_rfl,
 f125:=Tryz.func163.trans (congrArg some Kr),
 f128:=Tryz.func196.trans (congrArg some Kr),
 f129:=Tryz.func197.trans (congrArg some Kr),
 f189:=Tryz.func128.trans (congrArg some Kr),
 f215:=Tryz.func80.trans (congrArg some Kr),
 f216:=Tryz.func193.trans (congrArg some Kr),
 f257:=Tryz.func162.trans (congrArg some Kr),
 f294:=Tryz.func187.trans (congrArg some Kr),
 f295:=Tryz.func188.trans (congrArg some Kr),
 f296:=Tryz.func189.trans (congrArg some Kr),
 f297:=Tryz.func190.trans (congrArg some Kr),
 f298:=Tryz.func191.trans (congrArg some Kr),
 f299:=Tryz.func192.trans (congrArg some Kr),
 f300:=Tryz.func194.trans (congrArg some Kr),
 f301:=Tryz.func195.trans (congrArg some Kr),
 f328:=Tryz.func207.trans (congrArg some Kr),
 f329:=Tryz.func208.trans (congrArg some Kr),
 f330:=Tryz.func209.trans (congrArg some Kr),
 f331:=Tryz.func210.trans (congrArg some Kr),
 f332:=Tryz.func211.trans (congrArg some Kr),
 f343:=Tryz.func214.trans (congrArg some Kr),
 t0:=Tryz.underlying0,
 a0:=Tryz.isAgg0,
 z0:=Tryz.sizeOf0,
 v0:=Tryz.zeroValue0,
 t3:=Tryz.underlying3,
 a3:=Tryz.isAgg3,
 z3:=Tryz.sizeOf3,
 v3:=Tryz.zeroValue3,
 t4:=Tryz.underlying4,
 a4:=Tryz.isAgg4,
 z4:=Tryz.sizeOf4,
 v4:=Tryz.zeroValue4,
 t5:=Tryz.underlying5,
 a5:=Tryz.isAgg5,
 z5:=Tryz.sizeOf5,
 v5:=Tryz.zeroValue5,
 t9:=Tryz.underlying9,
 a9:=Tryz.isAgg9,
 z9:=Tryz.sizeOf9,
 v9:=Tryz.zeroValue9,
 t28:=Tryz.underlying41,
 a28:=Tryz.isAgg41,
 z28:=Tryz.sizeOf41,
 v28:=Tryz.zeroValue41,
 t46:=Tryz.underlying187,
 a46:=Tryz.isAgg187,
 z46:=Tryz.sizeOf187,
 v46:=Tryz.zeroValue187,
 t51:=Tryz.underlying271,
 a51:=Tryz.isAgg271,
 z51:=Tryz.sizeOf271,
 v51:=Tryz.zeroValue271,
 t53:=Tryz.underlying264,
 a53:=Tryz.isAgg264,
 z53:=Tryz.sizeOf264,
 v53:=Tryz.zeroValue264,
 t131:=Tryz.underlying90,
 a131:=Tryz.isAgg90,
 z131:=Tryz.sizeOf90,
 v131:=Tryz.zeroValue90,
 t182:=Tryz.underlying281,
 a182:=Tryz.isAgg281,
 z182:=Tryz.sizeOf281,
 v182:=Tryz.zeroValue281,
 t183:=Tryz.underlying282,
 a183:=Tryz.isAgg282,
 z183:=Tryz.sizeOf282,
 v183:=Tryz.zeroValue282,
 t218:=Tryz.underlying302,
 a218:=Tryz.isAgg302,
 z218:=Tryz.sizeOf302,
 v218:=Tryz.zeroValue302,
 t222:=Tryz.underlying132,
 a222:=Tryz.isAgg132,
 z222:=Tryz.sizeOf132,
 v222:=Tryz.zeroValue132,
 t228:=Tryz.underlying307,
 a228:=Tryz.isAgg307,
 z228:=Tryz.sizeOf307,
 v228:=Tryz.zeroValue307,
 t229:=Tryz.underlying308,
 a229:=Tryz.isAgg308,
 z229:=Tryz.sizeOf308,
 v229:=Tryz.zeroValue308}
theorem bitsLen_any(x:Int)(w:World)(h0:0≤x)(h1:x≤18446744073709551615):Calls Tryz.prog 163 #[.int .u64 x] w fun e w'=>(∃m:Nat,e=.returned (.int .i64 (m:Int)))∧Below w.heap.size w w':=
 (calls_of_every_depth fun D=>AnyS.bits_LenIn {lays189 with} D x w h0 h1).mono fun e w' ⟨h,hw⟩=>⟨⟨_,h⟩,hw▸Below.refl _ _⟩
theorem insort_nil{A:Option Addr}{n c:Nat}{w:World}:
  Calls Tryz.prog 187 #[.slice A n c,.int .i64 0,.int .i64 0] w fun e w'=>e=.returned (.tuple #[])∧Below w.heap.size w w':=by
 refine enter Tryz.func187 rfl Tryz.ntmps187 rfl fun a hF=>?_
 have hW:=Wd.start w NoB
 refine c_sr<|pq 1 hF rfl fun a hF=>pv hF hW (y_add hF rfl rfl (IntWalk.i64_in _ Om)) fun a hF=>pq 1 hF rfl fun a hF=>l_nil<|t_n<|wp_block ?_;refine c_loop (G:=Nat) (fun k:Nat=>[(6,.int .i64 1)]) (fun k:Nat=>[]) (fun k:Nat=>True) (fun k:Nat=>0) 0 (hF.ks [0,1,2] rfl) (Fr.cons hF (t:=6) rfl Rg (Fr.nil hF)) (hW) ?_ ?_
 simp
 clear hF hW
 try clear a
 intro k a wc hC hF hW;refine c_s<|c_sr<|pq 3 hF rfl fun a hF=>?_;replace hF:=hF.ff;refine l_nil<|t_n<|c_f hF rfl<|wp_exit<|t_x<|t_x<|b_h<|end0 Tryz.results187 hF ?_
 exact⟨rfl,hW.below⟩
theorem pdq_nil{A:Option Addr}{n c:Nat}{m:Int}{w:World}:
  Calls Tryz.prog 162 #[.slice A n c,.int .i64 0,.int .i64 0,.int .i64 m] w fun e w'=>e=.returned (.tuple #[])∧Below w.heap.size w w':=by
 refine enter Tryz.func162 rfl Tryz.ntmps162 rfl fun a hF=>?_
 have hW:=Wd.start w NoB
 refine c_sr<|pq 1 hF rfl fun a hF=>lts<|pq 1 hF rfl fun a hF=>l_nil<|t_n<|wp_block ?_;refine c_loop (G:=Nat) (fun k:Nat=>[(1,.int .i64 0),(2,.int .i64 0),(3,.int .i64 m)]) (fun k:Nat=>[]) (fun k:Nat=>True) (fun k:Nat=>0) 0 (hF.ks [0] rfl) (Fr.cons hF (t:=1) rfl Rg (Fr.cons hF (t:=2) rfl Rg (Fr.cons hF (t:=3) rfl Rg (Fr.nil hF)))) (hW) ?_ ?_
 simp
 clear hF hW
 try clear a
 intro k a wc hC hF hW;refine wp_block<|c_sr<|pq 2 hF rfl fun a hF=>pv hF hW (y_sub hF rfl rfl (IntWalk.i64_in _ Om)) fun a hF=>pq 1 hF rfl fun a hF=>l_nil<|t_n<|c_s<|c_sr<|pq 2 hF rfl fun a hF=>?_;refine Fr.splitD hF (fun h1 hF=>?_) (fun h1 hF=>?_);refine l_nil<|t_n<|c_t hF rfl<|c_sr<|pq 3 hF rfl fun a hF=>pe<|e_callK hF hW rfl rfl en_187 Rl (insort_nil) fun a w1 hW hF=>l_nil<|t_n<|wp_ret<|t_r<|b_r<|t_r<|b_r<|ret0 Tryz.results162 hF ?_
 exact⟨rfl,hW.below⟩
 exfalso
 exact absurd (by decide:(0:Int) - 0≤12) h1
theorem sort_nil{A:Option Addr}{c:Nat}{w:World}:
  Calls Tryz.prog 128 #[.slice A 0 c] w fun e w'=>e=.returned (.tuple #[])∧Below w.heap.size w w':=by
 refine enter Tryz.func128 rfl Tryz.ntmps128 rfl fun a hF=>?_
 have hW:=Wd.start w NoB
 refine c_sr<|pq 3 hF rfl fun a hF=>ltr<|pq 3 hF rfl fun a hF=>pv hF hW (y_convert hF rfl (ck_3_187 _ Om)) fun a hF=>?_;refine pe (e_callA hF rfl rfl en_163 Rl (bitsLen_any _ _ Om Om) ?_);rintro e w1 ⟨⟨m,rfl⟩,hb⟩;replace hW:=hW.kept hb;clear hb;refine⟨_,rfl,fun a hF=>?_⟩;refine pe<|e_callK hF hW rfl rfl en_162 Rl (pdq_nil) fun a w1 hW hF=>l_nil<|end0 Tryz.results128 hF ?_
 exact⟨rfl,hW.below⟩
def sorted(xs:List Int):List Int:=xs.mergeSort fun x y=>decide (x≤y)
theorem sorted_len(xs:List Int):(sorted xs).length=xs.length:=List.length_mergeSort xs
theorem mem_sorted{xs:List Int}{m:Int}:m∈sorted xs↔m∈xs:=(List.mergeSort_perm xs _).mem_iff
theorem sort_own{w0 w:World}{X:Nat→Prop}{es:List Asn}(hW:Wd w0 X es w)(i:Nat){T:TypeId}{n:Nat}{v:Value}{xs:List Int}(hn:n<4611686018427387904)(hi:es[i]?=some (.row T 1 v n (xs.map (.int .i64)))):
  Calls Tryz.prog 128 #[v] w fun e w'=>e=.returned (.tuple #[])∧Wd w0 X (es.set i (.row T 1 v n ((sorted xs).map (.int .i64)))) w':=by
 have hrow:=hW.row i hi
 have hl:n=xs.length:=by simpa using hrow.1.symm
 rcases hrow.2 with⟨rfl,h0⟩|⟨g,cap,cur,rfl,_,hg,h1,h2,h3,h4⟩
 ·refine sort_nil.mono fun e w' ⟨he,hb⟩=>⟨he,?_⟩
  have hx:xs=[]:=List.eq_nil_of_length_eq_zero Om
  subst hx
  have hself:es.set i (.row T 1 (.slice none 0 0) n (([]:List Int).map (.int .i64)))=es:=by
   apply List.ext_getElem?
   intro j
   rw[List.getElem?_set]
   split
   ·rename_i h
    subst h
    rw[if_pos (List.getElem?_eq_some_iff.1 hi).1,hi]
   ·rfl
  rw[show sorted []=[] by simp[sorted],hself]
  exact hW.kept hb
 ·subst hl
  have hlt:=(Array.getElem?_eq_some_iff.1 hg).1
  have ht:cur.toList.take xs.length=xs.map (Value.int .i64):=by rw[←h4,Nat.mul_one]
  refine(Any.slices_Sort_int lays189 g 0 cap xs w (holds_of_blockI hg ht) hlt hn).mono fun e w' ⟨he,m,os,hw'⟩=>⟨he,?_⟩
  subst hw'
  refine hW.grown i hi (ownsRow_sortedI (sorted_len xs) (Nat.zero_le _) hg h1 h2 h3) (grownBy_sortedI _) (.inl rfl)
end
section
open Go.ChangeShapes Go.WideShapes Go.ChangeAt Go.RowKit
set_option maxRecDepth 100000
theorem Ints.nil_of{w:World}{A:Option Addr}{n c:Nat}{l:List Int}(h:Ints w (.slice A n c) l)(hA:A.isNone=true):l=[]:=by
 obtain rfl:n=l.length:=h.len.1
 have hr:=h.rowAt
 rcases Nat.eq_zero_or_pos l.length with h0|h0
 ·exact List.eq_nil_of_length_eq_zero h0
 ·obtain⟨ad,e,_⟩:=hr.2 h0
  subst e;cases hA
end
section
open Go.ChangeShapes Go.WideShapes Go.ChangeAt Go.RowKit
theorem bs_CodeNm_41_1_0(x0:Int)(w:World):(Instr.buildSlice 41 1 #[(0,(.int .i64 x0))]).run Tryz.prog w=.ok (.slice (some ⟨w.heap.size,0,none⟩) 1 1) (w.alloc (.cells #[(.int .i64 x0)] 3)):=by kernel_rfl
set_option maxRecDepth 100000
theorem index_any{A:Option Addr}{n c:Nat}{l:List Int}{w:World}(h:Ints w (.slice A n c) l)(x:Int):
  Calls Tryz.prog 161 #[.slice A n c,.int .i64 x] w fun e w'=>(∃r:Int,e=.returned (.int .i64 r)∧decide (0≤r)=decide (x∈l))∧Below w.heap.size w w':=by
 have hl:=h.len
 unfold maxLen at hl
 have hR:=h.rf
 refine enter Tryz.func161 rfl Tryz.ntmps161 rfl fun a hF=>?_
 have hW:=Wd.start w NoB
 refine c_sr<|pq 1 hF rfl fun a hF=>l_nil<|t_n<|c_s<|c_sr<|pq 3 hF rfl fun a hF=>l_nil<|t_n<|wp_block ?_;refine c_loop (G:=Nat) (fun k:Nat=>[(8,.int .i64 (k:Int))]) (fun k:Nat=>[]) (fun k:Nat=>k≤n∧∀i,i<k→l.getD i 0≠x) (fun k:Nat=>n - k) 0 (hF.ks [0,1,7] rfl) (Fr.cons hF (t:=8) rfl Rg (Fr.nil hF)) (hW) ?_ ?_
 exact⟨by omega,fun i hi=>by omega⟩
 clear hF hW
 try clear a
 intro k a wc hC hF hW
 obtain⟨hk,hno⟩:=hC
 refine c_sr<|pq 1 hF rfl fun a hF=>?_;refine Fr.splitD hF (fun h1 hF=>?_) (fun h1 hF=>?_);refine l_nil<|t_n<|c_s<|c_t hF rfl<|wp_skip<|t_n<|c_s<|wp_block<|c_sr<|pq 2 hF rfl fun a hF=>lts<|pq 3 hF rfl fun a hF=>pv hF hW (y_indexS hF rfl rfl Od Tryz.underlying41 sz_3 (fun w h=>(hR).wd h)) fun a hF=>pv hF hW (y_loadRow hF rfl (fun w h=>(hR).wd h) Od rfl Tryz.underlying3 rfl) fun a hF=>pq 1 hF rfl fun a hF=>?_;refine Fr.splitD hF (fun h2 hF=>?_) (fun h2 hF=>?_);refine l_nil<|t_n<|c_t hF rfl<|c_sr<|pq 2 hF rfl fun a hF=>l_nil<|t_n<|wp_ret<|b_r<|t_r<|t_r<|b_r<|t_r<|ret1 Tryz.results161 hF (rv_t hF rfl) ?_
 exact⟨⟨_,rfl,by rw[decide_eq_true (show(0:Int)≤(k:Int) by omega),decide_eq_true];have hm:=mem_getD (l:=l) (k:=k) 0 Om;rwa [show l.getD k 0=x by omega] at hm⟩,hW.below⟩
 refine l_nil<|t_n<|c_f hF rfl<|wp_skip<|b_n<|t_n<|c_r<|pv hF hW (y_add hF rfl rfl (IntWalk.i64_in _ Om)) fun a hF=>pq 1 hF rfl fun a hF=>l_nil<|t_n ?_;refine⟨(k+1),?_,?_,?_,?_⟩
 exact⟨by omega,fun i hi=>by rcases Nat.lt_or_ge i k with h|h;exact hno i h;(have hik:i=k:=by omega);rw[hik];omega⟩
 first|omega|(dsimp only;omega)
 exact hF.a1 rfl rfl
 exact hW
 refine l_nil<|t_n<|c_s<|c_f hF rfl<|wp_exit<|t_x<|t_x<|b_h<|t_n<|c_sr<|pq 1 hF rfl fun a hF=>l_nil<|t_n<|wp_ret<|ret1 Tryz.results161 hF (rv_t hF rfl) ?_
 exact⟨⟨_,rfl,by rw[decide_eq_false (show¬(0:Int)≤ -1 by omega),decide_eq_false];intro hm;obtain⟨i,hi,he⟩:=List.mem_iff_getElem.1 hm;exact hno i Om (by rw[List.getD,List.getElem?_eq_getElem hi];exact he)⟩,hW.below⟩
theorem contains_any{A:Option Addr}{n c:Nat}{l:List Int}{w:World}(h:Ints w (.slice A n c) l)(x:Int):
  Calls Tryz.prog 127 #[.slice A n c,.int .i64 x] w fun e w'=>e=.returned (.bool (decide (x∈l)))∧Below w.heap.size w w':=by
 refine enter Tryz.func127 rfl Tryz.ntmps127 rfl fun a hF=>?_
 have hW:=Wd.start w NoB
 refine c_sr<|pq 1 hF rfl fun a hF=>lts<|pq 2 hF rfl fun a hF=>?_;refine pe (e_callA hF rfl rfl en_161 Rl (index_any (h.below hW.below) x) ?_);rintro e w1 ⟨⟨r,rfl,hr⟩,hb⟩;replace hW:=hW.kept hb;clear hb;refine⟨_,rfl,fun a hF=>?_⟩;refine pq 2 hF rfl fun a hF=>l_nil<|t_n<|wp_ret<|ret1 Tryz.results127 hF (rv_t hF rfl) ?_
 exact⟨by rw[←hr],hW.below⟩
def pickOp(op:Int)(out:List Int)(i:Ins):List Int:=if i.op=op∧i.n∉out then out++[i.n] else out
def namedOf(op:Int)(l:List Ins):List Int:=sorted (l.foldl (pickOp op) [])
theorem foldl_take{α β:Type}(f:β→α→β)(b:β)(d:α){l:List α}{k:Nat}(hk:k<l.length):(l.take (k+1)).foldl f b=f ((l.take k).foldl f b) (l.getD k d):=by
 rw[List.take_add_one,List.foldl_append,List.getD,List.getElem?_eq_getElem hk]
 rfl
theorem pick_yes{op:Int}{out:List Int}{i:Ins}(h1:i.op=op)(h2:i.n∉out):pickOp op out i=out++[i.n]:=if_pos ⟨h1,h2⟩
theorem pick_no{op:Int}{out:List Int}{i:Ins}(h:i.op=op→i.n∈out):pickOp op out i=out:=if_neg fun h2=>h2.2 (h h2.1)
theorem mem_picks{op m:Int}:∀(l:List Ins) (acc:List Int),m∈l.foldl (pickOp op) acc↔m∈acc∨∃i,i∈l∧i.op=op∧i.n=m
 |[],acc=>by simp
 |i::r,acc=>by
  rw[List.foldl_cons,mem_picks r]
  have key:m∈pickOp op acc i↔m∈acc∨(i.op=op∧i.n=m):=by
   unfold pickOp
   split
   ·rename_i h
    rw[List.mem_append,List.mem_singleton]
    exact⟨fun h2=>h2.elim .inl fun e=>.inr ⟨h.1,e.symm⟩,fun h2=>h2.elim .inl fun e=>.inr e.2.symm⟩
   ·rename_i h
    refine⟨.inl,fun h2=>h2.elim id fun e=>?_⟩
    by_cases hm:i.n∈acc
    ·rw[e.2] at hm;exact hm
    ·exact absurd ⟨e.1,hm⟩ h
  rw[key]
  constructor
  ·rintro((h|h)|⟨j,hj,h⟩)
   ·exact .inl h
   ·exact .inr ⟨i,List.mem_cons_self,h⟩
   ·exact .inr ⟨j,List.mem_cons_of_mem _ hj,h⟩
  ·rintro(h|⟨j,hj,h⟩)
   ·exact .inl (.inl h)
   ·rcases List.mem_cons.1 hj with rfl|hj
    ·exact .inl (.inr h)
    ·exact .inr ⟨j,hj,h⟩
theorem mem_namedOf{op m:Int}{l:List Ins}:m∈namedOf op l↔∃i,i∈l∧i.op=op∧i.n=m:=by
 unfold namedOf
 rw[mem_sorted,mem_picks]
 simp
def namesOr(op:Int)(l:List Ins):List Int:=if chkCode l=0 then namedOf op l else []
theorem namesOr_ok{op:Int}{l:List Ins}(h:chkCode l=0):namesOr op l=namedOf op l:=if_pos h
theorem namesOr_no{op:Int}{l:List Ins}(h:chkCode l≠0):namesOr op l=[]:=if_neg h
def IntsErr(w:World)(r:List Int)(x:Int)(e:Ending)(w':World):Prop:=
 ∃A c,e=.returned (.tuple #[.slice A r.length c,.int .i64 x])∧Below w.heap.size w w'∧OwnRes w w' (fun u=>Ints u (.slice A r.length c) r)
theorem ints_row{w:World}{base:Nat}{T:TypeId}{v:Value}{m:Nat}{l:List Int}(h:w.ownsRow base T 1 v m (l.map (.int .i64)))(hm:l.length=m):Ints w v l:=by
 subst hm
 exact Ints.of_own h
theorem named_any{A:Option Addr}{n c:Nat}{l:List Ins}{w:World}(h:Code_ w (.slice A n c) l)(op:Int):
  Calls Tryz.prog 133 #[.slice A n c,.int .i64 op] w (IntsErr w (namesOr op l) (chkCode l)):=by
 have hl:=h.len
 unfold maxLen at hl
 have hR:=h.rf Ins.cells_len I0
 refine enter Tryz.func133 rfl Tryz.ntmps133 rfl fun a hF=>?_
 have hW:=Wd.start w NoB
 refine c_sr<|pq 2 hF rfl fun a hF=>l_nil<|t_n<|c_s<|c_sr<|pq 1 hF rfl fun a hF=>pe<|e_callK hF hW rfl rfl en_90 Rl (codeCheck_any _ _ _ (h.below hW.below)) fun a w1 hW hF=>pq 1 hF rfl fun a hF=>lts<|pq 2 hF rfl fun a hF=>?_;refine Fr.splitD hF (fun h1 hF=>?_) (fun h1 hF=>?_);refine l_nil<|t_n<|c_t hF rfl<|c_sr<|pq 3 hF rfl fun a hF=>l_nil<|t_n<|wp_ret<|t_r<|ret2 Tryz.results133 hF (rv_t hF rfl) (rv_t hF rfl) ?_
 exact⟨none,0,by rw[namesOr_no Am];rfl,hW.below,fun _ _=>by rw[namesOr_no Am];exact Ints.nil_⟩
 refine l_nil<|t_n<|c_f hF rfl<|wp_skip<|t_n ?_
 have h20:=(chkCode_all (show chkCode l=0 by omega)).1.2
 refine c_sr<|pq 1 hF rfl fun a hF=>l_nil<|t_n<|c_s<|c_sr<|pq 3 hF rfl fun a hF=>l_nil<|t_n<|wp_block ?_;replace hW:=hW.nil_row 3 1;refine c_loop (G:=Nat×Nat×List Int×Option Addr×Nat) (fun⟨k,m,out,A',c'⟩=>[(17,.int .i64 (k:Int)),(7,.slice A' m c')]) (fun⟨k,m,out,A',c'⟩=>[.row 3 1 (.slice A' m c') m (out.map (.int .i64))]) (fun⟨k,m,out,A',c'⟩=>k≤n∧out=(l.take k).foldl (pickOp op) []∧out.length=m∧m≤k) (fun⟨k,m,out,A',c'⟩=>n - k) (0,0,[],none,0) (hF.ks [0,1,4,5,6,13,15,16] rfl) (Fr.cons hF (t:=17) rfl Rg (Fr.cons hF (t:=7) rfl Rg (Fr.nil hF))) (hW) ?_ ?_
 exact⟨by omega,by simp,by simp,by omega⟩
 clear hF hW
 try clear a
 intro gq a wc hC hF hW
 obtain⟨k,m,out,A',c'⟩:=gq
 dsimp only at hC
 obtain⟨hk,hout,hm,hol⟩:=hC
 refine c_sr<|pq 1 hF rfl fun a hF=>?_;refine Fr.splitD hF (fun h2 hF=>?_) (fun h2 hF=>?_);refine l_nil<|t_n<|c_s<|c_t hF rfl<|wp_skip<|t_n<|c_s<|wp_block<|c_sr<|pv hF hW (y_indexS hF rfl rfl Od Tryz.underlying40 sz_118 (fun w h=>(hR).wd h)) fun a hF=>pv hF hW (y_loadRowW hF rfl (fun w h=>(hR).wd h) Od Tryz.underlying118 rfl sz_118) fun a hF=>pe<|e_alloc hF hW ze_118 rfl rfl rfl fun b3 a wc hF hW=>pe<|e_storeAll rfl hF hW rfl rfl 0 rfl rfl rfl Kr sz_118 fun wc hW=>lts<|pq 1 hF rfl fun a hF=>pv hF hW (y_loadOwn hF rfl 0 rfl rfl Tryz.underlying3 rfl) fun a hF=>pq 2 hF rfl fun a hF=>?_;refine Fr.splitD hF (fun h4 hF=>?_) (fun h4 hF=>?_);refine pq 3 hF rfl fun a hF=>pvg hF hW (y_loadOwn hF rfl 0 rfl rfl Tryz.underlying3 rfl) (ws hF rfl rfl) fun a hF=>?_;refine pe (e_callK hF hW rfl rfl en_127 Rl (contains_any (ints_row (hW.row 1 rfl) hm) _) ?_) (ws hF rfl rfl);intro a w1 hW hF;refine Fr.splitB hF (fun h5 hF=>?_) (fun h5 hF=>?_);refine pq 2 hF rfl fun a hF=>?_;replace hF:=hF.ff;refine l_nil<|t_n<|c_f hF rfl<|wp_skip<|b_n<|t_n<|c_r<|pv hF hW (y_add hF rfl rfl (IntWalk.i64_in _ Om)) fun a hF=>pq 1 hF rfl fun a hF=>l_nil ?_;replace hW:=hW.del 0 rfl;refine t_n ?_;refine⟨(k+1,m,out,A',c'),?_,?_,?_,?_⟩
 exact⟨by omega,by rw[foldl_take _ _ I0 Om,←hout,pick_no fun _=>of_decide_eq_true Am],hm,by omega⟩
 first|omega|(dsimp only;omega)
 exact hF.a2 rfl rfl rfl
 exact hW
 refine pq 2 hF rfl fun a hF=>?_;replace hF:=hF.tt;refine l_nil<|t_n<|c_t hF rfl<|c_r<|pq 2 hF rfl fun a hF=>pv hF hW (y_loadOwn hF rfl 0 rfl rfl Tryz.underlying3 rfl) fun a hF=>pe<|e_buildSlice hF hW rfl (fun w=>bs_CodeNm_41_1_0 _ w) rfl rfl rfl fun b6 a wc hF hW=>pe<|e_append hF hW 2 rfl rfl rfl Tryz.underlying41 inf_3 rfl Dc (rowAt_blk (hW.blk 0 rfl) 1 1 rfl) Oc (show _=m+1 by omega) (show _=(out++[(l.getD k I0).n]).map (.int .i64) by simp) Ox Ml rfl rfl fun A7 c8 a wc hF hW=>pq 1 hF rfl fun a hF=>l_nil ?_;replace hF:=hF.ks [0,1,4,5,6,7,9,13,15,16,17,18,31] rfl;refine b_n<|t_n<|c_r<|pv hF hW (y_add hF rfl rfl (IntWalk.i64_in _ Om)) fun a hF=>pq 1 hF rfl fun a hF=>l_nil ?_;replace hW:=hW.ds [0,0] rfl;refine t_n ?_;refine⟨(k+1,m+1,out++[(l.getD k I0).n],A7,c8),?_,?_,?_,?_⟩
 exact⟨by omega,by rw[foldl_take _ _ I0 Om,←hout,pick_yes Am (of_decide_eq_false Am)],by simp[hm],by omega⟩
 first|omega|(dsimp only;omega)
 exact hF.a2 rfl rfl rfl
 exact hW
 refine pq 7 hF rfl fun a hF=>l_nil<|t_n<|c_f hF rfl<|wp_skip<|b_n<|t_n<|c_r<|pv hF hW (y_add hF rfl rfl (IntWalk.i64_in _ Om)) fun a hF=>pq 1 hF rfl fun a hF=>l_nil ?_;replace hW:=hW.del 0 rfl;refine t_n ?_;refine⟨(k+1,m,out,A',c'),?_,?_,?_,?_⟩
 exact⟨by omega,by rw[foldl_take _ _ I0 Om,←hout,pick_no fun h=>absurd h Am],hm,by omega⟩
 first|omega|(dsimp only;omega)
 exact hF.a2 rfl rfl rfl
 exact hW
 refine l_nil<|t_n<|c_s<|c_f hF rfl<|wp_exit<|t_x<|t_x<|b_h<|t_n<|c_sr<|pq 1 hF rfl fun a hF=>?_;refine pe (e_callA hF rfl rfl en_128 Rl (sort_own hW 0 Om rfl) ?_);rintro e w1 ⟨rfl,hW⟩;refine⟨_,rfl,fun a hF=>?_⟩;refine lts<|pq 3 hF rfl fun a hF=>l_nil<|t_n<|wp_ret<|ret2 Tryz.results133 hF (rv_t hF rfl) (rv_t hF rfl) ?_
 obtain rfl:k=n:=Om
 subst hm
 have e:namesOr op l=sorted out:=(by rw[namesOr_ok Om,hout,List.take_of_length_le Om];rfl)
 unfold IntsErr
 rw[e,sorted_len]
 exact⟨A',c',by rw[show chkCode l=0 by omega],hW.below,(OwnRes.of_own (hW.row_own 0 rfl)).mono fun _ h=>by have:=Ints.of_own h;exact this⟩
theorem puts_any{A:Option Addr}{n c:Nat}{l:List Ins}{w:World}(h:Code_ w (.slice A n c) l):
  Calls Tryz.prog 97 #[.slice A n c] w (IntsErr w (namesOr 12 l) (chkCode l)):=by
 refine enter Tryz.func97 rfl Tryz.ntmps97 rfl fun a hF=>?_
 have hW:=Wd.start w NoB
 refine c_sr<|pq 2 hF rfl fun a hF=>lts<|pq 1 hF rfl fun a hF=>?_;refine pe (e_callA hF rfl rfl en_133 Rl (named_any (h.below hW.below) 12) ?_);rintro e w1 ⟨A',c',rfl,hb,hr⟩;replace hW:=hW.gotR hb hr;refine⟨_,rfl,fun a hF=>?_⟩;refine pq 4 hF rfl fun a hF=>l_nil<|t_n<|wp_ret<|ret2 Tryz.results97 hF (rv_t hF rfl) (rv_t hF rfl) ?_
 exact⟨A',c',rfl,hW.below,hW.res_res 0 rfl⟩
theorem gets_any{A:Option Addr}{n c:Nat}{l:List Ins}{w:World}(h:Code_ w (.slice A n c) l):
  Calls Tryz.prog 98 #[.slice A n c] w (IntsErr w (namesOr 13 l) (chkCode l)):=by
 refine enter Tryz.func98 rfl Tryz.ntmps98 rfl fun a hF=>?_
 have hW:=Wd.start w NoB
 refine c_sr<|pq 2 hF rfl fun a hF=>lts<|pq 1 hF rfl fun a hF=>?_;refine pe (e_callA hF rfl rfl en_133 Rl (named_any (h.below hW.below) 13) ?_);rintro e w1 ⟨A',c',rfl,hb,hr⟩;replace hW:=hW.gotR hb hr;refine⟨_,rfl,fun a hF=>?_⟩;refine pq 4 hF rfl fun a hF=>l_nil<|t_n<|wp_ret<|ret2 Tryz.results98 hF (rv_t hF rfl) (rv_t hF rfl) ?_
 exact⟨A',c',rfl,hW.below,hW.res_res 0 rfl⟩
end
end Go.Proofs.YtndcjmopebcdgaaGreatDoor
