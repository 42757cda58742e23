/- Systems: parts, channels, slots; how they lie in memory; what is right of them. Small functions of the reference: within, SameInts; what is so of a right program. teller: a program that comes in memory of its own. Parts among a law's arguments. The library's Sort at []int over this program: the shelf's contract, laid; and over a row of the call's own. slices.Clone at []api.Chan, []api.Slot, []api.Instr and []int: what comes back lies in memory of its own. code.Puts and code.Gets: the channels that a program names, sorted. -/
import Derived.Test.YtndcjmopebcdgaaGreatEng
import Derived.Test.YtndcjmopebcdgaaGreatIsaB
import Derived.Test.YtndcjmopebcdgaaGreatCellSpec
import Derived.Test.YtndcjmopebcdgaaGreatTys
import Derived.Test.YtndcjmopebcdgaaGreatBase
import Derived.Shelf.Sort.Plain
import Derived.Sort.OwnSortedInts
set_option linter.unusedSimpArgs false
set_option linter.unusedVariables false
namespace Go.Proofs.YtndcjmopebcdgaaGreat
section
open Go.ChangeShapes Go.WideShapes Go.ChangeAt Go.RowKit
set_option maxRecDepth 100000
structure Chn where
 kind:Int
 from_:Int
 to_:Int
def Chn.cells(c:Chn):List Value:=[.int .i64 c.kind,.int .i64 c.from_,.int .i64 c.to_]
theorem Chn.cells_len(c:Chn):c.cells.length=3:=rfl
instance :DecidableEq Chn:=fun x y=>decidable_of_iff (x.kind=y.kind∧x.from_=y.from_∧x.to_=y.to_)
 ⟨fun h=>by cases x;cases y;simp_all,fun h=>by subst h;exact⟨rfl,rfl,rfl⟩⟩
structure Slt where
 part:Int
 ticks:Int
def Slt.cells(c:Slt):List Value:=[.int .i64 c.part,.int .i64 c.ticks]
theorem Slt.cells_len(c:Slt):c.cells.length=2:=rfl
instance :DecidableEq Slt:=fun x y=>decidable_of_iff (x.part=y.part∧x.ticks=y.ticks)
 ⟨fun h=>by cases x;cases y;simp_all,fun h=>by subst h;exact⟨rfl,rfl⟩⟩
instance :DecidableEq Prt:=fun x y=>decidable_of_iff (x.code=y.code∧x.inp=y.inp)
 ⟨fun h=>by cases x;cases y;simp_all,fun h=>by subst h;exact⟨rfl,rfl⟩⟩
structure Sys where
 parts:List Prt
 chans:List Chn
 slots:List Slt
instance :DecidableEq Sys:=fun x y=>decidable_of_iff (x.parts=y.parts∧x.chans=y.chans∧x.slots=y.slots)
 ⟨fun h=>by cases x;cases y;simp_all,fun h=>by subst h;exact⟨rfl,rfl,rfl⟩⟩
def Sys.zero:Sys:=⟨[],[],[]⟩
structure PX where
 ca:Option Addr
 cc:Nat
 ia:Option Addr
 ic:Nat
abbrev PP:=Prt×PX
def encP(q:PP):List Value:=[.slice q.2.ca q.1.code.length q.2.cc,.slice q.2.ia q.1.inp.length q.2.ic]
theorem encP_len(q:PP):(encP q).length=2:=rfl
structure PP.At(q:PP)(w:World):Prop where
 code:Code_ w (.slice q.2.ca q.1.code.length q.2.cc) q.1.code
 inp:Ints w (.slice q.2.ia q.1.inp.length q.2.ic) q.1.inp
def P0:PP:=(⟨[],[]⟩,⟨none,0,none,0⟩)
def I0:Ins:=⟨0,0,0,0⟩
def C0:Chn:=⟨0,0,0⟩
def S0:Slt:=⟨0,0⟩
theorem PP.At.below{q:PP}{w w':World}(h:q.At w)(hb:Below w.heap.size w w'):q.At w':=⟨h.code.below hb,h.inp.below hb⟩
structure SysD where
 parts:List PP
 pa:Option Addr
 pc:Nat
 chans:List Chn
 ha:Option Addr
 hc:Nat
 slots:List Slt
 sa:Option Addr
 sc:Nat
def SysD.sys(x:SysD):Sys:=⟨x.parts.map Prod.fst,x.chans,x.slots⟩
def SysD.val(x:SysD):Value:=.agg #[.slice x.pa x.parts.length x.pc,.slice x.ha x.chans.length x.hc,.slice x.sa x.slots.length x.sc]
def SysD.zero:SysD:=⟨[],none,0,[],none,0,[],none,0⟩
theorem SysD.val_eq(x:SysD):x.val=.agg #[.slice x.pa x.parts.length x.pc,.slice x.ha x.chans.length x.hc,.slice x.sa x.slots.length x.sc]:=rfl
structure SysD.At(x:SysD)(w:World):Prop where
 parts:Flat encP 2 w (.slice x.pa x.parts.length x.pc) x.parts
 each:∀q,q∈x.parts→q.At w
 chans:Flat Chn.cells 3 w (.slice x.ha x.chans.length x.hc) x.chans
 slots:Flat Slt.cells 2 w (.slice x.sa x.slots.length x.sc) x.slots
theorem SysD.At.below{x:SysD}{w w':World}(h:x.At w)(hb:Below w.heap.size w w'):x.At w':=
 ⟨h.parts.below hb,fun q hq=>(h.each q hq).below hb,h.chans.below hb,h.slots.below hb⟩
theorem SysD.zero_at(w:World):SysD.zero.At w:=⟨Flat.nil_,fun _ h=>(by cases h),Flat.nil_,Flat.nil_⟩
section
variable {α:Type} {enc:α→List Value} {size:Nat} {w:World} {A:Option Addr} {n c:Nat} {l:List α}
theorem Flat.len(h:Flat enc size w (.slice A n c) l):n=l.length∧n≤c∧c≤maxLen:=by
 obtain⟨A',c',e,h1,h2,h3⟩:=h
 simp only[Value.slice.injEq] at e
 obtain⟨rfl,rfl,rfl⟩:=e
 exact⟨rfl,h1,h2⟩
theorem Flat.rowAt(h:Flat enc size w (.slice A n c) l):RowAt w size A n (l.flatMap enc):=by
 obtain⟨A',c',e,h1,h2,h3⟩:=h
 simp only[Value.slice.injEq] at e
 obtain⟨rfl,rfl,rfl⟩:=e
 exact h3
theorem Flat.rf(hs:∀a,(enc a).length=size)(d:α)(h:Flat enc size w (.slice A n c) l):RF w A n size (fun k=>enc (l.getD k d)):=by
 obtain⟨A',c',e,h1,h2,h3⟩:=RF.of_flat hs d h
 simp only[Value.slice.injEq] at e
 obtain⟨rfl,rfl,rfl⟩:=e
 exact h3
theorem Ints.rf{xs:List Int}(h:Ints w (.slice A n c) xs):RF w A n 1 (fun k=>[.int .i64 (xs.getD k 0)]):=by
 obtain⟨A',c',e,h1,h2,h3⟩:=RF.of_ints h
 simp only[Value.slice.injEq] at e
 obtain⟨rfl,rfl,rfl⟩:=e
 exact h3
theorem Flat.of_own{T:TypeId}{base n:Nat}{v:Value}(h:w.ownsRow base T size v n (l.flatMap enc))(hn:n=l.length):Flat enc size w v l:=by
 subst hn
 obtain⟨A,c,rfl,hc,hm⟩:=own_slice h
 exact⟨A,c,rfl,hc,hm,RowAt.of_own h⟩
theorem mem_getD{k:Nat}(d:α)(hk:k<l.length):l.getD k d∈l:=by
 rw[List.getD,List.getElem?_eq_getElem hk]
 exact List.getElem_mem hk
theorem getD_map{β:Type}(f:α→β)(k:Nat)(d:α):(l.map f).getD k (f d)=f (l.getD k d):=by
 simp only[List.getD,List.getElem?_map]
 cases l[k]?<;>rfl
end
section
variable {x:SysD} {w:World} {k:Nat}
theorem SysD.At.partsR(h:x.At w):RF w x.pa x.parts.length 2 (fun k=>encP (x.parts.getD k P0)):=h.parts.rf encP_len P0
theorem SysD.At.chansR(h:x.At w):RF w x.ha x.chans.length 3 (fun k=>Chn.cells (x.chans.getD k C0)):=h.chans.rf Chn.cells_len C0
theorem SysD.At.slotsR(h:x.At w):RF w x.sa x.slots.length 2 (fun k=>Slt.cells (x.slots.getD k S0)):=h.slots.rf Slt.cells_len S0
theorem SysD.At.part(h:x.At w)(hk:k<x.parts.length):(x.parts.getD k P0).At w:=h.each _ (mem_getD P0 hk)
theorem SysD.At.codeR(h:x.At w)(hk:k<x.parts.length):RF w (x.parts.getD k P0).2.ca (x.parts.getD k P0).1.code.length 4 (fun i=>Ins.cells ((x.parts.getD k P0).1.code.getD i I0)):=(h.part hk).code.rf Ins.cells_len I0
end
def kindOk(k:Int):Bool:=k==1||k==2
def partOk(n:Nat)(p:Int):Bool:=decide (0≤p∧p<n)
def chnOk(n:Nat)(c:Chn):Bool:=partOk n c.from_&&(partOk n c.to_&&c.from_ != c.to_)
def sltOk(n:Nat)(s:Slt):Bool:=partOk n s.part&&decide (1≤s.ticks∧s.ticks≤8)
def insOk(cs:List Chn)(p:Nat)(i:Ins):Bool:=
 (i.op != 12||(decide (i.n<cs.length)&&(cs.getD i.n.toNat C0).from_==p))&&(i.op != 13||(decide (i.n<cs.length)&&(cs.getD i.n.toNat C0).to_==p))
def sizesOk(s:Sys):Bool:=decide (1≤s.parts.length∧s.parts.length≤4∧s.chans.length≤6∧1≤s.slots.length∧s.slots.length≤6)&&s.parts.all fun p=>decide (p.inp.length≤12)
def firstCode:List Prt→Int
 |[]=>0
 |p::r=>if chkCode p.code=0 then firstCode r else chkCode p.code
def namesFrom(cs:List Chn):Nat→List Prt→Bool
 |_,[]=>true
 |k,p::r=>p.code.all (insOk cs k)&&namesFrom cs (k+1) r
def chkSys(s:Sys):Int:=
 if sizesOk s=false then 2
 else if firstCode s.parts≠0 then firstCode s.parts
 else if(s.chans.all fun c=>kindOk c.kind)=false then 4
 else if s.chans.all (chnOk s.parts.length)=false then 3
 else if s.slots.all (sltOk s.parts.length)=false then 3
 else if namesFrom s.chans 0 s.parts=false then 1 else 0
theorem all_getD{α:Type}{l:List α}{f:α→Bool}(d:α):l.all f=true↔∀k,k<l.length→f (l.getD k d)=true:=by
 constructor
 ·intro h k hk
  exact List.all_eq_true.1 h _ (mem_getD d hk)
 ·intro h
  refine List.all_eq_true.2 fun y hy=>?_
  obtain⟨k,hk,rfl⟩:=List.mem_iff_getElem.1 hy
  have:=h k hk
  rwa [List.getD,List.getElem?_eq_getElem hk] at this
theorem all_false{α:Type}{l:List α}{f:α→Bool}(d:α){k:Nat}(hk:k<l.length)(h:f (l.getD k d)=false):l.all f=false:=by
 cases ha:l.all f
 ·rfl
 ·rw[(all_getD d).1 ha k hk] at h;cases h
theorem firstCode_drop{l:List Prt}{k:Nat}(hk:k<l.length):firstCode (l.drop k)=if chkCode l[k].code=0 then firstCode (l.drop (k+1)) else chkCode l[k].code:=by
 rw[List.drop_eq_getElem_cons hk];rfl
theorem namesFrom_iff(cs:List Chn):∀(l:List Prt) (b:Nat),namesFrom cs b l=true↔∀k,k<l.length→(l.getD k ⟨[],[]⟩).code.all (insOk cs (b+k))=true
 |[],b=>by simp[namesFrom]
 |p::r,b=>by
  simp only[namesFrom,Bool.and_eq_true,namesFrom_iff cs r (b+1)]
  constructor
  ·rintro⟨h1,h2⟩ k hk
   cases k with
   |zero=>simpa using h1
   |succ k=>
    have:=h2 k (by simpa using hk)
    rw[show b+(k+1)=b+1+k by omega]
    simpa using this
  ·intro h
   refine⟨by simpa using h 0 Si,fun k hk=>?_⟩
   have:=h (k+1) (by simpa using hk)
   rw[show b+(k+1)=b+1+k by omega] at this
   simpa using this
end
section
open Go.RowKit
set_option maxRecDepth 100000
theorem withinD_any(n lo hi:Int)(w:World):Calls Tryz.prog 17 #[.int .i64 n,.int .i64 lo,.int .i64 hi] w fun e w'=>e=.returned (.bool (decide (lo≤n∧n≤hi)))∧Below w.heap.size w w':=by
 refine enter Tryz.func17 rfl Tryz.ntmps17 rfl fun a hF=>?_
 have hW:=Wd.start w NoB
 refine c_sr<|pv hF hW (y_assign hF rfl) fun a hF=>l_nil<|t_n<|c_sr<|pv hF hW (y_move hF rfl) fun a hF=>pv hF hW (y_move hF rfl) fun a hF=>pv hF hW (y_geq hF rfl rfl) fun a hF=>?_;refine Fr.splitD hF ?_ ?_
 ·intro h1 hF;refine pv hF hW (y_move hF rfl) fun a hF=>pvg hF hW (y_move hF rfl) (ws hF rfl rfl) fun a hF=>pvg hF hW (y_move hF rfl) (ws hF rfl rfl) fun a hF=>pvg hF hW (y_leq hF rfl rfl) (ws hF rfl rfl) fun a hF=>?_;refine Fr.splitD hF ?_ ?_
  ·intro h2 hF;refine pv hF hW (y_pick hF rfl rfl) fun a hF=>?_;replace hF:=hF.drop 6;refine pv hF hW (y_assign hF rfl) fun a hF=>l_nil ?_;replace hF:=hF.ks [0,1,2,6] rfl;refine t_n<|wp_ret<|ret1 Tryz.results17 hF (rv_t hF rfl) ?_
   exact⟨by simp[*],hW.below⟩
  ·intro h2 hF;refine pv hF hW (y_pick hF rfl rfl) fun a hF=>?_;replace hF:=hF.drop 6;refine pv hF hW (y_assign hF rfl) fun a hF=>l_nil ?_;replace hF:=hF.ks [0,1,2,6] rfl;refine t_n<|wp_ret<|ret1 Tryz.results17 hF (rv_t hF rfl) ?_
   exact⟨by simp[*],hW.below⟩
 ·intro h1 hF;refine pv hF hW (y_move hF rfl) fun a hF=>pk hF (wn hF rfl rfl rfl) fun a hF=>pk hF (wn hF rfl rfl rfl) fun a hF=>pk hF (wn hF rfl rfl rfl) fun a hF=>pv hF hW (y_pick hF rfl rfl) fun a hF=>?_;replace hF:=hF.drop 6;refine pv hF hW (y_assign hF rfl) fun a hF=>l_nil ?_;replace hF:=hF.ks [0,1,2,6] rfl;refine t_n<|wp_ret<|ret1 Tryz.results17 hF (rv_t hF rfl) ?_
  exact⟨by simp[*],hW.below⟩
theorem firstErr_all:∀(l:List Ins),firstErr l=0→∀i∈l,chkIns i=0
 |[],_,_,h=>by cases h
 |x::r,h0,i,h=>by
  unfold firstErr at h0
  by_cases hx:chkIns x=0
  ·rw[if_pos hx] at h0
   rcases List.mem_cons.1 h with rfl|h
   ·exact hx
   ·exact firstErr_all r h0 i h
  ·rw[if_neg hx] at h0
   exact absurd h0 hx
theorem chkCode_all{l:List Ins}(h:chkCode l=0):(1≤l.length∧l.length≤20)∧∀i∈l,chkIns i=0:=by
 unfold chkCode at h
 split at h
 ·cases h
 ·exact⟨by omega,firstErr_all l h⟩
theorem sameIntsB{w:World}{u v:Value}{l m:List Int}(hu:Ints w u l)(hv:Ints w v m):
  Calls Tryz.prog 24 #[u,v] w fun e w'=>e=.returned (.bool (decide (l=m)))∧Below w.heap.size w w':=
 (sameInts_any hu hv).mono fun e w' ⟨he,hd⟩=>⟨he,hd.below _⟩
end
section
open Go.RowKit
theorem bs_Teller_47_5_0_1_2_3_4(x0:Int)(x1:Int)(x2:Int)(x3:Int)(x4:Int)(x5:Int)(x6:Int)(x7:Int)(x8:Int)(x9:Int)(x10:Int)(x11:Int)(x12:Int)(x13:Int)(x14:Int)(x15:Int)(x16:Int)(x17:Int)(x18:Int)(x19:Int)(w:World):(Instr.buildSlice 47 5 #[(0,(.agg #[(.int .i64 x0),(.int .i64 x1),(.int .i64 x2),(.int .i64 x3)])),(1,(.agg #[(.int .i64 x4),(.int .i64 x5),(.int .i64 x6),(.int .i64 x7)])),(2,(.agg #[(.int .i64 x8),(.int .i64 x9),(.int .i64 x10),(.int .i64 x11)])),(3,(.agg #[(.int .i64 x12),(.int .i64 x13),(.int .i64 x14),(.int .i64 x15)])),(4,(.agg #[(.int .i64 x16),(.int .i64 x17),(.int .i64 x18),(.int .i64 x19)]))]).run Tryz.prog w=.ok (.slice (some ⟨w.heap.size,0,none⟩) 5 5) (w.alloc (.cells #[(.int .i64 x0),(.int .i64 x1),(.int .i64 x2),(.int .i64 x3),(.int .i64 x4),(.int .i64 x5),(.int .i64 x6),(.int .i64 x7),(.int .i64 x8),(.int .i64 x9),(.int .i64 x10),(.int .i64 x11),(.int .i64 x12),(.int .i64 x13),(.int .i64 x14),(.int .i64 x15),(.int .i64 x16),(.int .i64 x17),(.int .i64 x18),(.int .i64 x19)] 51)):=by kernel_rfl
theorem bu_Teller_51_0(x0:Int)(w:World):(Instr.build 51 #[(0,(.int .i64 x0))]).run Tryz.prog w=.ok (.agg #[(.int .i64 x0),(.int .i64 0),(.int .i64 0),(.int .i64 0)]) w:=by kernel_rfl
theorem bu_Teller_51_0_1_2(x0:Int)(x1:Int)(x2:Int)(w:World):(Instr.build 51 #[(0,(.int .i64 x0)),(1,(.int .i64 x1)),(2,(.int .i64 x2))]).run Tryz.prog w=.ok (.agg #[(.int .i64 x0),(.int .i64 x1),(.int .i64 x2),(.int .i64 0)]) w:=by kernel_rfl
theorem bu_Teller_51_0_1_3(x0:Int)(x1:Int)(x2:Int)(w:World):(Instr.build 51 #[(0,(.int .i64 x0)),(1,(.int .i64 x1)),(3,(.int .i64 x2))]).run Tryz.prog w=.ok (.agg #[(.int .i64 x0),(.int .i64 x1),(.int .i64 0),(.int .i64 x2)]) w:=by kernel_rfl
theorem bu_Teller_51_0_3(x0:Int)(x1:Int)(w:World):(Instr.build 51 #[(0,(.int .i64 x0)),(3,(.int .i64 x1))]).run Tryz.prog w=.ok (.agg #[(.int .i64 x0),(.int .i64 0),(.int .i64 0),(.int .i64 x1)]) w:=by kernel_rfl
set_option maxRecDepth 100000
def tellerL:List Ins:=[⟨13,0,1,0⟩,⟨9,1,0,0⟩,⟨11,0,0,0⟩,⟨12,0,0,1⟩,⟨8,0,0,0⟩]
theorem teller_any(w:World):Calls Tryz.prog 49 #[] w fun e w'=>∃A,e=.returned (.slice A 5 5)∧OwnRes w w' (fun u=>Code_ u (.slice A 5 5) tellerL)∧Below w.heap.size w w':=by
 refine enter Tryz.func49 rfl Tryz.ntmps49 rfl fun a hF=>?_
 have hW:=Wd.start w NoB
 refine c_sr<|pv hF hW (y_assign hF rfl) fun a hF=>l_nil<|t_n<|c_sr<|pv hF hW (y_build hF rfl (fun w=>bu_Teller_51_0_1_2 _ _ _ w)) fun a hF=>pv hF hW (y_build hF rfl (fun w=>bu_Teller_51_0_1_3 _ _ _ w)) fun a hF=>pv hF hW (y_build hF rfl (fun w=>bu_Teller_51_0 _ w)) fun a hF=>pv hF hW (y_build hF rfl (fun w=>bu_Teller_51_0_3 _ _ w)) fun a hF=>pv hF hW (y_build hF rfl (fun w=>bu_Teller_51_0 _ w)) fun a hF=>?_;refine pe (e_buildSlice hF hW rfl (fun w=>bs_Teller_47_5_0_1_2_3_4 _ _ _ _ _ _ _ _ _ _ _ _ _ _ _ _ _ _ _ _ w) rfl rfl rfl ?_);intro b1 a wc hF hW;replace hF:=hF.drop 0;refine pv hF hW (y_assign hF rfl) fun a hF=>l_nil ?_;replace hF:=hF.ks [0] rfl;refine t_n<|wp_ret<|ret1 Tryz.results49 hF (rv_t hF rfl) ?_
 exact⟨_,rfl,(hW.res_blk 0 rfl).mono fun u h=>flat_blk h rfl rfl rfl (by unfold maxLen;omega),hW.below⟩
end
section
open Go.ChangeShapes Go.WideShapes Go.ChangeAt Go.RowKit
set_option maxRecDepth 100000
section
variable {H:Type} {enc:TypeId×Value→H} {w:World} {base base':Nat} {r:Reach} {spare:Nat→Bool} {held:Bool} {v:Value} {d:DataW H} {p:List MemPlace}
theorem ins_rd{u:World}{n:Nat}{cs:List Value}(h:Rd Tryz.prog u (n+2) 51 cs):∃i:Ins,cs=i.cells:=by
 obtain⟨l,rfl,hl⟩:=h.ints_of_fields Tryz.underlying51 Kr Kr Kr
 match l,hl with
 |[a,b,c,e],_=>exact⟨⟨a,b,c,e⟩,rfl⟩
theorem code_rd{u:World}{n:Nat}{cs:List Value}(h:Rd Tryz.prog u (n+3) 47 cs):∃(v:Value) (l:List Ins),cs=[v]∧Code_ u v l:=
 Rd.flatS Tryz.underlying47 Kr Ins.cells_len (fun _ h=>ins_rd h) h
theorem part_rd{u:World}{n:Nat}{cs:List Value}(h:Rd Tryz.prog u (n+4) 49 cs):∃(cv iv:Value) (p:Prt),cs=[cv,iv]∧Code_ u cv p.code∧Ints u iv p.inp:=by
 obtain⟨hl,-⟩:=h.struct Tryz.underlying49
 have h2:Tryz.prog.cellsOf 49=2:=by kernel_rfl
 have h1:Tryz.prog.cellsOf 40=1:=by kernel_rfl
 have h1':Tryz.prog.cellsOf 47=1:=by kernel_rfl
 rw[h2] at hl
 match cs,hl with
 |[a,b],_=>
  have g0:=h.fld Tryz.underlying49 0 rfl rfl rfl h1' rfl
  have g1:=h.fld Tryz.underlying49 1 rfl rfl rfl h1 rfl
  obtain⟨v0,l0,e0,k0⟩:=code_rd g0
  obtain⟨v1,l1,e1,k1⟩:=Rd.intsS Tryz.underlying40 Tryz.underlying3 Kr g1
  obtain rfl:a=v0:=by simpa using e0
  obtain rfl:b=v1:=by simpa using e1
  exact⟨a,b,⟨l0,l1⟩,rfl,k0,k1⟩
theorem one_int{x:Value}{u:World}{n:Nat}(h:Rd Tryz.prog u (n+1) 3 [x]):∃m,x=.int .i64 m:=by
 obtain⟨m,e,_⟩:=h.int Tryz.underlying3
 exact⟨m,by simpa using e⟩
theorem agg_toList{cs:Array Value}{l:List Value}(h:cs.toList=l):Value.agg cs=.agg l.toArray:=by rw[←h]
end
end
section
open Go.ChangeShapes Go.WideShapes Go.ChangeAt Go.RowKit Go.Sort
theorem ck_3_157(n:Int)(h:0≤n∧n≤18446744073709551615)(w:World):(convert 3 157 (.int .i64 n)).run Tryz.prog w=.ok (.int .u64 n) w:=by
 have:=IntWalk.u64_in n h
 simp[convert,run_underlying Tryz.underlying3,run_underlying Tryz.underlying157,Conv.intToInt,this]
set_option maxRecDepth 100000
def lays189_ren:Go.Shelf.Ren:=⟨fun|125=>103|128=>122|129=>123|189=>88|215=>130|216=>119|257=>102|294=>113|295=>114|296=>115|297=>116|298=>117|299=>118|300=>120|301=>121|328=>125|329=>126|330=>127|331=>128|332=>129|343=>131|n=>n,fun|0=>0|3=>3|4=>4|5=>5|9=>9|28=>40|46=>157|51=>181|53=>183|131=>134|182=>173|183=>174|218=>186|222=>164|228=>191|229=>192|n=>n,fun n=>n⟩
theorem lays189:Go.Proofs.Lays.n189 Tryz.prog lays189_ren:={
 mixed:=by kernel_rfl,
 f125:=Tryz.func103.trans (congrArg some Kr),
 f128:=Tryz.func122.trans (congrArg some Kr),
 f129:=Tryz.func123.trans (congrArg some Kr),
 f189:=Tryz.func88.trans (congrArg some Kr),
 f215:=Tryz.func130.trans (congrArg some Kr),
 f216:=Tryz.func119.trans (congrArg some Kr),
 f257:=Tryz.func102.trans (congrArg some Kr),
 f294:=Tryz.func113.trans (congrArg some Kr),
 f295:=Tryz.func114.trans (congrArg some Kr),
 f296:=Tryz.func115.trans (congrArg some Kr),
 f297:=Tryz.func116.trans (congrArg some Kr),
 f298:=Tryz.func117.trans (congrArg some Kr),
 f299:=Tryz.func118.trans (congrArg some Kr),
 f300:=Tryz.func120.trans (congrArg some Kr),
 f301:=Tryz.func121.trans (congrArg some Kr),
 f328:=Tryz.func125.trans (congrArg some Kr),
 f329:=Tryz.func126.trans (congrArg some Kr),
 f330:=Tryz.func127.trans (congrArg some Kr),
 f331:=Tryz.func128.trans (congrArg some Kr),
 f332:=Tryz.func129.trans (congrArg some Kr),
 f343:=Tryz.func131.trans (congrArg some Kr),
 t0:=Tryz.underlying0,
 a0:=Tryz.isAgg0,
 z0:=Tryz.sizeOf0,
 v0:=Tryz.zeroValue0,
 t3:=Tryz.underlying3,
 a3:=Tryz.isAgg3,
 z3:=Tryz.sizeOf3,
 v3:=Tryz.zeroValue3,
 t4:=Tryz.underlying4,
 a4:=Tryz.isAgg4,
 z4:=Tryz.sizeOf4,
 v4:=Tryz.zeroValue4,
 t5:=Tryz.underlying5,
 a5:=Tryz.isAgg5,
 z5:=Tryz.sizeOf5,
 v5:=Tryz.zeroValue5,
 t9:=Tryz.underlying9,
 a9:=Tryz.isAgg9,
 z9:=Tryz.sizeOf9,
 v9:=Tryz.zeroValue9,
 t28:=Tryz.underlying40,
 a28:=Tryz.isAgg40,
 z28:=Tryz.sizeOf40,
 v28:=Tryz.zeroValue40,
 t46:=Tryz.underlying157,
 a46:=Tryz.isAgg157,
 z46:=Tryz.sizeOf157,
 v46:=Tryz.zeroValue157,
 t51:=Tryz.underlying181,
 a51:=Tryz.isAgg181,
 z51:=Tryz.sizeOf181,
 v51:=Tryz.zeroValue181,
 t53:=Tryz.underlying183,
 a53:=Tryz.isAgg183,
 z53:=Tryz.sizeOf183,
 v53:=Tryz.zeroValue183,
 t131:=Tryz.underlying134,
 a131:=Tryz.isAgg134,
 z131:=Tryz.sizeOf134,
 v131:=Tryz.zeroValue134,
 t182:=Tryz.underlying173,
 a182:=Tryz.isAgg173,
 z182:=Tryz.sizeOf173,
 v182:=Tryz.zeroValue173,
 t183:=Tryz.underlying174,
 a183:=Tryz.isAgg174,
 z183:=Tryz.sizeOf174,
 v183:=Tryz.zeroValue174,
 t218:=Tryz.underlying186,
 a218:=Tryz.isAgg186,
 z218:=Tryz.sizeOf186,
 v218:=Tryz.zeroValue186,
 t222:=Tryz.underlying164,
 a222:=Tryz.isAgg164,
 z222:=Tryz.sizeOf164,
 v222:=Tryz.zeroValue164,
 t228:=Tryz.underlying191,
 a228:=Tryz.isAgg191,
 z228:=Tryz.sizeOf191,
 v228:=Tryz.zeroValue191,
 t229:=Tryz.underlying192,
 a229:=Tryz.isAgg192,
 z229:=Tryz.sizeOf192,
 v229:=Tryz.zeroValue192}
theorem bitsLen_any(x:Int)(w:World)(h0:0≤x)(h1:x≤18446744073709551615):Calls Tryz.prog 103 #[.int .u64 x] w fun e w'=>(∃m:Nat,e=.returned (.int .i64 (m:Int)))∧Below w.heap.size w w':=
 (calls_of_every_depth fun D=>AnyS.bits_LenIn {lays189 with} D x w h0 h1).mono fun e w' ⟨h,hw⟩=>⟨⟨_,h⟩,hw▸Below.refl _ _⟩
theorem insort_nil{A:Option Addr}{n c:Nat}{w:World}:
  Calls Tryz.prog 113 #[.slice A n c,.int .i64 0,.int .i64 0] w fun e w'=>e=.returned (.tuple #[])∧Below w.heap.size w w':=by
 refine enter Tryz.func113 rfl Tryz.ntmps113 rfl fun a hF=>?_
 have hW:=Wd.start w NoB
 refine c_sr<|pv hF hW (y_move hF rfl) fun a hF=>pv hF hW (y_add hF rfl rfl (IntWalk.i64_in _ Om)) fun a hF=>pv hF hW (y_assign hF rfl) fun a hF=>l_nil ?_;replace hF:=hF.ks [0,1,2,6] rfl;refine t_n<|wp_block ?_;refine c_loop (G:=Nat) (fun k:Nat=>[(6,.int .i64 1)]) (fun k:Nat=>[]) (fun k:Nat=>True) (fun k:Nat=>0) 0 (hF.ks [0,1,2] rfl) (Fr.cons hF (t:=6) rfl Rg (Fr.nil hF)) (hW) ?_ ?_
 ·simp
 clear hF hW
 try clear a
 intro k a wc hC hF hW;refine c_s<|c_sr<|pv hF hW (y_move hF rfl) fun a hF=>pv hF hW (y_move hF rfl) fun a hF=>pv hF hW (y_lss hF rfl rfl) fun a hF=>?_;replace hF:=hF.ff;refine l_nil ?_;replace hF:=hF.ks [0,1,2,6,12] rfl;refine t_n<|c_f hF rfl<|wp_exit<|t_x<|t_x<|b_h<|end0 Tryz.results113 hF ?_
 exact⟨rfl,hW.below⟩
theorem pdq_nil{A:Option Addr}{n c:Nat}{m:Int}{w:World}:
  Calls Tryz.prog 102 #[.slice A n c,.int .i64 0,.int .i64 0,.int .i64 m] w fun e w'=>e=.returned (.tuple #[])∧Below w.heap.size w w':=by
 refine enter Tryz.func102 rfl Tryz.ntmps102 rfl fun a hF=>?_
 have hW:=Wd.start w NoB
 refine c_sr<|pv hF hW (y_assign hF rfl) fun a hF=>l_nil<|t_n<|c_sr<|pv hF hW (y_assign hF rfl) fun a hF=>l_nil<|t_n<|wp_block ?_;refine c_loop (G:=Nat) (fun k:Nat=>[(1,.int .i64 0),(2,.int .i64 0),(3,.int .i64 m)]) (fun k:Nat=>[]) (fun k:Nat=>True) (fun k:Nat=>0) 0 (hF.ks [0] rfl) (Fr.cons hF (t:=1) rfl Rg (Fr.cons hF (t:=2) rfl Rg (Fr.cons hF (t:=3) rfl Rg (Fr.nil hF)))) (hW) ?_ ?_
 ·simp
 clear hF hW
 try clear a
 intro k a wc hC hF hW;refine wp_block<|c_sr<|pv hF hW (y_move hF rfl) fun a hF=>pv hF hW (y_move hF rfl) fun a hF=>pv hF hW (y_sub hF rfl rfl (IntWalk.i64_in _ Om)) fun a hF=>pv hF hW (y_assign hF rfl) fun a hF=>l_nil ?_;replace hF:=hF.ks [0,1,2,3,10] rfl;refine t_n<|c_s<|c_sr<|pv hF hW (y_move hF rfl) fun a hF=>pv hF hW (y_leq hF rfl rfl) fun a hF=>?_;refine Fr.splitD hF ?_ ?_
 ·intro h1 hF;refine l_nil ?_;replace hF:=hF.ks [0,1,2,3,10,23] rfl;refine t_n<|c_t hF rfl<|c_sr<|pv hF hW (y_move hF rfl) fun a hF=>pv hF hW (y_move hF rfl) fun a hF=>pv hF hW (y_move hF rfl) fun a hF=>?_;refine pe (e_call hF rfl rfl en_113 Rl rfl rfl (insort_nil) ?_);rintro e w1 ⟨rfl,hb⟩;replace hW:=hW.kept hb;clear hb;refine⟨_,rfl,fun a hF=>?_⟩;refine l_nil ?_;replace hF:=hF.ks [0,1,2,3,10,23] rfl;refine t_n<|wp_ret<|t_r<|b_r<|t_r<|b_r<|ret0 Tryz.results102 hF ?_
  exact⟨rfl,hW.below⟩
 ·intro h1 hF;exfalso
  exact absurd (by decide:(0:Int) - 0≤12) h1
theorem sort_nil{A:Option Addr}{c:Nat}{w:World}:
  Calls Tryz.prog 88 #[.slice A 0 c] w fun e w'=>e=.returned (.tuple #[])∧Below w.heap.size w w':=by
 refine enter Tryz.func88 rfl Tryz.ntmps88 rfl fun a hF=>?_
 have hW:=Wd.start w NoB
 refine c_sr<|pv hF hW (y_move hF rfl) fun a hF=>pv hF hW (y_len hF rfl Tryz.underlying40) fun a hF=>pv hF hW (y_assign hF rfl) fun a hF=>l_nil ?_;replace hF:=hF.ks [0,2] rfl;refine t_n<|c_r<|pv hF hW (y_move hF rfl) fun a hF=>pv hF hW (y_move hF rfl) fun a hF=>pv hF hW (y_move hF rfl) fun a hF=>pv hF hW (y_convert hF rfl (ck_3_157 _ Om)) fun a hF=>?_;refine pe (e_call hF rfl rfl en_103 Rl rfl rfl (bitsLen_any _ _ Om Om) ?_);rintro e w1 ⟨⟨m,rfl⟩,hb⟩;replace hW:=hW.kept hb;clear hb;refine⟨_,rfl,fun a hF=>?_⟩;refine pe (e_call hF rfl rfl en_102 Rl rfl rfl (pdq_nil) ?_);rintro e w1 ⟨rfl,hb⟩;replace hW:=hW.kept hb;clear hb;refine⟨_,rfl,fun a hF=>?_⟩;refine l_nil ?_;replace hF:=hF.ks [0,2] rfl;refine end0 Tryz.results88 hF ?_
 exact⟨rfl,hW.below⟩
def sorted(xs:List Int):List Int:=xs.mergeSort fun x y=>decide (x≤y)
theorem sorted_len(xs:List Int):(sorted xs).length=xs.length:=List.length_mergeSort xs
theorem mem_sorted{xs:List Int}{m:Int}:m∈sorted xs↔m∈xs:=(List.mergeSort_perm xs _).mem_iff
theorem sort_own{w0 w:World}{X:Nat→Prop}{es:List Asn}(hW:Wd w0 X es w)(i:Nat){T:TypeId}{n:Nat}{v:Value}{xs:List Int}(hn:n<4611686018427387904)(hi:es[i]?=some (.row T 1 v n (xs.map (.int .i64)))):
  Calls Tryz.prog 88 #[v] w fun e w'=>e=.returned (.tuple #[])∧Wd w0 X (es.set i (.row T 1 v n ((sorted xs).map (.int .i64)))) w':=by
 have hrow:=hW.row i hi
 have hl:n=xs.length:=by simpa using hrow.1.symm
 rcases hrow.2 with⟨rfl,h0⟩|⟨g,cap,cur,rfl,_,hg,h1,h2,h3,h4⟩
 ·refine sort_nil.mono fun e w' ⟨he,hb⟩=>⟨he,?_⟩
  have hx:xs=[]:=List.eq_nil_of_length_eq_zero Om
  subst hx
  have hself:es.set i (.row T 1 (.slice none 0 0) n (([]:List Int).map (.int .i64)))=es:=by
   apply List.ext_getElem?
   intro j
   rw[List.getElem?_set]
   split
   ·rename_i h
    subst h
    rw[if_pos (List.getElem?_eq_some_iff.1 hi).1,hi]
   ·rfl
  rw[show sorted []=[] by simp[sorted],hself]
  exact hW.kept hb
 ·subst hl
  have hlt:=(Array.getElem?_eq_some_iff.1 hg).1
  have ht:cur.toList.take xs.length=xs.map (Value.int .i64):=by rw[←h4,Nat.mul_one]
  refine(Any.slices_Sort_int lays189 g 0 cap xs w (holds_of_blockI hg ht) hlt hn).mono fun e w' ⟨he,m,os,hw'⟩=>⟨he,?_⟩
  subst hw'
  refine hW.grown i hi (ownsRow_sortedI (sorted_len xs) (Nat.zero_le _) hg h1 h2 h3) (grownBy_sortedI _) (.inl rfl)
end
section
open Go.ChangeShapes Go.WideShapes Go.ChangeAt Go.RowKit
theorem bs_CloneS_23_0_(w:World):(Instr.buildSlice 23 0 #[]).run Tryz.prog w=.ok (.slice (some ⟨w.heap.size,0,none⟩) 0 0) (w.alloc (.cells #[] 67)):=by kernel_rfl
theorem bs_CloneS_24_0_(w:World):(Instr.buildSlice 24 0 #[]).run Tryz.prog w=.ok (.slice (some ⟨w.heap.size,0,none⟩) 0 0) (w.alloc (.cells #[] 85)):=by kernel_rfl
theorem bs_CloneS_40_0_(w:World):(Instr.buildSlice 40 0 #[]).run Tryz.prog w=.ok (.slice (some ⟨w.heap.size,0,none⟩) 0 0) (w.alloc (.cells #[] 3)):=by kernel_rfl
theorem bs_CloneS_47_0_(w:World):(Instr.buildSlice 47 0 #[]).run Tryz.prog w=.ok (.slice (some ⟨w.heap.size,0,none⟩) 0 0) (w.alloc (.cells #[] 51)):=by kernel_rfl
set_option maxRecDepth 100000
theorem Ins.one(q:Ins):∀u∈q.cells,u.oneCell'=true:=by simp[Ins.cells,Value.oneCell']
theorem Chn.one(q:Chn):∀u∈q.cells,u.oneCell'=true:=by simp[Chn.cells,Value.oneCell']
theorem Slt.one(q:Slt):∀u∈q.cells,u.oneCell'=true:=by simp[Slt.cells,Value.oneCell']
theorem Flat.nil_of{α:Type}{enc:α→List Value}{size:Nat}{w:World}{A:Option Addr}{n c:Nat}{l:List α}(h:Flat enc size w (.slice A n c) l)(hA:A.isNone=true):l=[]:=by
 obtain rfl:n=l.length:=h.len.1
 have hr:=h.rowAt
 rcases Nat.eq_zero_or_pos l.length with h0|h0
 ·exact List.eq_nil_of_length_eq_zero h0
 ·obtain⟨ad,e,_⟩:=hr.2 h0
  subst e;cases hA
theorem Ints.nil_of{w:World}{A:Option Addr}{n c:Nat}{l:List Int}(h:Ints w (.slice A n c) l)(hA:A.isNone=true):l=[]:=by
 obtain rfl:n=l.length:=h.len.1
 have hr:=h.rowAt
 rcases Nat.eq_zero_or_pos l.length with h0|h0
 ·exact List.eq_nil_of_length_eq_zero h0
 ·obtain⟨ad,e,_⟩:=hr.2 h0
  subst e;cases hA
def OwnFlat{α:Type}(enc:α→List Value)(size:Nat)(w:World)(v:Value)(l:List α):Prop:=∃T,w.ownsRow 0 T size v l.length (l.flatMap enc)
theorem OwnFlat.flat{α:Type}{enc:α→List Value}{size:Nat}{w:World}{v:Value}{l:List α}(h:OwnFlat enc size w v l):Flat enc size w v l:=by
 obtain⟨T,h⟩:=h
 exact Flat.of_own h rfl
theorem clone_chan{A:Option Addr}{n c:Nat}{l:List Chn}{w:World}(h:Flat Chn.cells 3 w (.slice A n c) l)(hs:l.length*24≤140737488355328):
  Calls Tryz.prog 58 #[.slice A n c] w fun e w'=>∃A' c',e=.returned (.slice A' l.length c')∧Below w.heap.size w w'∧OwnRes w w' (fun u=>OwnFlat Chn.cells 3 u (.slice A' l.length c') l):=by
 obtain rfl:n=l.length:=h.len.1
 have hl:=h.len
 unfold maxLen at hl
 refine enter Tryz.func58 rfl Tryz.ntmps58 rfl fun a hF=>?_
 have hW:=Wd.start w NoB
 refine c_sr<|pv hF hW (y_assign hF rfl) fun a hF=>l_nil<|t_n<|c_s<|c_sr<|pv hF hW (y_move hF rfl) fun a hF=>pv hF hW (y_eqNilS hF rfl rfl Tryz.underlying23) fun a hF=>?_;refine Fr.splitB hF ?_ ?_
 ·intro h1 hF;refine l_nil ?_;replace hF:=hF.ks [0,2,4] rfl;refine t_n<|c_t hF rfl<|c_sr ?_;replace hF:=hF.drop 2;refine pv hF hW (y_assign hF rfl) fun a hF=>l_nil<|t_n<|wp_ret<|t_r<|ret1 Tryz.results58 hF (rv_t hF rfl) ?_
  obtain rfl:=h.nil_of h1
  exact⟨none,0,rfl,hW.below,fun _ _=>⟨0,World.ownsRow_nil _ _ _ _⟩⟩
 ·intro h1 hF;refine l_nil ?_;replace hF:=hF.ks [0,2,4] rfl;refine t_n<|c_f hF rfl<|wp_skip<|t_n<|c_sr ?_;refine pe (e_buildSlice hF hW rfl (fun w=>bs_CloneS_23_0_ w) rfl rfl rfl ?_);intro b2 a wc hF hW;refine pv hF hW (y_move hF rfl) fun a hF=>?_;replace hW:=hW.blk_row 0 rfl 3 0 rfl Si;refine pe (e_append hF hW 0 rfl rfl rfl Tryz.underlying23 inf_67 rfl Dc (h.rowAt.below hW.below) (by exact one_flat Chn.one l) (show _=l.length by omega) (show _=l.flatMap Chn.cells by simp) Ox Ml rfl rfl ?_);intro A3 c4 a wc hF hW;replace hF:=hF.drop 2;refine pv hF hW (y_assign hF rfl) fun a hF=>l_nil ?_;replace hF:=hF.ks [0,2,4] rfl;refine t_n<|wp_ret<|ret1 Tryz.results58 hF (rv_t hF rfl) ?_
  exact⟨_,_,rfl,hW.below,(OwnRes.of_own (hW.row_own 0 rfl)).mono fun _ h=>⟨_,ownsRow_less h (Nat.zero_le _)⟩⟩
theorem clone_slot{A:Option Addr}{n c:Nat}{l:List Slt}{w:World}(h:Flat Slt.cells 2 w (.slice A n c) l)(hs:l.length*16≤140737488355328):
  Calls Tryz.prog 59 #[.slice A n c] w fun e w'=>∃A' c',e=.returned (.slice A' l.length c')∧Below w.heap.size w w'∧OwnRes w w' (fun u=>OwnFlat Slt.cells 2 u (.slice A' l.length c') l):=by
 obtain rfl:n=l.length:=h.len.1
 have hl:=h.len
 unfold maxLen at hl
 refine enter Tryz.func59 rfl Tryz.ntmps59 rfl fun a hF=>?_
 have hW:=Wd.start w NoB
 refine c_sr<|pv hF hW (y_assign hF rfl) fun a hF=>l_nil<|t_n<|c_s<|c_sr<|pv hF hW (y_move hF rfl) fun a hF=>pv hF hW (y_eqNilS hF rfl rfl Tryz.underlying24) fun a hF=>?_;refine Fr.splitB hF ?_ ?_
 ·intro h1 hF;refine l_nil ?_;replace hF:=hF.ks [0,2,4] rfl;refine t_n<|c_t hF rfl<|c_sr ?_;replace hF:=hF.drop 2;refine pv hF hW (y_assign hF rfl) fun a hF=>l_nil<|t_n<|wp_ret<|t_r<|ret1 Tryz.results59 hF (rv_t hF rfl) ?_
  obtain rfl:=h.nil_of h1
  exact⟨none,0,rfl,hW.below,fun _ _=>⟨0,World.ownsRow_nil _ _ _ _⟩⟩
 ·intro h1 hF;refine l_nil ?_;replace hF:=hF.ks [0,2,4] rfl;refine t_n<|c_f hF rfl<|wp_skip<|t_n<|c_sr ?_;refine pe (e_buildSlice hF hW rfl (fun w=>bs_CloneS_24_0_ w) rfl rfl rfl ?_);intro b2 a wc hF hW;refine pv hF hW (y_move hF rfl) fun a hF=>?_;replace hW:=hW.blk_row 0 rfl 2 0 rfl Si;refine pe (e_append hF hW 0 rfl rfl rfl Tryz.underlying24 inf_85 rfl Dc (h.rowAt.below hW.below) (by exact one_flat Slt.one l) (show _=l.length by omega) (show _=l.flatMap Slt.cells by simp) Ox Ml rfl rfl ?_);intro A3 c4 a wc hF hW;replace hF:=hF.drop 2;refine pv hF hW (y_assign hF rfl) fun a hF=>l_nil ?_;replace hF:=hF.ks [0,2,4] rfl;refine t_n<|wp_ret<|ret1 Tryz.results59 hF (rv_t hF rfl) ?_
  exact⟨_,_,rfl,hW.below,(OwnRes.of_own (hW.row_own 0 rfl)).mono fun _ h=>⟨_,ownsRow_less h (Nat.zero_le _)⟩⟩
theorem clone_instr{A:Option Addr}{n c:Nat}{l:List Ins}{w:World}(h:Flat Ins.cells 4 w (.slice A n c) l)(hs:l.length*32≤140737488355328):
  Calls Tryz.prog 60 #[.slice A n c] w fun e w'=>∃A' c',e=.returned (.slice A' l.length c')∧Below w.heap.size w w'∧OwnRes w w' (fun u=>OwnFlat Ins.cells 4 u (.slice A' l.length c') l):=by
 obtain rfl:n=l.length:=h.len.1
 have hl:=h.len
 unfold maxLen at hl
 refine enter Tryz.func60 rfl Tryz.ntmps60 rfl fun a hF=>?_
 have hW:=Wd.start w NoB
 refine c_sr<|pv hF hW (y_assign hF rfl) fun a hF=>l_nil<|t_n<|c_s<|c_sr<|pv hF hW (y_move hF rfl) fun a hF=>pv hF hW (y_eqNilS hF rfl rfl Tryz.underlying47) fun a hF=>?_;refine Fr.splitB hF ?_ ?_
 ·intro h1 hF;refine l_nil ?_;replace hF:=hF.ks [0,2,4] rfl;refine t_n<|c_t hF rfl<|c_sr ?_;replace hF:=hF.drop 2;refine pv hF hW (y_assign hF rfl) fun a hF=>l_nil<|t_n<|wp_ret<|t_r<|ret1 Tryz.results60 hF (rv_t hF rfl) ?_
  obtain rfl:=h.nil_of h1
  exact⟨none,0,rfl,hW.below,fun _ _=>⟨0,World.ownsRow_nil _ _ _ _⟩⟩
 ·intro h1 hF;refine l_nil ?_;replace hF:=hF.ks [0,2,4] rfl;refine t_n<|c_f hF rfl<|wp_skip<|t_n<|c_sr ?_;refine pe (e_buildSlice hF hW rfl (fun w=>bs_CloneS_47_0_ w) rfl rfl rfl ?_);intro b2 a wc hF hW;refine pv hF hW (y_move hF rfl) fun a hF=>?_;replace hW:=hW.blk_row 0 rfl 4 0 rfl Si;refine pe (e_append hF hW 0 rfl rfl rfl Tryz.underlying47 inf_51 rfl Dc (h.rowAt.below hW.below) (by exact one_flat Ins.one l) (show _=l.length by omega) (show _=l.flatMap Ins.cells by simp) Ox Ml rfl rfl ?_);intro A3 c4 a wc hF hW;replace hF:=hF.drop 2;refine pv hF hW (y_assign hF rfl) fun a hF=>l_nil ?_;replace hF:=hF.ks [0,2,4] rfl;refine t_n<|wp_ret<|ret1 Tryz.results60 hF (rv_t hF rfl) ?_
  exact⟨_,_,rfl,hW.below,(OwnRes.of_own (hW.row_own 0 rfl)).mono fun _ h=>⟨_,ownsRow_less h (Nat.zero_le _)⟩⟩
theorem clone_intO{A:Option Addr}{n c:Nat}{l:List Int}{w:World}(h:Ints w (.slice A n c) l)(hs:l.length*8≤140737488355328):
  Calls Tryz.prog 33 #[.slice A n c] w fun e w'=>∃A' c',e=.returned (.slice A' l.length c')∧Below w.heap.size w w'∧OwnRes w w' (fun u=>OwnInts u 0 (.slice A' l.length c') l):=by
 obtain rfl:n=l.length:=h.len.1
 have hl:=h.len
 unfold maxLen at hl
 refine enter Tryz.func33 rfl Tryz.ntmps33 rfl fun a hF=>?_
 have hW:=Wd.start w NoB
 refine c_sr<|pv hF hW (y_assign hF rfl) fun a hF=>l_nil<|t_n<|c_s<|c_sr<|pv hF hW (y_move hF rfl) fun a hF=>pv hF hW (y_eqNilS hF rfl rfl Tryz.underlying40) fun a hF=>?_;refine Fr.splitB hF ?_ ?_
 ·intro h1 hF;refine l_nil ?_;replace hF:=hF.ks [0,2,4] rfl;refine t_n<|c_t hF rfl<|c_sr ?_;replace hF:=hF.drop 2;refine pv hF hW (y_assign hF rfl) fun a hF=>l_nil<|t_n<|wp_ret<|t_r<|ret1 Tryz.results33 hF (rv_t hF rfl) ?_
  obtain rfl:=h.nil_of h1
  exact⟨none,0,rfl,hW.below,fun _ _=>OwnInts.nil_⟩
 ·intro h1 hF;refine l_nil ?_;replace hF:=hF.ks [0,2,4] rfl;refine t_n<|c_f hF rfl<|wp_skip<|t_n<|c_sr ?_;refine pe (e_buildSlice hF hW rfl (fun w=>bs_CloneS_40_0_ w) rfl rfl rfl ?_);intro b2 a wc hF hW;refine pv hF hW (y_move hF rfl) fun a hF=>?_;replace hW:=hW.blk_row 0 rfl 1 0 rfl Si;refine pe (e_append hF hW 0 rfl rfl rfl Tryz.underlying40 inf_3 rfl Dc (h.rowAt.below hW.below) (by exact oneCell_ints l) (show _=l.length by omega) (show _=l.map (.int .i64) by simp) Ox Ml rfl rfl ?_);intro A3 c4 a wc hF hW;replace hF:=hF.drop 2;refine pv hF hW (y_assign hF rfl) fun a hF=>l_nil ?_;replace hF:=hF.ks [0,2,4] rfl;refine t_n<|wp_ret<|ret1 Tryz.results33 hF (rv_t hF rfl) ?_
  exact⟨_,_,rfl,hW.below,(OwnRes.of_own (hW.row_own 0 rfl)).mono fun _ h=>OwnInts.of_own h (Nat.zero_le _)⟩
theorem clone_int{A:Option Addr}{n c:Nat}{l:List Int}{w:World}(h:Ints w (.slice A n c) l)(hs:l.length*8≤140737488355328):
  Calls Tryz.prog 33 #[.slice A n c] w fun e w'=>∃A' c',e=.returned (.slice A' l.length c')∧Below w.heap.size w w'∧OwnRes w w' (fun u=>Ints u (.slice A' l.length c') l):=
 (clone_intO h hs).mono fun _ _ ⟨A,c,he,hb,hr⟩=>⟨A,c,he,hb,hr.ofInts⟩
end
section
open Go.ChangeShapes Go.WideShapes Go.ChangeAt Go.RowKit
theorem bs_CodeNm_40_1_0(x0:Int)(w:World):(Instr.buildSlice 40 1 #[(0,(.int .i64 x0))]).run Tryz.prog w=.ok (.slice (some ⟨w.heap.size,0,none⟩) 1 1) (w.alloc (.cells #[(.int .i64 x0)] 3)):=by kernel_rfl
set_option maxRecDepth 100000
theorem index_any{A:Option Addr}{n c:Nat}{l:List Int}{w:World}(h:Ints w (.slice A n c) l)(x:Int):
  Calls Tryz.prog 101 #[.slice A n c,.int .i64 x] w fun e w'=>(∃r:Int,e=.returned (.int .i64 r)∧decide (0≤r)=decide (x∈l))∧Below w.heap.size w w':=by
 have hl:=h.len
 unfold maxLen at hl
 have hR:=h.rf
 refine enter Tryz.func101 rfl Tryz.ntmps101 rfl fun a hF=>?_
 have hW:=Wd.start w NoB
 refine c_sr<|pv hF hW (y_assign hF rfl) fun a hF=>l_nil<|t_n<|c_s<|c_sr<|pv hF hW (y_move hF rfl) fun a hF=>pv hF hW (y_len hF rfl Tryz.underlying40) fun a hF=>pv hF hW (y_move hF rfl) fun a hF=>l_nil ?_;replace hF:=hF.ks [0,1,4,7,8] rfl;refine t_n<|wp_block ?_;refine c_loop (G:=Nat) (fun k:Nat=>[(8,.int .i64 (k:Int))]) (fun k:Nat=>[]) (fun k:Nat=>k≤n∧∀i,i<k→l.getD i 0≠x) (fun k:Nat=>n - k) 0 (hF.ks [0,1,7] rfl) (Fr.cons hF (t:=8) rfl Rg (Fr.nil hF)) (hW) ?_ ?_
 ·exact⟨by omega,fun i hi=>by omega⟩
 clear hF hW
 try clear a
 intro k a wc hC hF hW
 obtain⟨hk,hno⟩:=hC
 refine c_sr<|pv hF hW (y_lss hF rfl rfl) fun a hF=>?_;refine Fr.splitD hF ?_ ?_
 ·intro h1 hF;refine l_nil<|t_n<|c_s<|c_t hF rfl<|wp_skip<|t_n<|c_s<|wp_block<|c_sr<|pv hF hW (y_move hF rfl) fun a hF=>pv hF hW (y_assign hF rfl) fun a hF=>l_nil ?_;replace hF:=hF.ks [0,1,5,7,8,9] rfl;refine t_n<|c_sr<|pv hF hW (y_move hF rfl) fun a hF=>pv hF hW (y_move hF rfl) fun a hF=>pv hF hW (y_move hF rfl) fun a hF=>pv hF hW (y_indexS hF rfl rfl Od Tryz.underlying40 sz_3 (fun w h=>(hR).wd h)) fun a hF=>pv hF hW (y_loadRow hF rfl (fun w h=>(hR).wd h) Od rfl Tryz.underlying3 rfl) fun a hF=>pv hF hW (y_eql hF rfl rfl) fun a hF=>?_;refine Fr.splitD hF ?_ ?_
  ·intro h2 hF;refine l_nil ?_;replace hF:=hF.ks [0,1,5,7,8,9,16] rfl;refine t_n<|c_t hF rfl<|c_sr<|pv hF hW (y_move hF rfl) fun a hF=>pv hF hW (y_assign hF rfl) fun a hF=>l_nil ?_;replace hF:=hF.ks [0,1,4,5,7,8,9,16] rfl;refine t_n<|wp_ret<|b_r<|t_r<|t_r<|b_r<|t_r<|ret1 Tryz.results101 hF (rv_t hF rfl) ?_
   exact⟨⟨_,rfl,by rw[decide_eq_true (show(0:Int)≤(k:Int) by omega),decide_eq_true];have hm:=mem_getD (l:=l) (k:=k) 0 Om;rwa [show l.getD k 0=x by omega] at hm⟩,hW.below⟩
  ·intro h2 hF;refine l_nil ?_;replace hF:=hF.ks [0,1,5,7,8,9,16] rfl;refine t_n<|c_f hF rfl<|wp_skip<|b_n<|t_n<|c_r<|pv hF hW (y_add hF rfl rfl (IntWalk.i64_in _ Om)) fun a hF=>?_;replace hF:=hF.drop 8;refine pv hF hW (y_move hF rfl) fun a hF=>l_nil ?_;replace hF:=hF.ks [0,1,5,7,8,9,16] rfl;refine t_n ?_;refine⟨(k+1),?_,?_,?_,?_⟩
   ·exact⟨by omega,fun i hi=>by rcases Nat.lt_or_ge i k with h|h;exact hno i h;(have hik:i=k:=by omega);rw[hik];omega⟩
   ·first|omega|(dsimp only;omega)
   ·exact Fr.app (Fr.cons hF (t:=8) rfl Rf (Fr.nil hF)) (hF.ks [0,1,7] rfl)
   ·exact hW
 ·intro h1 hF;refine l_nil<|t_n<|c_s<|c_f hF rfl<|wp_exit<|t_x<|t_x<|b_h<|t_n<|c_sr<|pv hF hW (y_assign hF rfl) fun a hF=>l_nil<|t_n<|wp_ret<|ret1 Tryz.results101 hF (rv_t hF rfl) ?_
  exact⟨⟨_,rfl,by rw[decide_eq_false (show¬(0:Int)≤ -1 by omega),decide_eq_false];intro hm;obtain⟨i,hi,he⟩:=List.mem_iff_getElem.1 hm;exact hno i Om (by rw[List.getD,List.getElem?_eq_getElem hi];exact he)⟩,hW.below⟩
theorem contains_any{A:Option Addr}{n c:Nat}{l:List Int}{w:World}(h:Ints w (.slice A n c) l)(x:Int):
  Calls Tryz.prog 87 #[.slice A n c,.int .i64 x] w fun e w'=>e=.returned (.bool (decide (x∈l)))∧Below w.heap.size w w':=by
 refine enter Tryz.func87 rfl Tryz.ntmps87 rfl fun a hF=>?_
 have hW:=Wd.start w NoB
 refine c_sr<|pv hF hW (y_assign hF rfl) fun a hF=>l_nil<|t_n<|c_sr<|pv hF hW (y_move hF rfl) fun a hF=>pv hF hW (y_move hF rfl) fun a hF=>?_;refine pe (e_call hF rfl rfl en_101 Rl rfl rfl (index_any (h.below hW.below) x) ?_);rintro e w1 ⟨⟨r,rfl,hr⟩,hb⟩;replace hW:=hW.kept hb;clear hb;refine⟨_,rfl,fun a hF=>?_⟩;refine pv hF hW (y_geq hF rfl rfl) fun a hF=>?_;replace hF:=hF.drop 4;refine pv hF hW (y_assign hF rfl) fun a hF=>l_nil ?_;replace hF:=hF.ks [0,1,4] rfl;refine t_n<|wp_ret<|ret1 Tryz.results87 hF (rv_t hF rfl) ?_
 exact⟨by rw[←hr],hW.below⟩
def pickOp(op:Int)(out:List Int)(i:Ins):List Int:=if i.op=op∧i.n∉out then out++[i.n] else out
def namedOf(op:Int)(l:List Ins):List Int:=sorted (l.foldl (pickOp op) [])
theorem foldl_take{α β:Type}(f:β→α→β)(b:β)(d:α){l:List α}{k:Nat}(hk:k<l.length):(l.take (k+1)).foldl f b=f ((l.take k).foldl f b) (l.getD k d):=by
 rw[List.take_add_one,List.foldl_append,List.getD,List.getElem?_eq_getElem hk]
 rfl
theorem pick_yes{op:Int}{out:List Int}{i:Ins}(h1:i.op=op)(h2:i.n∉out):pickOp op out i=out++[i.n]:=if_pos ⟨h1,h2⟩
theorem pick_no{op:Int}{out:List Int}{i:Ins}(h:i.op=op→i.n∈out):pickOp op out i=out:=if_neg fun h2=>h2.2 (h h2.1)
theorem mem_picks{op m:Int}:∀(l:List Ins) (acc:List Int),m∈l.foldl (pickOp op) acc↔m∈acc∨∃i,i∈l∧i.op=op∧i.n=m
 |[],acc=>by simp
 |i::r,acc=>by
  rw[List.foldl_cons,mem_picks r]
  have key:m∈pickOp op acc i↔m∈acc∨(i.op=op∧i.n=m):=by
   unfold pickOp
   split
   ·rename_i h
    rw[List.mem_append,List.mem_singleton]
    exact⟨fun h2=>h2.elim .inl fun e=>.inr ⟨h.1,e.symm⟩,fun h2=>h2.elim .inl fun e=>.inr e.2.symm⟩
   ·rename_i h
    refine⟨.inl,fun h2=>h2.elim id fun e=>?_⟩
    by_cases hm:i.n∈acc
    ·rw[e.2] at hm;exact hm
    ·exact absurd ⟨e.1,hm⟩ h
  rw[key]
  constructor
  ·rintro((h|h)|⟨j,hj,h⟩)
   ·exact .inl h
   ·exact .inr ⟨i,List.mem_cons_self,h⟩
   ·exact .inr ⟨j,List.mem_cons_of_mem _ hj,h⟩
  ·rintro(h|⟨j,hj,h⟩)
   ·exact .inl (.inl h)
   ·rcases List.mem_cons.1 hj with rfl|hj
    ·exact .inl (.inr h)
    ·exact .inr ⟨j,hj,h⟩
theorem mem_namedOf{op m:Int}{l:List Ins}:m∈namedOf op l↔∃i,i∈l∧i.op=op∧i.n=m:=by
 unfold namedOf
 rw[mem_sorted,mem_picks]
 simp
def namesOr(op:Int)(l:List Ins):List Int:=if chkCode l=0 then namedOf op l else []
theorem namesOr_ok{op:Int}{l:List Ins}(h:chkCode l=0):namesOr op l=namedOf op l:=if_pos h
theorem namesOr_no{op:Int}{l:List Ins}(h:chkCode l≠0):namesOr op l=[]:=if_neg h
def IntsErr(w:World)(r:List Int)(x:Int)(e:Ending)(w':World):Prop:=
 ∃A c,e=.returned (.tuple #[.slice A r.length c,.int .i64 x])∧Below w.heap.size w w'∧OwnRes w w' (fun u=>Ints u (.slice A r.length c) r)
theorem ints_row{w:World}{base:Nat}{T:TypeId}{v:Value}{m:Nat}{l:List Int}(h:w.ownsRow base T 1 v m (l.map (.int .i64)))(hm:l.length=m):Ints w v l:=by
 subst hm
 exact Ints.of_own h
theorem named_any{A:Option Addr}{n c:Nat}{l:List Ins}{w:World}(h:Code_ w (.slice A n c) l)(op:Int):
  Calls Tryz.prog 96 #[.slice A n c,.int .i64 op] w (IntsErr w (namesOr op l) (chkCode l)):=by
 have hl:=h.len
 unfold maxLen at hl
 have hR:=h.rf Ins.cells_len I0
 refine enter Tryz.func96 rfl Tryz.ntmps96 rfl fun a hF=>?_
 have hW:=Wd.start w NoB
 refine c_sr<|pv hF hW (y_assign hF rfl) fun a hF=>pv hF hW (y_assign hF rfl) fun a hF=>l_nil<|t_n<|c_s<|c_sr<|pv hF hW (y_move hF rfl) fun a hF=>?_;refine pe (e_call hF rfl rfl en_68 Rl rfl rfl (codeCheck_any _ _ _ (h.below hW.below)) ?_);rintro e w1 ⟨rfl,hb⟩;replace hW:=hW.kept hb;clear hb;refine⟨_,rfl,fun a hF=>?_⟩;refine pv hF hW (y_assign hF rfl) fun a hF=>l_nil ?_;replace hF:=hF.ks [0,1,4,5,6] rfl;refine t_n<|c_sr<|pv hF hW (y_move hF rfl) fun a hF=>pv hF hW (y_neq hF rfl rfl) fun a hF=>?_;refine Fr.splitD hF ?_ ?_
 ·intro h1 hF;refine l_nil ?_;replace hF:=hF.ks [0,1,4,5,6,13] rfl;refine t_n<|c_t hF rfl<|c_sr<|pv hF hW (y_move hF rfl) fun a hF=>?_;replace hF:=hF.drop 4;refine pv hF hW (y_assign hF rfl) fun a hF=>?_;replace hF:=hF.drop 5;refine pv hF hW (y_assign hF rfl) fun a hF=>l_nil ?_;replace hF:=hF.ks [0,1,4,5,6,13] rfl;refine t_n<|wp_ret<|t_r<|ret2 Tryz.results96 hF (rv_t hF rfl) (rv_t hF rfl) ?_
  exact⟨none,0,by rw[namesOr_no Am];rfl,hW.below,fun _ _=>by rw[namesOr_no Am];exact Ints.nil_⟩
 ·intro h1 hF;refine l_nil ?_;replace hF:=hF.ks [0,1,4,5,6,13] rfl;refine t_n<|c_f hF rfl<|wp_skip<|t_n ?_
  have h20:=(chkCode_all (show chkCode l=0 by omega)).1.2
  refine c_sr<|pv hF hW (y_assign hF rfl) fun a hF=>l_nil<|t_n<|c_s<|c_sr<|pv hF hW (y_move hF rfl) fun a hF=>pv hF hW (y_len hF rfl Tryz.underlying47) fun a hF=>pv hF hW (y_move hF rfl) fun a hF=>l_nil<|t_n<|wp_block ?_;replace hW:=hW.nil_row 3 1;refine c_loop (G:=Nat×Nat×List Int×Option Addr×Nat) (fun(gq:Nat×Nat×List Int×Option Addr×Nat)=>match gq with|⟨k,m,out,A',c'⟩=>[(17,.int .i64 (k:Int)),(7,.slice A' m c')]) (fun(gq:Nat×Nat×List Int×Option Addr×Nat)=>match gq with|⟨k,m,out,A',c'⟩=>[.row 3 1 (.slice A' m c') m (out.map (.int .i64))]) (fun(gq:Nat×Nat×List Int×Option Addr×Nat)=>match gq with|⟨k,m,out,A',c'⟩=>k≤n∧out=(l.take k).foldl (pickOp op) []∧out.length=m∧m≤k) (fun(gq:Nat×Nat×List Int×Option Addr×Nat)=>match gq with|⟨k,m,out,A',c'⟩=>n - k) (0,0,[],none,0) (hF.ks [0,1,4,5,6,13,15,16] rfl) (Fr.cons hF (t:=17) rfl Rg (Fr.cons hF (t:=7) rfl Rg (Fr.nil hF))) (hW) ?_ ?_
  ·exact⟨by omega,by simp,by simp,by omega⟩
  clear hF hW
  try clear a
  intro gq a wc hC hF hW
  obtain⟨k,m,out,A',c'⟩:=gq
  dsimp only at hC
  obtain⟨hk,hout,hm,hol⟩:=hC
  refine c_sr<|pv hF hW (y_lss hF rfl rfl) fun a hF=>?_;refine Fr.splitD hF ?_ ?_
  ·intro h2 hF;refine l_nil<|t_n<|c_s<|c_t hF rfl<|wp_skip<|t_n<|c_s<|wp_block<|c_sr<|pv hF hW (y_indexS hF rfl rfl Od Tryz.underlying47 sz_51 (fun w h=>(hR).wd h)) fun a hF=>pv hF hW (y_loadRowW hF rfl (fun w h=>(hR).wd h) Od Tryz.underlying51 rfl sz_51) fun a hF=>?_;refine pe (e_alloc hF hW ze_51 rfl rfl rfl ?_);intro b3 a wc hF hW;refine pe (e_storeAll rfl hF hW rfl rfl 0 rfl rfl rfl Kr sz_51 ?_);intro wc hW;refine l_nil ?_;replace hF:=hF.ks [0,1,4,5,6,7,9,13,15,16,17,18] rfl;refine t_n<|c_sr<|pv hF hW (y_fieldOwn hF rfl fa_51_0) fun a hF=>pv hF hW (y_loadOwn hF rfl 0 rfl rfl Tryz.underlying3 rfl) fun a hF=>pv hF hW (y_move hF rfl) fun a hF=>pv hF hW (y_eql hF rfl rfl) fun a hF=>?_;refine Fr.splitD hF ?_ ?_
   ·intro h4 hF;refine pv hF hW (y_move hF rfl) fun a hF=>pvg hF hW (y_move hF rfl) (ws hF rfl rfl) fun a hF=>pvg hF hW (y_fieldOwn hF rfl fa_51_3) (ws hF rfl rfl) fun a hF=>pvg hF hW (y_loadOwn hF rfl 0 rfl rfl Tryz.underlying3 rfl) (ws hF rfl rfl) fun a hF=>?_;refine pe (e_call hF rfl rfl en_87 Rl rfl rfl (contains_any (ints_row (hW.row 1 rfl) hm) _) ?_) (ws hF rfl rfl);rintro e w1 ⟨rfl,hb⟩;replace hW:=hW.kept hb;clear hb;refine⟨_,rfl,fun a hF=>?_⟩;refine Fr.splitB hF ?_ ?_
    ·intro h5 hF;refine pvg hF hW (y_not hF rfl) (ws hF rfl rfl) fun a hF=>?_;replace hF:=hF.ff;refine pv hF hW (y_pick hF rfl rfl) fun a hF=>?_;replace hF:=hF.ff;refine l_nil ?_;replace hF:=hF.ks [0,1,4,5,6,7,9,13,15,16,17,18,31] rfl;refine t_n<|c_f hF rfl<|wp_skip<|b_n<|t_n<|c_r<|pv hF hW (y_add hF rfl rfl (IntWalk.i64_in _ Om)) fun a hF=>?_;replace hF:=hF.drop 17;refine pv hF hW (y_move hF rfl) fun a hF=>l_nil ?_;replace hF:=hF.ks [0,1,4,5,6,7,9,13,15,16,17,18,31] rfl;replace hW:=hW.del 0 rfl;refine t_n ?_;refine⟨(k+1,m,out,A',c'),?_,?_,?_,?_⟩
     ·exact⟨by omega,by rw[foldl_take _ _ I0 Om,←hout,pick_no fun _=>of_decide_eq_true Am],hm,by omega⟩
     ·first|omega|(dsimp only;omega)
     ·exact Fr.app (Fr.cons hF (t:=17) rfl Rf (Fr.cons hF (t:=7) rfl Rf (Fr.nil hF))) (hF.ks [0,1,4,5,6,13,15,16] rfl)
     ·exact hW
    ·intro h5 hF;refine pvg hF hW (y_not hF rfl) (ws hF rfl rfl) fun a hF=>?_;replace hF:=hF.tt;refine pv hF hW (y_pick hF rfl rfl) fun a hF=>?_;replace hF:=hF.tt;refine l_nil ?_;replace hF:=hF.ks [0,1,4,5,6,7,9,13,15,16,17,18,31] rfl;refine t_n<|c_t hF rfl<|c_r<|pv hF hW (y_move hF rfl) fun a hF=>pv hF hW (y_fieldOwn hF rfl fa_51_3) fun a hF=>pv hF hW (y_loadOwn hF rfl 0 rfl rfl Tryz.underlying3 rfl) fun a hF=>?_;refine pe (e_buildSlice hF hW rfl (fun w=>bs_CodeNm_40_1_0 _ w) rfl rfl rfl ?_);intro b6 a wc hF hW;refine pe (e_append hF hW 2 rfl rfl rfl Tryz.underlying40 inf_3 rfl Dc (rowAt_blk (hW.blk 0 rfl) 1 1 rfl) Oc (show _=m+1 by omega) (show _=(out++[(l.getD k I0).n]).map (.int .i64) by simp) Ox Ml rfl rfl ?_);intro A7 c8 a wc hF hW;replace hF:=hF.drop 7;refine pv hF hW (y_assign hF rfl) fun a hF=>l_nil ?_;replace hF:=hF.ks [0,1,4,5,6,7,9,13,15,16,17,18,31] rfl;refine b_n<|t_n<|c_r<|pv hF hW (y_add hF rfl rfl (IntWalk.i64_in _ Om)) fun a hF=>?_;replace hF:=hF.drop 17;refine pv hF hW (y_move hF rfl) fun a hF=>l_nil ?_;replace hF:=hF.ks [0,1,4,5,6,7,9,13,15,16,17,18,31] rfl;replace hW:=hW.del 0 rfl;replace hW:=hW.del 0 rfl;refine t_n ?_;refine⟨(k+1,m+1,out++[(l.getD k I0).n],A7,c8),?_,?_,?_,?_⟩
     ·exact⟨by omega,by rw[foldl_take _ _ I0 Om,←hout,pick_yes Am (of_decide_eq_false Am)],by simp[hm],by omega⟩
     ·first|omega|(dsimp only;omega)
     ·exact Fr.app (Fr.cons hF (t:=17) rfl Rf (Fr.cons hF (t:=7) rfl Rf (Fr.nil hF))) (hF.ks [0,1,4,5,6,13,15,16] rfl)
     ·exact hW
   ·intro h4 hF;refine pv hF hW (y_move hF rfl) fun a hF=>pk hF (wn hF rfl rfl rfl) fun a hF=>pk hF (wn hF rfl rfl rfl) fun a hF=>pk hF (wn hF rfl rfl rfl) fun a hF=>pk hF (wn hF rfl rfl rfl) fun a hF=>pk hF (wn hF rfl rfl rfl) fun a hF=>pv hF hW (y_pick hF rfl rfl) fun a hF=>l_nil ?_;replace hF:=hF.ks [0,1,4,5,6,7,9,13,15,16,17,18,31] rfl;refine t_n<|c_f hF rfl<|wp_skip<|b_n<|t_n<|c_r<|pv hF hW (y_add hF rfl rfl (IntWalk.i64_in _ Om)) fun a hF=>?_;replace hF:=hF.drop 17;refine pv hF hW (y_move hF rfl) fun a hF=>l_nil ?_;replace hF:=hF.ks [0,1,4,5,6,7,9,13,15,16,17,18,31] rfl;replace hW:=hW.del 0 rfl;refine t_n ?_;refine⟨(k+1,m,out,A',c'),?_,?_,?_,?_⟩
    ·exact⟨by omega,by rw[foldl_take _ _ I0 Om,←hout,pick_no fun h=>absurd h Am],hm,by omega⟩
    ·first|omega|(dsimp only;omega)
    ·exact Fr.app (Fr.cons hF (t:=17) rfl Rf (Fr.cons hF (t:=7) rfl Rf (Fr.nil hF))) (hF.ks [0,1,4,5,6,13,15,16] rfl)
    ·exact hW
  ·intro h2 hF;refine l_nil<|t_n<|c_s<|c_f hF rfl<|wp_exit<|t_x<|t_x<|b_h<|t_n<|c_sr<|pv hF hW (y_move hF rfl) fun a hF=>?_;refine pe (e_call hF rfl rfl en_88 Rl rfl rfl (sort_own hW 0 Om rfl) ?_);rintro e w1 ⟨rfl,hW⟩;refine⟨_,rfl,fun a hF=>?_⟩;refine l_nil ?_;replace hF:=hF.ks [0,1,4,5,6,7,13,15,16,17,18] rfl;refine t_n<|c_sr<|pv hF hW (y_move hF rfl) fun a hF=>?_;replace hF:=hF.drop 4;refine pv hF hW (y_assign hF rfl) fun a hF=>?_;replace hF:=hF.drop 5;refine pv hF hW (y_assign hF rfl) fun a hF=>l_nil ?_;replace hF:=hF.ks [0,1,4,5,6,7,13,15,16,17,18] rfl;refine t_n<|wp_ret<|ret2 Tryz.results96 hF (rv_t hF rfl) (rv_t hF rfl) ?_
   obtain rfl:k=n:=Om
   subst hm
   have e:namesOr op l=sorted out:=(by rw[namesOr_ok Om,hout,List.take_of_length_le Om];rfl)
   unfold IntsErr
   rw[e,sorted_len]
   exact⟨A',c',by rw[show chkCode l=0 by omega],hW.below,(OwnRes.of_own (hW.row_own 0 rfl)).mono fun _ h=>by have:=Ints.of_own h;exact this⟩
theorem puts_any{A:Option Addr}{n c:Nat}{l:List Ins}{w:World}(h:Code_ w (.slice A n c) l):
  Calls Tryz.prog 75 #[.slice A n c] w (IntsErr w (namesOr 12 l) (chkCode l)):=by
 refine enter Tryz.func75 rfl Tryz.ntmps75 rfl fun a hF=>?_
 have hW:=Wd.start w NoB
 refine c_sr<|pv hF hW (y_assign hF rfl) fun a hF=>pv hF hW (y_assign hF rfl) fun a hF=>l_nil<|t_n<|c_sr<|pv hF hW (y_move hF rfl) fun a hF=>?_;refine pe (e_call hF rfl rfl en_96 Rl rfl rfl (named_any (h.below hW.below) 12) ?_);rintro e w1 ⟨A',c',rfl,hb,hr⟩;replace hW:=hW.gotR hb hr;refine⟨_,rfl,fun a hF=>?_⟩;refine pv hF hW (y_extract hF rfl rfl) fun a hF=>pv hF hW (y_extract hF rfl rfl) fun a hF=>?_;replace hF:=hF.drop 2;refine pv hF hW (y_assign hF rfl) fun a hF=>?_;replace hF:=hF.drop 3;refine pv hF hW (y_assign hF rfl) fun a hF=>l_nil ?_;replace hF:=hF.ks [0,2,3] rfl;refine t_n<|wp_ret<|ret2 Tryz.results75 hF (rv_t hF rfl) (rv_t hF rfl) ?_
 exact⟨A',c',rfl,hW.below,hW.res_res 0 rfl⟩
theorem gets_any{A:Option Addr}{n c:Nat}{l:List Ins}{w:World}(h:Code_ w (.slice A n c) l):
  Calls Tryz.prog 76 #[.slice A n c] w (IntsErr w (namesOr 13 l) (chkCode l)):=by
 refine enter Tryz.func76 rfl Tryz.ntmps76 rfl fun a hF=>?_
 have hW:=Wd.start w NoB
 refine c_sr<|pv hF hW (y_assign hF rfl) fun a hF=>pv hF hW (y_assign hF rfl) fun a hF=>l_nil<|t_n<|c_sr<|pv hF hW (y_move hF rfl) fun a hF=>?_;refine pe (e_call hF rfl rfl en_96 Rl rfl rfl (named_any (h.below hW.below) 13) ?_);rintro e w1 ⟨A',c',rfl,hb,hr⟩;replace hW:=hW.gotR hb hr;refine⟨_,rfl,fun a hF=>?_⟩;refine pv hF hW (y_extract hF rfl rfl) fun a hF=>pv hF hW (y_extract hF rfl rfl) fun a hF=>?_;replace hF:=hF.drop 2;refine pv hF hW (y_assign hF rfl) fun a hF=>?_;replace hF:=hF.drop 3;refine pv hF hW (y_assign hF rfl) fun a hF=>l_nil ?_;replace hF:=hF.ks [0,2,3] rfl;refine t_n<|wp_ret<|ret2 Tryz.results76 hF (rv_t hF rfl) (rv_t hF rfl) ?_
 exact⟨A',c',rfl,hW.below,hW.res_res 0 rfl⟩
end
end Go.Proofs.YtndcjmopebcdgaaGreat
