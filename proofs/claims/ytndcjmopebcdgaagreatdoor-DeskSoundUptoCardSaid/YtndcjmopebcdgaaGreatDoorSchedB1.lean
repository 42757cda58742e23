/- sched.slots: a loop over the slots of a system. sched.Frame and sched.Who: what they tell. The reference's turns, FrameOf and WhoOf; what Frame and Who tell, by them. schedBegun; choose; what is so of turns, in plain words. -/
import Derived.RangeFuncNested
import Derived.RangeFuncBound
import Derived.RangeFuncCalls
import Derived.RangeFuncLeaves
import Derived.Shelf.Abstract
import Derived.Shelf.RegionOpen
import Derived.WalkKit
import Derived.OwnWalkIn
import Derived.TacticsInMore
import Derived.LoopNIn
import Derived.LoopIn
import Derived.Test.YtndcjmopebcdgaaGreatDoorConfC1
import Derived.Test.YtndcjmopebcdgaaGreatDoorSkE
import Derived.Test.YtndcjmopebcdgaaGreatDoorConfD1
set_option linter.unusedSimpArgs false
set_option linter.unusedVariables false
namespace Go.Proofs.YtndcjmopebcdgaaGreatDoor
section
open Go.RowKit Go.Shelf
attribute [local go_sem] Oper.semAt_some
set_option maxRecDepth 100000
def tick0(ss:List Slt)(k:Nat):Int:=((ss.take k).map Slt.ticks).sum
theorem tick0_zero(ss:List Slt):tick0 ss 0=0:=rfl
theorem tick0_succ{ss:List Slt}{k:Nat}(hk:k<ss.length):tick0 ss (k+1)=tick0 ss k+(ss.getD k S0).ticks:=by
 unfold tick0
 rw[List.take_add_one,List.getElem?_eq_getElem hk,List.getD,List.getElem?_eq_getElem hk,List.map_append,List.sum_append]
 simp
def slotAt(ss:List Slt)(k:Nat):Int×Slt:=(tick0 ss k,ss.getD k S0)
def slotsTo(ss:List Slt)(k:Nat):List (Int×Slt):=(List.range k).map (slotAt ss)
theorem slotsTo_succ(ss:List Slt)(k:Nat):slotsTo ss (k+1)=slotsTo ss k++[slotAt ss k]:=by simp[slotsTo,List.range_succ]
theorem slotsTo_len(ss:List Slt)(k:Nat):(slotsTo ss k).length=k:=by simp[slotsTo]
def encS(x:Int×Slt):Array Value:=#[.int .i64 x.1,.agg #[.int .i64 x.2.part,.int .i64 x.2.ticks]]
structure KpX(X:Nat→Prop)(A B:World):Prop where
 os:B.os=A.os
 tape:B.tape=A.tape
 output:B.output=A.output
 size:A.heap.size≤B.heap.size
 block:∀k o,¬X k→A.heap[k]?=some o→o.isCells=true→B.heap[k]?=some o
section
variable {X:Nat→Prop} {A B C:World}
theorem KpX.refl(X:Nat→Prop)(A:World):KpX X A A:=⟨rfl,rfl,rfl,Nat.le_refl _,fun _ _ _ h _=>h⟩
theorem KpX.trans(h:KpX X A B)(k:KpX X B C):KpX X A C:=⟨k.os.trans h.os,k.tape.trans h.tape,k.output.trans h.output,Nat.le_trans h.size k.size,fun i o hX hi ho=>k.block i o hX (h.block i o hX hi ho) ho⟩
theorem KpX.of_below(h:Below A.heap.size A B):KpX X A B:=⟨h.os,h.tape,h.output,h.size,fun k o _ hk _=>(h.block k (Array.getElem?_eq_some_iff.1 hk).1).trans hk⟩
theorem KpX.alloc(h:KpX X A B)(o:Obj):KpX X A (B.alloc o):=h.trans (KpX.of_below ((Below.refl _ _).alloc (Nat.le_refl _) o))
theorem KpX.put(W:World)(l:Nat)(o o':Obj)(h:W.heap[l]?=some o)(hc:o.isCells=false):KpX X W (W.putObj l o'):=
 ⟨rfl,rfl,rfl,by simp,fun k u _ hk hu=>by
  rw[World.putObj_heap_other (by rintro rfl;rw[h] at hk;cases hk;rw[hc] at hu;cases hu)]
  exact hk⟩
theorem KpX.set(h:KpX X A B){p:Addr}(hp:X p.block)(v:Value):KpX X A (B.setCell p v):=
 h.trans ⟨rfl,rfl,rfl,by simp,fun k o hX hk _=>by
  have hne:k≠p.block:=fun e=>hX (by rw[e];exact hp)
  rw[Below.heap_setCell _ _ _ _ (by first|exact hne|exact hne.symm)]
  exact hk⟩
theorem cells_of_cell{p:Addr}{u:Value}(h:A.cell? p=some u):∃o,A.heap[p.block]?=some o∧o.isCells=true:=by
 have hl:=World.block_lt_of_cell? A p h
 refine⟨A.heap[p.block],Array.getElem?_eq_getElem hl,?_⟩
 cases ho:A.heap[p.block] with
 |cells c e f=>rfl
 |_=>
  have h2:A.heap[p.block]?=some _:=(Array.getElem?_eq_getElem hl).trans (congrArg some ho)
  unfold World.cell? at h
  rw[h2] at h
  revert h
  cases p.spot<;>simp
theorem KpX.cell(h:KpX X A B){p:Addr}{u:Value}(hX:¬X p.block)(hc:A.cell? p=some u):B.cell? p=some u:=by
 obtain⟨o,ho,hco⟩:=cells_of_cell hc
 exact(World.cell?_of_block (w:=A) ((h.block _ _ hX ho hco).trans ho.symm)).trans hc
end
set_option maxHeartbeats 4000000 in
theorem slots1_in(n:Nat)(hn:1≤n)(l Bs b off cap len:Nat)(X:Nat→Prop)(ss:List Slt)(hlen:len=ss.length)(hsum:∀k,k≤len→0≤tick0 ss k∧tick0 ss k≤1000)(hl6:len≤1000)(J Jx:List (Int×Slt)→World→Prop)
  (hJ:∀pre W o,J pre W→J pre (W.alloc o))
  (hY:∀pre x W,J pre W→pre.length<len→YieldAt Fence.wide (n - 1) Tryz.prog l (encS x) W fun e W'=>
   (e=.returned (.bool true)∧J (pre++[x]) W'∧KpX X W W')∨(e=.returned (.bool false)∧Jx (pre++[x]) W'))
  (W:World) (hXb:¬X b) (hXs:¬X Bs) (hXn:∀k,X k→k<W.heap.size) (hBs:W.cell? ⟨Bs,2,none⟩=some (.slice (some ⟨b,off,none⟩) len cap)) (hc:∀j,j<len→W.cell? ⟨b,off+j*2,none⟩=some (.int .i64 (ss.getD j S0).part)∧W.cell? ⟨b,off+j*2+1,none⟩=some (.int .i64 (ss.getD j S0).ticks)) (h0:J [] W):
  CallsIn Fence.wide n Tryz.prog 171 #[.func (.yield l) #[] #[],.pointer (some ⟨Bs,0,none⟩)] W fun e W'=>(∃v,e=.returned v)∧
   ((∃ys,ys=slotsTo ss len∧J ys W')∨(∃pre,(∃k,k≤len∧pre=slotsTo ss k)∧Jx pre W')):=by
 refine callsIn_of_wp Tryz.func171 rfl trivial ?_ rfl
 simp only[Tryz.ntmps171,List.size_toArray,List.length_cons,List.length_nil,Nat.reduceAdd,Nat.reduceSub,Array.replicate_succ,Array.replicate_zero,List.push_toArray,List.append_toArray,List.nil_append,List.cons_append]
 gi_wp2
 gi_loopw [3,9] (fun t i wr=>∃k:Nat,k≤len∧t=.int .i64 (tick0 ss k)∧i=.int .i64 k∧J (slotsTo ss k) wr∧KpX X W wr)
  (fun _ i _=>len - (intOf i).toNat)
 case atStart=>exact⟨0,Nat.zero_le _,rfl,rfl,h0,KpX.refl _ _⟩
 case round=>
  obtain⟨k,hk,rfl,rfl,hJs',hnx⟩:=hrel
  by_cases hlt:k<len
  ·have hcx:=hc k hlt
   have hc0:=hnx.cell (p:=⟨b,off+k*2,none⟩) hXb hcx.1
   have hc1:=hnx.cell (p:=⟨b,off+k*2+1,none⟩) hXb hcx.2
   have hx:slotAt ss k=(tick0 ss k,ss.getD k S0):=rfl
   have hsucc:=tick0_succ (ss:=ss) (k:=k) Om
   have hs1:=hsum (k+1) Om
   have hrd:=hY (slotsTo ss k) (slotAt ss k)
   rw[hx] at hrd
   have hsl:=slotsTo_succ ss k
   rw[hx] at hsl
   generalize ss.getD k S0=y at*
   obtain⟨pp,tk⟩:=y
   generalize tick0 ss k=t at*
   generalize ht':tick0 ss (k+1)=t' at*
   dsimp only at*
   have hw:IntKind.i64.wrap (t+tk)=t':=by rw[IntWalk.i64_in _ Om,hsucc]
   have hsz:=hnx.size
   obtain⟨fn,tmps,assign,body,hy,hR⟩:=hrd (wr.alloc (.cells #[.int .i64 pp,.int .i64 tk] 123)) (hJ _ _ _ hJs') (by rw[slotsTo_len];exact hlt)
   simp only[encS] at hy
   gi_wp2
   refine hR.mono ?_
   rintro e W3 (⟨rfl,hJ3,hk3⟩|⟨rfl,hJx3⟩)
   ·have hc5:W3.cell? ⟨wr.heap.size,1,none⟩=some (.int .i64 tk):=hk3.cell (p:=⟨wr.heap.size,1,none⟩) (fun h=>by have:=hXn _ h;dsimp only at this;omega) ((Blk.new wr #[.int .i64 pp,.int .i64 tk] 123).cell 1)
    gi_wp2
    go_roundw
    case rel=>exact⟨k+1,by omega,by rw[ht'];simp;exact hsucc.symm,by simp,by rw[hsl];exact hJ3,(hnx.alloc _).trans hk3⟩
    case measure=>simp[intOf];omega
   ·gi_wp2
    refine bodyPost_ret (results_none rfl _ _ _) rfl ?_
    exact⟨⟨_,rfl⟩,.inr ⟨_,⟨k+1,by omega,hsl.symm⟩,hJx3⟩⟩
  ·obtain rfl:k=len:=by omega
   gi_wp2
   go_end0
   exact⟨⟨_,rfl⟩,.inl ⟨_,rfl,hJs'⟩⟩
theorem slots1_stops(n:Nat)(hn:1≤n){Bs b off cap len:Nat}{T:TypeId}{v1 v2:Value}{X:Nat→Prop}{ss:List Slt}{w:World}(hlen:len=ss.length)(hsum:∀k,k≤len→0≤tick0 ss k∧tick0 ss k≤1000)(hl6:len≤1000)(hXb:¬X b)(hXs:¬X Bs)(hXn:∀k,X k→k<w.heap.size)
  (hB:Blk w Bs T [v1,v2,.slice (some ⟨b,off,none⟩) len cap]) (hR:RF w (some ⟨b,off,none⟩) len 2 (fun k=>Slt.cells (ss.getD k S0))):
  SeqStopsK Fence.wide n Tryz.prog 171 #[.pointer (some ⟨Bs,0,none⟩)] encS (KpX X) (fun ys=>ys=slotsTo ss len) (fun pre=>∃k,k≤len∧pre=slotsTo ss k) len w:=fun l J Jx W hW hJ hJx hY h0=>by
 have hBs:=(hB.kept hW).cell 2
 refine slots1_in n hn l Bs b off cap len X ss hlen hsum hl6 J Jx (fun pre W o h=>hJ pre W _ none h (World.grownBy_alloc W o none) (fun r e=>by cases e)) hY W hXb hXs (fun k hk=>Nat.lt_of_lt_of_le (hXn k hk) hW.size) hBs (fun j hj=>?_) h0
 have:=(hR.below hW Om).2 j hj
 have h1:=this 0 _ rfl
 have h2:=this 1 _ rfl
 simp only[adr,Option.getD_some,add_own,Nat.add_assoc] at h1 h2
 exact⟨h1,by rw[Nat.add_assoc];exact h2⟩
theorem slots_in(n:Nat)(v1 v2 v3:Value)(w:World):CallsIn Fence.wide n Tryz.prog 136 #[.agg #[v1,v2,v3]] w fun e w'=>e=.returned (.func (.func 171) #[] #[.pointer (some ⟨w.heap.size,0,none⟩)])∧w'=w.alloc (.cells #[v1,v2,v3] 39):=by
 refine callsIn_of_wp Tryz.func136 rfl trivial ?_ rfl
 simp only[Tryz.ntmps136,List.size_toArray,List.length_cons,List.length_nil,Nat.reduceAdd,Nat.reduceSub,Array.replicate_succ,Array.replicate_zero,List.push_toArray,List.append_toArray,List.nil_append,List.cons_append]
 gi_wp2
 go_ret
 exact⟨rfl,rfl⟩
theorem cell_alloc_l{W:World}(o:Obj){p:Addr}{v:Value}(h:W.cell? p=some v):(W.alloc o).cell? p=some v:=cell_below ((Below.refl _ _).alloc1 _) h
theorem frozen_alloc_l{W:World}(o:Obj){p:Addr}{v:Value}(h:W.cell? p=some v)(hf:W.frozen? p=false):(W.alloc o).frozen? p=false:=by
 have hb:=((Below.refl W.heap.size W).alloc1 o).block p.block (World.block_lt_of_cell? W p h)
 unfold World.frozen? at hf⊢
 rw[hb]
 exact hf
def lastEnd(pre:List (Int×Slt)):Int:=match pre.getLast? with
 |none=>0
 |some x=>wrap64 (x.1+x.2.ticks)
theorem lastEnd_snoc(pre:List (Int×Slt))(x:Int×Slt):lastEnd (pre++[x])=wrap64 (x.1+x.2.ticks):=by simp[lastEnd]
theorem lastEnd_all{ss:List Slt}{k:Nat}(hpos:0<k)(hk:k≤ss.length)(hsum:∀k,k≤ss.length→0≤tick0 ss k∧tick0 ss k≤1000):lastEnd (slotsTo ss k)=tick0 ss k:=by
 obtain⟨m,rfl⟩:∃m,k=m+1:=⟨k - 1,by omega⟩
 have h1:=hsum (m+1) hk
 rw[slotsTo_succ,lastEnd_snoc]
 rw[tick0_succ Om] at h1⊢
 show wrap64 (tick0 ss m+(ss.getD m S0).ticks)=_
 unfold wrap64
 omega
set_option maxHeartbeats 4000000 in
theorem frame_in(n:Nat)(hn:3≤n){v1 v2:Value}{b off cap len:Nat}{ss:List Slt}{w:World}(hlen:len=ss.length)(hpos:0<len)(hsum:∀k,k≤len→0≤tick0 ss k∧tick0 ss k≤1000)(hl6:len≤1000)(hR:RF w (some ⟨b,off,none⟩) len 2 (fun k=>Slt.cells (ss.getD k S0)))(hb:b<w.heap.size):
  CallsIn Fence.wide n Tryz.prog 135 #[.agg #[v1,v2,.slice (some ⟨b,off,none⟩) len cap]] w fun e W'=>e=.returned (.int .i64 (tick0 ss len))∧Below w.heap.size w W':=by
 have h1:1≤n:=by omega
 subst hlen
 refine callsIn_of_wp_marks Tryz.func135 rfl trivial ?_ rfl
 simp only[Tryz.ntmps135,List.size_toArray,List.length_cons,List.length_nil,Nat.reduceAdd,Nat.reduceSub,Array.replicate_succ,Array.replicate_zero,List.push_toArray,List.append_toArray,List.nil_append,List.cons_append]
 gi_wp2_with (refine⟨trivial,?_⟩;gi_at_call 136;refine(slots_in (n - 1) _ _ _ _).mono ?_;rintro e w' ⟨rfl,rfl⟩)
 have hE:=(Blk.new1 w (.cells #[v1,v2,.slice (some ⟨b,off,none⟩) ss.length cap] 39) #[.int .i64 0] 3).alloc (.cells #[v1,v2,.slice (some ⟨b,off,none⟩) ss.length cap] 39)
 have hS:=Blk.new2 w (.cells #[v1,v2,.slice (some ⟨b,off,none⟩) ss.length cap] 39) (.cells #[.int .i64 0] 3) #[v1,v2,.slice (some ⟨b,off,none⟩) ss.length cap] 39
 have hB0:Below w.heap.size w (((w.alloc (.cells #[v1,v2,.slice (some ⟨b,off,none⟩) ss.length cap] 39)).alloc (.cells #[.int .i64 0] 3)).alloc (.cells #[v1,v2,.slice (some ⟨b,off,none⟩) ss.length cap] 39)):=(((Below.refl _ _).alloc1 _).alloc1 _).alloc1 _
 have hsz:(((w.alloc (.cells #[v1,v2,.slice (some ⟨b,off,none⟩) ss.length cap] 39)).alloc (.cells #[.int .i64 0] 3)).alloc (.cells #[v1,v2,.slice (some ⟨b,off,none⟩) ss.length cap] 39)).heap.size=w.heap.size+3:=by simp
 generalize (((w.alloc (.cells #[v1,v2,.slice (some ⟨b,off,none⟩) ss.length cap] 39)).alloc (.cells #[.int .i64 0] 3)).alloc (.cells #[v1,v2,.slice (some ⟨b,off,none⟩) ss.length cap] 39))=W0 at*
 refine wpIn_rangeFunc_ownH rfl h1 (gf:=171) (lb:=#[.pointer (some ⟨w.heap.size+1+1,0,none⟩)]) rfl trivial en_171
  (slots1_stops (X:=(· =w.heap.size+1)) (n - 1) Om rfl hsum hl6 Om Om (fun k hk=>by omega) hS (hR.below hB0)) KpX.trans (fun W l o o' _ h hc _=>KpX.put W l o o' h hc) (Below.refl _ _) (fun _=>rfl)
  (fun pre W=>(W.cell? ⟨w.heap.size+1,0,none⟩=some (.int .i64 (lastEnd pre))∧W.frozen? ⟨w.heap.size+1,0,none⟩=false)∧Below w.heap.size w W)
  (fun _ _ _=>False)
  (OwnFrom.and (Own.from (fun s A B row hs hg hr=>⟨cell_kept hs.1 hg hr,(frozen_kept hs.1 hg hr).trans hs.2⟩) _) (ownFrom_below (Nat.le_refl _) Om))
  (fun _ _ _ _ _ hs _ _=>hs)
  ⟨⟨hE.cell 0,hE.frozen 0⟩,hB0⟩
  (fun x a' W=>∃Bx,Bx≠w.heap.size+1∧W.cell? ⟨Bx,0,none⟩=some (.int .i64 x.2.part)∧W.cell? ⟨Bx,1,none⟩=some (.int .i64 x.2.ticks)∧a'={tmps:=#[.agg #[v1,v2,.slice (some ⟨b,off,none⟩) ss.length cap],.pointer (some ⟨w.heap.size,0,none⟩),.int .i64 0,.pointer (some ⟨w.heap.size+1,0,none⟩),.int .i64 x.1,.pointer (some ⟨Bx,0,none⟩),.agg #[v1,v2,.slice (some ⟨b,off,none⟩) ss.length cap],.func (.func 171) #[] #[.pointer (some ⟨w.heap.size+1+1,0,none⟩)],.int .i64 x.1,.agg #[.int .i64 x.2.part,.int .i64 x.2.ticks],undef,undef,undef,undef,undef],defers:=[]})
  (fun x a'=>Own.from (fun s A B row hs hg hr=>by obtain⟨Bx,h0,h1,h2,rfl⟩:=hs;exact⟨Bx,h0,cell_kept h1 hg hr,cell_kept h2 hg hr,rfl⟩) _) ?assign ?body ?done ?stop
 case assign=>
  intro l pre x W K ⟨hc,hBW⟩ hK
  have hBn:=Blk.new W #[.int .i64 x.2.part,.int .i64 x.2.ticks] 123
  have hsW:=hBW.size
  have hlt:=World.block_lt_of_cell? W _ hc.1
  simp only[encS]
  gi_wp2
  refine hK _ _ ((KeepsOthers.alloc _ _).from _) ((KpX.refl _ _).alloc _) ⟨⟨cell_alloc_l _ hc.1,frozen_alloc_l _ hc.1 hc.2⟩,hBW.alloc1 _⟩ ⟨W.heap.size,?_,hBn.cell 0,hBn.cell 1,rfl⟩
  omega
 case body=>
  rintro l pre x a' W hl hr ⟨hc,hBW⟩ ⟨Bx,hBx,c0,c1,rfl⟩ hlt
  have hc0:=hc.1
  have hc1:=hc.2
  gi_wp2
  exact⟨(KeepsOthers.setCell _ _ _).from _,(KpX.refl (fun k=>k=w.heap.size+1) W).set (p:=⟨w.heap.size+1,0,none⟩) rfl _,⟨by rw[lastEnd_snoc];exact World.cell?_setCell_same' _ _ _ (by rw[hc0];rfl),by rw[World.frozen?_setCell];exact hc1⟩,hBW.setCell (p:=⟨w.heap.size+1,0,none⟩) Si _⟩
 case done=>
  rintro D ys W hD rfl ⟨⟨hc,_⟩,hB⟩ hK
  gi_wp2
  refine⟨by simp,.inl ⟨_,_,rfl,run_takeDeferred hK,?_⟩⟩
  exact⟨_,results_tmp rfl _ _ _,by rw[lastEnd_all hpos (Nat.le_refl _) hsum];rfl,hB.trans (belowK_b (w:=w) (Nat.le_refl _) W D _ _ Om hK rfl rfl)⟩
 case stop=>
  rintro D c pre W _ _ h _
  exact h.elim
end
section
open Go.ChangeShapes Go.WideShapes Go.ChangeAt Go.RowKit Go.Shelf
attribute [local go_sem] Oper.semAt_some
set_option maxRecDepth 100000
theorem plain_addr{w:World}{p:Addr}{u:Value}(h:w.cell? p=some u):p=⟨p.block,p.off,none⟩:=by
 obtain⟨b,o,sp⟩:=p
 cases sp with
 |none=>rfl
 |some s=>
  unfold World.cell? at h
  dsimp only at h
  split at h
  ·simp at h
  ·cases h
structure Frm(x:SysD)(w:World)(b off:Nat):Prop where
 sa:x.sa=some ⟨b,off,none⟩
 lt:b<w.heap.size
 pos:0<x.slots.length
 le:x.slots.length≤1000
 sum:∀k,k≤x.slots.length→0≤tick0 x.slots k∧tick0 x.slots k≤1000
 frame:0<tick0 x.slots x.slots.length
 row:RF w (some ⟨b,off,none⟩) x.slots.length 2 (fun k=>Slt.cells (x.slots.getD k S0))
theorem tick0_le{ss:List Slt}(h:∀k,k<ss.length→1≤(ss.getD k S0).ticks∧(ss.getD k S0).ticks≤8):∀k,k≤ss.length→(k:Int)≤tick0 ss k∧tick0 ss k≤8*k
 |0,_=>by simp[tick0_zero]
 |k+1,hk=>by
  have ih:=tick0_le h k Om
  have:=h k Om
  rw[tick0_succ Om]
  omega
theorem slots_ok{x:SysD}(hk:chkSys x.sys=0){k:Nat}(h:k<x.slots.length):(0≤(x.slots.getD k S0).part∧(x.slots.getD k S0).part<x.parts.length)∧1≤(x.slots.getD k S0).ticks∧(x.slots.getD k S0).ticks≤8:=by
 have h5:=(chkSys_zero hk).2.2.2.2.1
 have:=List.all_eq_true.1 h5 _ (mem_getD (l:=x.slots) S0 h)
 simp only[sltOk,partOk,SysD.sys,List.length_map,Bool.and_eq_true] at this
 exact⟨of_decide_eq_true this.1,of_decide_eq_true this.2⟩
theorem frm_of{x:SysD}{w:World}(hx:x.At w)(hk:chkSys x.sys=0):∃b off,Frm x w b off:=by
 obtain⟨_,_,⟨h1,h2⟩,_⟩:=sizes_get (chkSys_zero hk).1
 have hR:=hx.slotsR
 obtain⟨ha,hc⟩:=hR Om
 have hcell:=hc 0 Om 0 _ rfl
 have hpl:=plain_addr hcell
 have hlt:=World.block_lt_of_cell? w _ hcell
 obtain⟨q,hq⟩:∃q,adr x.sa=q:=⟨_,rfl⟩
 rw[hq] at hcell hlt hpl ha
 obtain⟨b,off,sp⟩:=q
 have hsp:sp=none:=congrArg Addr.spot hpl
 subst hsp
 have ht:=tick0_le (ss:=x.slots) fun k hk'=>(slots_ok hk hk').2
 refine⟨b,off,ha,hlt,by omega,by omega,fun k hk'=>?_,?_,by rw[←ha];exact hR⟩
 ·have:=ht k hk';omega
 ·have:=ht _ (Nat.le_refl _);omega
theorem Frm.below{x:SysD}{w w':World}{b off:Nat}(h:Frm x w b off)(hb:Below w.heap.size w w'):Frm x w' b off:=
 ⟨h.sa,Nat.lt_of_lt_of_le h.lt hb.size,h.pos,h.le,h.sum,h.frame,h.row.below hb⟩
theorem frame_any{x:SysD}{w:World}{b off:Nat}(h:Frm x w b off):Calls Tryz.prog 135 #[x.val] w fun e w'=>e=.returned (.int .i64 (tick0 x.slots x.slots.length))∧Below w.heap.size w w':=by
 rw[x.val_eq,h.sa]
 exact callsIn_wide.1 (frame_in 5 Om rfl h.pos h.sum h.le h.row h.lt)
theorem slots_any(v1 v2 v3:Value)(w:World):Calls Tryz.prog 136 #[.agg #[v1,v2,v3]] w fun e w'=>∃B,e=.returned (.func (.func 171) #[] #[.pointer (some ⟨B,0,none⟩)])∧Wd w NoB [.blk B 39 [v1,v2,v3]] w':=
 (callsIn_wide.1 (slots_in 5 v1 v2 v3 w)).mono fun e w' ⟨he,hw⟩=>⟨_,he,hw▸(Wd.start w NoB).new #[v1,v2,v3] 39⟩
def Turn(ss:List Slt)(t:Int)(p:Int):Prop:=∃k,k<ss.length∧tick0 ss k≤t∧t<tick0 ss (k+1)∧p=(ss.getD k S0).part
theorem wrap_tick{ss:List Slt}{k:Nat}(hk:k<ss.length)(hsum:∀k,k≤ss.length→0≤tick0 ss k∧tick0 ss k≤1000):wrap64 ((slotAt ss k).1+(slotAt ss k).2.ticks)=tick0 ss (k+1):=by
 have h1:=hsum (k+1) hk
 have h2:=tick0_succ hk
 show wrap64 (tick0 ss k+(ss.getD k S0).ticks)=_
 unfold wrap64
 omega
def notYet(t:Int)(y:Int×Slt):Prop:=¬t<wrap64 (y.1+y.2.ticks)
theorem slotsTo_mem{ss:List Slt}{j k:Nat}(h:j<k):slotAt ss j∈slotsTo ss k:=List.mem_map.2 ⟨j,List.mem_range.2 h,rfl⟩
theorem turn_of{ss:List Slt}(hsum:∀k,k≤ss.length→0≤tick0 ss k∧tick0 ss k≤1000){r:Int}(h0:0≤r){k:Nat}(hk:k≤ss.length){pre:List (Int×Slt)}{y:Int×Slt}(he:slotsTo ss k=pre++[y])(hno:∀z,z∈pre→notYet r z)(hlt:r<wrap64 (y.1+y.2.ticks)):Turn ss r y.2.part:=by
 cases k with
 |zero=>simp[slotsTo] at he
 |succ j=>
  rw[slotsTo_succ] at he
  obtain⟨rfl,h2⟩:=List.append_inj' he rfl
  obtain rfl:slotAt ss j=y:=by simpa using h2
  rw[wrap_tick hk hsum] at hlt
  refine⟨j,hk,?_,hlt,rfl⟩
  cases j with
  |zero=>rw[tick0_zero];exact h0
  |succ i=>
   have:=hno _ (slotsTo_mem (Nat.lt_succ_self i))
   unfold notYet at this
   rw[wrap_tick Om hsum] at this
   omega
theorem none_left{ss:List Slt}(hsum:∀k,k≤ss.length→0≤tick0 ss k∧tick0 ss k≤1000)(hpos:0<ss.length){r:Int}(hr:r<tick0 ss ss.length)(hno:∀z,z∈slotsTo ss ss.length→notYet r z):False:=by
 obtain⟨j,hj⟩:∃j,ss.length=j+1:=⟨ss.length - 1,by omega⟩
 have:=hno (slotAt ss j) (slotsTo_mem Om)
 unfold notYet at this
 rw[wrap_tick Om hsum,←hj] at this
 exact this hr
set_option maxHeartbeats 4000000 in
theorem who_good{x:SysD}{w:World}(hx:x.At w)(hk:chkSys x.sys=0)(t:Int)(ht:0≤t):Calls Tryz.prog 102 #[x.val,.int .i64 t] w fun e w'=>∃p,e=.returned (.tuple #[.int .i64 p,.int .i64 0])∧Turn x.slots (t.tmod (tick0 x.slots x.slots.length)) p∧Below w.heap.size w w':=by
 obtain⟨b,off,hf⟩:=frm_of hx hk
 have hchk:=fun w1 (hb:Below w.heap.size w w1)=>confCheck_any (hx.below hb)
 have hfr:=fun w1 (hb:Below w.heap.size w w1)=>frame_any (hf.below hb)
 have hfpos:=hf.frame
 rw[hk] at*
 rw[x.val_eq] at*
 refine enterM Tryz.func102 rfl Tryz.ntmps102 rfl fun a hF=>?_
 have hW:=Wd.start w NoB
 refine c_sr<|pe<|e_box hF hW rfl rfl rfl rfl fun b1 a wc hF hW=>pe<|e_box hF hW rfl rfl rfl rfl fun b2 a wc hF hW=>pe<|e_alloc hF hW ze_3 rfl rfl rfl fun b3 a wc hF hW=>pe<|e_alloc hF hW ze_22 rfl rfl rfl fun b4 a wc hF hW=>l_nil<|t_n<|c_s<|c_sr<|pv hF hW (y_loadAll hF rfl 3 rfl Tryz.underlying39 rfl sz_39) fun a hF=>pe<|e_callK hF hW rfl rfl en_46 Rl (hchk _ hW.below) fun a w1 hW hF=>pq 1 hF rfl fun a hF=>lts<|pq 2 hF rfl fun a hF=>?_;replace hF:=hF.ff;refine l_nil<|t_n<|c_f hF rfl<|wp_skip<|t_n<|c_s<|c_sr<|pv hF hW (y_loadOwn hF rfl 2 rfl rfl Tryz.underlying3 rfl) fun a hF=>pq 1 hF rfl fun a hF=>?_;refine Fr.splitD hF (fun h5 hF=>?_) (fun h5 hF=>?_)
 ·exfalso
  omega
 ·refine l_nil<|t_n<|c_f hF rfl<|wp_skip<|t_n ?_;refine c_cut (G:=Unit) (fun _:Unit=>[]) (fun _:Unit=>[.blk b2 3 [.int .i64 (t.tmod (tick0 x.slots x.slots.length))]]) (fun _:Unit=>True) (hF.ks [0,1,2,3,4,5,6,12,15] rfl) (hW.del 2 rfl) ?_ ?_
  ·refine c_d mixed_ok hW ((hW.del 2 rfl)) ?_
   clear hW;intro wc hW hS
   refine dv 1 rfl hF hS (y_loadAll hF rfl 2 rfl Tryz.underlying39 rfl sz_39) fun a hF=>?_;refine d_2 0 2 Kr ?_ ?_
   ·refine d_opval rfl hF rfl hW (y_loadOwn hF rfl 2 rfl rfl Tryz.underlying3 rfl) rfl rfl fun a hF=>ai (hW.del 2 rfl) fun hS=>d_1 2 Kr<|d_op rfl rfl<|e_callK hF hW rfl rfl en_135 Rl (hfr _ hW.below) fun a w1 hW hF=>ai (hW.del 2 rfl) fun hS=>dv 3 rfl hF hS (y_rem hF rfl rfl Om rfl) fun a hF=>d_1 4 Kr<|d_op rfl rfl<|e_store rfl hF hW rfl rfl 2 rfl rfl rfl sz_3 fun wc hW=>ai (hW.del 2 rfl) fun hS=>?_;clear hS;refine d_nil Kr ?_;replace hW:=hW.fs [3,2,2,3] rfl;refine t_n ?_;refine⟨(),?_,?_,?_⟩
    ·exact hF.al rfl
    ·exact hW
    ·trivial
   ·refine d_op rfl rfl<|e_callK hF hW rfl rfl en_135 Rl (hfr _ hW.below) fun a w1 hW hF=>ai (hW.del 2 rfl) fun hS=>d_1 0 Kr<|d_opval rfl hF rfl hW (y_loadOwn hF rfl 2 rfl rfl Tryz.underlying3 rfl) rfl rfl fun a hF=>ai (hW.del 2 rfl) fun hS=>dv 3 rfl hF hS (y_rem hF rfl rfl Om rfl) fun a hF=>d_1 4 Kr<|d_op rfl rfl<|e_store rfl hF hW rfl rfl 2 rfl rfl rfl sz_3 fun wc hW=>ai (hW.del 2 rfl) fun hS=>?_;clear hS;refine d_nil Kr ?_;replace hW:=hW.fs [3,2,2,3] rfl;refine t_n ?_;refine⟨(),?_,?_,?_⟩
    ·exact hF.al rfl
    ·exact hW
    ·trivial
  ·clear hF hW
   try clear a
   intro gq a wc hC hF hW;clear hC;refine c_s<|c_sr<|pv hF hW (y_loadAll hF rfl 3 rfl Tryz.underlying39 rfl sz_39) fun a hF=>?_;refine pe (e_callA hF rfl rfl en_136 Rl (slots_any _ _ _ _) ?_);rintro e w1 ⟨B,rfl,hN⟩;replace hW:=hW.comb1 hN;refine⟨_,rfl,fun a hF=>?_⟩;refine l_nil<|t_n<|wp_block ?_;replace hF:=(hF.k 0 rfl (hF.k 1 rfl (hF.k 2 rfl (hF.k 3 rfl (hF.k 4 rfl (hF.k 5 rfl (hF.k 21 rfl hF.nil)))))))
   obtain⟨u6,hu6⟩:∃u,a.tmps.getD 6 undef=u:=⟨_,rfl⟩
   obtain⟨u7,hu7⟩:∃u,a.tmps.getD 7 undef=u:=⟨_,rfl⟩
   obtain⟨u8,hu8⟩:∃u,a.tmps.getD 8 undef=u:=⟨_,rfl⟩
   obtain⟨u9,hu9⟩:∃u,a.tmps.getD 9 undef=u:=⟨_,rfl⟩
   obtain⟨u10,hu10⟩:∃u,a.tmps.getD 10 undef=u:=⟨_,rfl⟩
   obtain⟨u11,hu11⟩:∃u,a.tmps.getD 11 undef=u:=⟨_,rfl⟩
   obtain⟨u12,hu12⟩:∃u,a.tmps.getD 12 undef=u:=⟨_,rfl⟩
   obtain⟨u13,hu13⟩:∃u,a.tmps.getD 13 undef=u:=⟨_,rfl⟩
   obtain⟨u14,hu14⟩:∃u,a.tmps.getD 14 undef=u:=⟨_,rfl⟩
   obtain⟨u15,hu15⟩:∃u,a.tmps.getD 15 undef=u:=⟨_,rfl⟩
   obtain⟨u16,hu16⟩:∃u,a.tmps.getD 16 undef=u:=⟨_,rfl⟩
   obtain⟨u17,hu17⟩:∃u,a.tmps.getD 17 undef=u:=⟨_,rfl⟩
   obtain⟨u18,hu18⟩:∃u,a.tmps.getD 18 undef=u:=⟨_,rfl⟩
   obtain⟨u19,hu19⟩:∃u,a.tmps.getD 19 undef=u:=⟨_,rfl⟩
   obtain⟨u20,hu20⟩:∃u,a.tmps.getD 20 undef=u:=⟨_,rfl⟩
   obtain⟨u22,hu22⟩:∃u,a.tmps.getD 22 undef=u:=⟨_,rfl⟩
   obtain⟨u23,hu23⟩:∃u,a.tmps.getD 23 undef=u:=⟨_,rfl⟩
   obtain⟨u24,hu24⟩:∃u,a.tmps.getD 24 undef=u:=⟨_,rfl⟩
   obtain⟨u25,hu25⟩:∃u,a.tmps.getD 25 undef=u:=⟨_,rfl⟩
   obtain⟨u26,hu26⟩:∃u,a.tmps.getD 26 undef=u:=⟨_,rfl⟩
   obtain⟨u27,hu27⟩:∃u,a.tmps.getD 27 undef=u:=⟨_,rfl⟩
   obtain⟨u28,hu28⟩:∃u,a.tmps.getD 28 undef=u:=⟨_,rfl⟩
   obtain⟨u29,hu29⟩:∃u,a.tmps.getD 29 undef=u:=⟨_,rfl⟩
   obtain⟨u30,hu30⟩:∃u,a.tmps.getD 30 undef=u:=⟨_,rfl⟩
   obtain⟨u31,hu31⟩:∃u,a.tmps.getD 31 undef=u:=⟨_,rfl⟩
   have hA:a={tmps:=#[.agg #[.slice x.pa x.parts.length x.pc,.slice x.ha x.chans.length x.hc,.slice x.sa x.slots.length x.sc],.int .i64 t,.pointer (some ⟨b1,0,none⟩),.pointer (some ⟨b2,0,none⟩),.pointer (some ⟨b3,0,none⟩),.pointer (some ⟨b4,0,none⟩),u6,u7,u8,u9,u10,u11,u12,u13,u14,u15,u16,u17,u18,u19,u20,.func (.func 171) #[] #[.pointer (some ⟨B,0,none⟩)],u22,u23,u24,u25,u26,u27,u28,u29,u30,u31],defers:=[]}:=by rw[←hu6,←hu7,←hu8,←hu9,←hu10,←hu11,←hu12,←hu13,←hu14,←hu15,←hu16,←hu17,←hu18,←hu19,←hu20,←hu22,←hu23,←hu24,←hu25,←hu26,←hu27,←hu28,←hu29,←hu30,←hu31];exact hF.tab
   clear hF hu6 hu7 hu8 hu9 hu10 hu11 hu12 hu13 hu14 hu15 hu16 hu17 hu18 hu19 hu20 hu22 hu23 hu24 hu25 hu26 hu27 hu28 hu29 hu30 hu31;subst hA
   have hr0:=Int.tmod_nonneg (tick0 x.slots x.slots.length) ht
   have hr1:=Int.tmod_lt_of_pos t hfpos
   generalize t.tmod (tick0 x.slots x.slots.length)=r at*
   have hS:=hW.blk 0 rfl
   rw[hf.sa] at hS
   have B3:=hW.blk 1 rfl
   have B4:=hW.blk 3 rfl
   have B5:=hW.blk 2 rfl
   have g4:=(hW.blk_ge 3 rfl).1
   have g5:=(hW.blk_ge 2 rfl).1
   have hBw:=hW.below
   have hge4:w.heap.size≤b3:=Nat.le_of_not_lt fun h=>g4 ⟨h,id⟩
   have hge5:w.heap.size≤b4:=Nat.le_of_not_lt fun h=>g5 ⟨h,id⟩
   have hne:b3≠b4:=fun e=>by rw[e] at B4;exact absurd (B4.symm.trans B5) Si
   have hrow:=hf.row.below hBw
   have hsum:=hf.sum
   have hpos:=hf.pos
   have hle:=hf.le
   clear hW hf hchk hfr g4 g5 hx hk;refine(wpIn_wide (n:=5)).1 ?_;refine wpIn_rangeFunc_ownH (n:=5) rfl Dc (gf:=171) (lb:=#[.pointer (some ⟨B,0,none⟩)]) rfl trivial en_171
    (slots1_stops (X:=fun _=>False) 4 Om rfl hsum hle id id (fun _ h=>h.elim) hS hrow) KpX.trans (fun W l o o' _ h hc _=>KpX.put W l o o' h hc) (Below.refl _ _) (fun _=>rfl)
    (fun pre W=>((∀z,z∈pre→notYet r z)∧W.cell? ⟨b2,0,none⟩=some (.int .i64 r)∧W.cell? ⟨b3,0,none⟩=some (.int .i64 0)∧W.frozen? ⟨b3,0,none⟩=false∧W.cell? ⟨b4,0,none⟩=some (.int .i64 0)∧W.frozen? ⟨b4,0,none⟩=false)∧Below w.heap.size w W)
    (fun c pre W=>(c=.ret∧(∃pre' y,pre=pre'++[y]∧(∀z,z∈pre'→notYet r z)∧r<wrap64 (y.1+y.2.ticks)∧W.cell? ⟨b3,0,none⟩=some (.int .i64 y.2.part))∧W.cell? ⟨b4,0,none⟩=some (.int .i64 0))∧Below w.heap.size w W)
    (OwnFrom.and (Own.from (fun s A B row hs hg hr=>⟨hs.1,cell_kept hs.2.1 hg hr,cell_kept hs.2.2.1 hg hr,(frozen_kept hs.2.2.1 hg hr).trans hs.2.2.2.1,cell_kept hs.2.2.2.2.1 hg hr,(frozen_kept hs.2.2.2.2.1 hg hr).trans hs.2.2.2.2.2⟩) _) (ownFrom_below (Nat.le_refl _) hBw.size))
    (fun c=>OwnFrom.and (Own.from (fun s A B row hs hg hr=>by obtain⟨e1,⟨p1,y1,e2,e3,e4,e5⟩,e6⟩:=hs;exact⟨e1,⟨p1,y1,e2,e3,e4,cell_kept e5 hg hr⟩,cell_kept e6 hg hr⟩) _) (ownFrom_below (Nat.le_refl _) hBw.size))
    ⟨⟨fun _ h=>by(cases h),B3.cell 0,B4.cell 0,B4.frozen 0,B5.cell 0,B5.frozen 0⟩,hBw⟩
    (fun x1 a' W=>∃Bx,W.cell? ⟨Bx,0,none⟩=some (.int .i64 x1.2.part)∧W.cell? ⟨Bx,1,none⟩=some (.int .i64 x1.2.ticks)∧a'={tmps:=#[.agg #[.slice x.pa x.parts.length x.pc,.slice x.ha x.chans.length x.hc,.slice x.sa x.slots.length x.sc],.int .i64 t,.pointer (some ⟨b1,0,none⟩),.pointer (some ⟨b2,0,none⟩),.pointer (some ⟨b3,0,none⟩),.pointer (some ⟨b4,0,none⟩),u6,.int .i64 x1.1,.pointer (some ⟨Bx,0,none⟩),u9,u10,u11,u12,u13,u14,u15,u16,u17,u18,u19,u20,.func (.func 171) #[] #[.pointer (some ⟨B,0,none⟩)],.int .i64 x1.1,.agg #[.int .i64 x1.2.part,.int .i64 x1.2.ticks],u24,u25,u26,u27,u28,u29,u30,u31],defers:=[]})
    (fun x1 a'=>Own.from (fun s A B row hs hg hr=>by obtain⟨Bx,h1,h2,rfl⟩:=hs;exact⟨Bx,cell_kept h1 hg hr,cell_kept h2 hg hr,rfl⟩) _) ?assign ?body ?done ?stop
   case assign=>
    intro l pre x1 W K ⟨⟨i0,i1,i2,i3,i4,i5⟩,hBW⟩ hK
    have hBn:=Blk.new W #[.int .i64 x1.2.part,.int .i64 x1.2.ticks] 123
    simp only[encS]
    gi_wp2
    exact hK _ _ ((KeepsOthers.alloc _ _).from _) ((KpX.refl _ _).alloc _) ⟨⟨i0,cell_alloc_l _ i1,cell_alloc_l _ i2,frozen_alloc_l _ i2 i3,cell_alloc_l _ i4,frozen_alloc_l _ i4 i5⟩,hBW.alloc1 _⟩ ⟨W.heap.size,hBn.cell 0,hBn.cell 1,rfl⟩
   case body=>
    rintro l pre x1 a' W hl hr ⟨⟨i0,i1,i2,i3,i4,i5⟩,hBW⟩ ⟨Bx,c0,c1,rfl⟩ hlt
    gi_wp2
    ·rename_i hlt2
     refine⟨((KeepsOthers.setCell _ _ _).trans (KeepsOthers.setCell _ _ _)).from _,⟨rfl,⟨pre,x1.1,x1.2,rfl,fun a b h=>i0 (a,b) h,hlt2,?_⟩,?_⟩,(hBW.setCell (p:=⟨b3,0,none⟩) hge4 _).setCell (p:=⟨b4,0,none⟩) hge5 _⟩
     ·exact(World.cell?_setCell_other (W.setCell ⟨b3,0,none⟩ (.int .i64 x1.2.part)) ⟨b4,0,none⟩ ⟨b3,0,none⟩ (.int .i64 0) (fun e=>hne (congrArg Addr.block e).symm)).trans (World.cell?_setCell_same' _ _ _ (by rw[i2];rfl))
     ·exact World.cell?_setCell_same' _ _ _ (by rw[(World.cell?_setCell_other W ⟨b3,0,none⟩ ⟨b4,0,none⟩ (.int .i64 x1.2.part) (fun e=>hne (congrArg Addr.block e))).trans i4];rfl)
    ·rename_i hlt2
     refine⟨KeepsFrom.refl _ _,KpX.refl _ _,⟨fun a b hm=>?_,i1,i2,i3,i4,i5⟩,hBW⟩
     rcases List.mem_append.1 hm with h|h
     ·exact i0 (a,b) h
     ·rw[List.mem_singleton.1 h]
      show¬r<wrap64 (x1.1+x1.2.ticks)
      omega
   case done=>
    rintro D ys W hD rfl ⟨⟨hno,_⟩,_⟩ hK
    exact(none_left hsum hpos hr1 hno).elim
   case stop=>
    rintro D c pre W hD ⟨k,hk',rfl⟩ ⟨⟨rfl,⟨pre',y,he,hno,hlt,hc4⟩,hc5⟩,hB⟩ hK;refine(wpIn_wide (n:=5)).2<|wp_ret<|b_r<|t_r ?_
    have k4:=cell_kept hc4 (grownBy_putObj' _ D (.deferred none)) (fun r e=>by cases e;exact⟨_,hK,rfl⟩)
    have k5:=cell_kept hc5 (grownBy_putObj' _ D (.deferred none)) (fun r e=>by cases e;exact⟨_,hK,rfl⟩)
    refine mk_end (v:=.tuple #[.int .i64 y.2.part,.int .i64 0]) hK ?_ ⟨_,rfl,turn_of hsum hr0 hk' he hno hlt,hB.trans (belowK_b (w:=w) (Nat.le_refl _) W D _ _ (Nat.le_trans hBw.size hD) hK rfl rfl)⟩
    simp[results,Tryz.f102,go_sem,k4,k5]
end
section
open Go.ChangeShapes Go.WideShapes Go.ChangeAt Go.RowKit
set_option maxRecDepth 100000
def turnsL(ss:List Slt):List Int:=ss.flatMap fun s=>List.replicate s.ticks.toNat s.part
theorem turnsL_snoc{ss:List Slt}{k:Nat}(hk:k<ss.length):turnsL (ss.take (k+1))=turnsL (ss.take k)++List.replicate (ss.getD k S0).ticks.toNat (ss.getD k S0).part:=by
 unfold turnsL
 rw[List.take_add_one,List.getElem?_eq_getElem hk,List.flatMap_append,List.getD,List.getElem?_eq_getElem hk]
 simp
theorem turnsL_len{ss:List Slt}(h:∀k,k<ss.length→1≤(ss.getD k S0).ticks∧(ss.getD k S0).ticks≤8):∀k,k≤ss.length→((turnsL (ss.take k)).length:Int)=tick0 ss k
 |0,_=>by simp[turnsL,tick0_zero]
 |k+1,hk=>by
  have ih:=turnsL_len h k Om
  have:=h k Om
  rw[turnsL_snoc Om,tick0_succ Om,List.length_append,List.length_replicate]
  omega
theorem turnsL_all{ss:List Slt}(h:∀k,k<ss.length→1≤(ss.getD k S0).ticks∧(ss.getD k S0).ticks≤8):((turnsL ss).length:Int)=tick0 ss ss.length:=by
 have:=turnsL_len h ss.length (Nat.le_refl _)
 rwa [List.take_of_length_le (Nat.le_refl _)] at this
theorem turn_get{ss:List Slt}(h:∀k,k<ss.length→1≤(ss.getD k S0).ticks∧(ss.getD k S0).ticks≤8){r p:Int}(h0:0≤r)(ht:Turn ss r p):p=(turnsL ss).getD r.toNat 0:=by
 obtain⟨k,hk,h1,h2,rfl⟩:=ht
 have hl:=turnsL_len h k Om
 have hsp:turnsL ss=turnsL (ss.take (k+1))++turnsL (ss.drop (k+1)):=by
  unfold turnsL
  rw[←List.flatMap_append,List.take_append_drop]
 rw[tick0_succ hk] at h2
 rw[hsp,turnsL_snoc hk,List.append_assoc]
 generalize ss.getD k S0=s at*
 rw[List.getD,List.getElem?_append_right Om,List.getElem?_append_left (by rw[List.length_replicate];omega),List.getElem?_replicate_of_lt Om]
 rfl
def whoOf(ss:List Slt)(t:Int):Int:=(turnsL ss).getD (t.tmod (turnsL ss).length).toNat 0
theorem who_val{x:SysD}{w:World}(hx:x.At w)(hk:chkSys x.sys=0){t:Int}(ht:0≤t):Calls Tryz.prog 102 #[x.val,.int .i64 t] w fun e w'=>e=.returned (.tuple #[.int .i64 (whoOf x.slots t),.int .i64 0])∧Below w.heap.size w w':=
 (who_good hx hk t ht).mono fun e w' ⟨p,he,hT,hb⟩=>by
  have hs:=fun k (h:k<x.slots.length)=>(slots_ok hk h).2
  refine⟨?_,hb⟩
  rw[he,turn_get hs (Int.tmod_nonneg _ ht) hT,←turnsL_all hs]
  rfl
end
section
open Go.ChangeShapes Go.WideShapes Go.ChangeAt Go.RowKit
set_option maxRecDepth 100000
theorem chooseN_any{c n:Int}(hc: -9223372036854775808≤c∧c≤9223372036854775807)(hn:0<n)(w:World):Calls Tryz.prog 12 #[.int .i64 c,.int .i64 n] w fun e w'=>(∃r,e=.returned (.int .i64 r)∧0≤r∧r<n)∧Below w.heap.size w w':=by
 refine enter Tryz.func12 rfl Tryz.ntmps12 rfl fun a hF=>?_
 have hW:=Wd.start w NoB
 refine c_sr<|pq 1 hF rfl fun a hF=>l_nil<|t_n<|c_s<|c_sr<|pq 2 hF rfl fun a hF=>?_;refine Fr.splitD hF (fun h1 hF=>?_) (fun h1 hF=>?_);refine l_nil<|t_n<|c_t hF rfl<|c_r<|pq 1 hF rfl fun a hF=>pv hF hW (y_add hF rfl rfl (IntWalk.i64_in _ Om)) fun a hF=>pv hF hW (y_neg hF rfl (IntWalk.i64_in _ Om)) fun a hF=>pq 1 hF rfl fun a hF=>lts<|pq 2 hF rfl fun a hF=>pv hF hW (y_rem hF rfl rfl Om rfl) fun a hF=>pq 1 hF rfl fun a hF=>l_nil<|t_n<|wp_ret<|ret1 Tryz.results12 hF (rv_t hF rfl) ?_
 exact⟨⟨_,rfl,Int.tmod_nonneg _ Om,Int.tmod_lt_of_pos _ hn⟩,hW.below⟩
 refine l_nil<|t_n<|c_f hF rfl<|wp_skip<|t_n<|c_sr<|pq 2 hF rfl fun a hF=>pv hF hW (y_rem hF rfl rfl Om rfl) fun a hF=>pq 1 hF rfl fun a hF=>l_nil<|t_n<|wp_ret<|ret1 Tryz.results12 hF (rv_t hF rfl) ?_
 exact⟨⟨_,rfl,Int.tmod_nonneg _ Om,Int.tmod_lt_of_pos _ hn⟩,hW.below⟩
section
variable {L:List PP} {pa sa:Option Addr} {b:Nat} {T:TypeId} {u:World}
end
end
end Go.Proofs.YtndcjmopebcdgaaGreatDoor
