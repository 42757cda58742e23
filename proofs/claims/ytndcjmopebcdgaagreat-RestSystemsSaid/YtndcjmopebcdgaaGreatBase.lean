/- Memory words for the walks: a slice value that reads as a row of cells, and what keeps it so. No program is named. A string's iterator of the call's own, one step on; nothing else turns. No program is named. What insert and look-up do on a map with integer keys that lies in the newest block. The reference's SameInts answers whether two lists of integers are the same. Appending onto a row of the call's own, from any slice that reads as a row; cloning. No program is named. From a walk that ends true, with nothing old turned, to a law's row; and how arguments are opened. A block of the call's own, known whole. No program is named. Slices whose elements are flat rows of cells (structs of numbers). No program is named. Stores and loads of whole structs, the world behind them under one name. No program is named. -/
import Derived.WalkKit
import Derived.WalkSpells
import Derived.WalkLawsBesides
import Derived.BigQuiet
import Derived.Deep.QuietTactic
import Derived.Deep.DeepCutAuto
import Derived.Deep.Draws
import Derived.KernelRfl
import Derived.IntWalk
import Derived.Lib.OthersKept
import Derived.Deep.LoopGhost
import Derived.Deep.Light
import Derived.WideMake
import Derived.Test.YtndcjmopebcdgaaGreatProg
import Derived.Maps.AppendAt
import Derived.Deep.AppendLies
import Derived.RegionTactic
import Derived.OwnWalk
import Derived.Deep.WholeRow
import Derived.Test.YtndcjmopebcdgaaGreatRows
import Derived.ProofKit
import Derived.Carry
import Derived.Deep.Slices
import Derived.Deep.MidRow
set_option linter.unusedSimpArgs false
set_option linter.unusedVariables false
namespace Go.Proofs.YtndcjmopebcdgaaGreat
section
open Go.RowKit
theorem hide{p:Prop}(h:p):Hid p:=h
theorem add_of_add(a:Addr)(i j:Nat):(a.add i).add j=a.add (i+j):=by
 unfold Addr.add
 by_cases hi:i=0<;>by_cases hj:j=0<;>simp[hi,hj,Nat.add_assoc]
def RowAt(w:World)(size:Nat)(A:Option Addr)(n:Nat)(xs:List Value):Prop:=
 xs.length=n*size∧(0<n→∃ad,A=some ad∧∀j u,xs[j]?=some u→w.cell? (ad.add j)=some u)
section
variable {w w':World} {size n:Nat} {A:Option Addr} {xs:List Value}
theorem RowAt.none_:RowAt w size A 0 []:=⟨by simp,fun h=>absurd h (by omega)⟩
theorem RowAt.keep(h:RowAt w size A n xs)(hk:∀(p:Addr) u,w.cell? p=some u→w'.cell? p=some u):RowAt w' size A n xs:=
 ⟨h.1,fun hn=>by
  obtain⟨ad,e,hc⟩:=h.2 hn
  exact⟨ad,e,fun j u hu=>hk _ _ (hc j u hu)⟩⟩
theorem RowAt.at_{k:Nat}(h:RowAt w 1 A n xs)(hk:k<n):∃ad u,A=some ad∧xs[k]?=some u∧w.cell? (ad.add k)=some u:=by
 obtain⟨ad,e,hc⟩:=h.2 (by omega)
 have hl:k<xs.length:=by have:=h.1;omega
 exact⟨ad,xs[k],e,List.getElem?_eq_getElem hl,hc k _ (List.getElem?_eq_getElem hl)⟩
theorem RowAt.cut(h:RowAt w size A n xs){k cap:Nat}(hk:k≤n)(hc:n≤cap):
  RowAt w size (if cap=k then A else A.map (·.add (k*size))) (n - k) (xs.drop (k*size)):=by
 refine⟨by rw[List.length_drop,h.1,Nat.sub_mul],fun hn=>?_⟩
 obtain⟨ad,rfl,hcell⟩:=h.2 (by omega)
 rw[if_neg (by omega)]
 refine⟨ad.add (k*size),rfl,fun j u hu=>?_⟩
 rw[add_of_add]
 exact hcell _ u (by rw[←hu,List.getElem?_drop])
end
theorem cell_below{w w':World}(hb:Below w.heap.size w w'){p:Addr}{u:Value}(h:w.cell? p=some u):w'.cell? p=some u:=
 (hb.cell (World.block_lt_of_cell? w p h)).trans h
theorem cell_drew{w:World}{p:Addr}{u:Value}(h:w.cell? p=some u):w.drew.cell? p=some u:=h
theorem cell_drewN{w:World}{n:Nat}{p:Addr}{u:Value}(h:w.cell? p=some u):(w.drewN n).cell? p=some u:=h
theorem cell_alloc{w:World}{o:Obj}{p:Addr}{u:Value}(h:w.cell? p=some u):(w.alloc o).cell? p=some u:=cell_below ((Below.refl _ _).alloc (Nat.le_refl _) o) h
theorem cell_set{w:World}{p q:Addr}{u v:Value}(hne:¬q=p)(h:w.cell? p=some u):(w.setCell q v).cell? p=some u:=(World.cell?_setCell_other w q p v hne).trans h
theorem cell_same{w:World}{p:Addr}{u v:Value}(h:w.cell? p=some u):(w.setCell p v).cell? p=some v:=World.cell?_setCell_same w p v h
def Free(w:World)(p:Addr)(u:Value):Prop:=w.cell? p=some u∧w.frozen? p=false
theorem Free.below{w w':World}(hb:Below w.heap.size w w'){p:Addr}{u:Value}(h:Free w p u):Free w' p u:=
 ⟨cell_below hb h.1,(hb.frozen (World.block_lt_of_cell? w p h.1)).trans h.2⟩
theorem Free.drewN{w:World}{n:Nat}{p:Addr}{u:Value}(h:Free w p u):Free (w.drewN n) p u:=h
theorem Free.alloc{w:World}{o:Obj}{p:Addr}{u:Value}(h:Free w p u):Free (w.alloc o) p u:=h.below ((Below.refl _ _).alloc (Nat.le_refl _) o)
theorem frozen_setCell(w:World)(p q:Addr)(v:Value):(w.setCell q v).frozen? p=w.frozen? p:=by
 simp only[World.frozen?,World.setCell,Array.getElem?_modify]
 by_cases h:q.block=p.block
 ·rw[if_pos h]
  cases hx:w.heap[p.block]? with
  |none=>rfl
  |some o=>cases o<;>rfl
 ·rw[if_neg h]
theorem Free.set{w:World}{p q:Addr}{u v:Value}(hne:¬q=p)(h:Free w p u):Free (w.setCell q v) p u:=⟨cell_set hne h.1,(frozen_setCell w p q v).trans h.2⟩
theorem Free.same{w:World}{p:Addr}{u v:Value}(h:Free w p u):Free (w.setCell p v) p v:=⟨cell_same h.1,(frozen_setCell w p p v).trans h.2⟩
theorem Free.new(w:World)(cs:Array Value)(e:TypeId)(i:Nat)(u:Value)(h:cs[i]?=some u):Free (w.alloc (.cells cs e)) ⟨w.heap.size,i,none⟩ u:=
 ⟨by rw[cell_of_row _ w.heap.size i cs e (0,0) (heap_alloc_new w _)];exact h,by unfold World.frozen?;dsimp only;rw[heap_alloc_new w _];simp⟩
theorem Free.new1(w:World)(o:Obj)(cs:Array Value)(e:TypeId)(i:Nat)(u:Value)(h:cs[i]?=some u):Free ((w.alloc o).alloc (.cells cs e)) ⟨w.heap.size+1,i,none⟩ u:=by
 have:=Free.new (w.alloc o) cs e i u h
 rwa [World.size_alloc] at this
theorem RowAt.below{w w':World}{size n:Nat}{A:Option Addr}{xs:List Value}(h:RowAt w size A n xs)(hb:Below w.heap.size w w'):RowAt w' size A n xs:=
 h.keep fun _ _ hc=>cell_below hb hc
theorem below_drewN{B:Nat}{a w:World}(h:Below B a w)(n:Nat):Below B a (w.drewN n):=⟨h.os,h.tape,h.output,h.size,h.block⟩
theorem bcell{W w1:World}(hb:Below W.heap.size W w1):(∀b o,b<W.heap.size→w1.cell? ⟨b,o,none⟩=W.cell? ⟨b,o,none⟩)∧(∀b o,b<W.heap.size→w1.frozen? ⟨b,o,none⟩=W.frozen? ⟨b,o,none⟩):=
 ⟨fun b o h=>hb.cell (p:=⟨b,o,none⟩) h,fun b o h=>hb.frozen (p:=⟨b,o,none⟩) h⟩
theorem new_ne{w:World}{a:Addr}{u:Value}(h:w.cell? a=some u)(k o:Nat):¬(⟨w.heap.size+k,o,none⟩:Addr)=a:=by
 rintro rfl
 have h2:_<w.heap.size:=World.block_lt_of_cell? w _ h
 dsimp only at h2
 omega
theorem quiet_left{P:Program}{f:FuncId}{args:Array Value}{w:World}{n:Nat}{v:Value}
  (h:Calls P f args (w.drewN n) fun e w'=>e=.returned v∧w.drewN n=w'):Calls P f args (w.drewN n) fun e w''=>e=.returned v∧∃m,w''=w.drewN m:=
 h.mono fun _ _ ⟨he,hm⟩=>⟨he,n,hm.symm⟩
theorem quiet_add_left{P:Program}{f:FuncId}{args:Array Value}{w:World}{a n:Nat}{v:Value}
  (h:Calls P f args (w.drewN (a+n)) fun e w'=>e=.returned v∧w.drewN (a+n)=w'):
  Calls P f args (w.drewN (a+n)) fun e w''=>e=.returned v∧∃m,w''=w.drewN (a+m):=
 h.mono fun _ _ ⟨he,hm⟩=>⟨he,n,hm.symm⟩
def Drew(w w':World):Prop:=∃q,w'=w.drewN q
theorem Drew.mk(w:World)(q:Nat):Drew w (w.drewN q):=⟨q,rfl⟩
theorem Drew.refl(w:World):Drew w w:=⟨0,rfl⟩
theorem Drew.drewN{w w':World}(h:Drew w w')(n:Nat):Drew w (w'.drewN n):=by
 obtain⟨q,rfl⟩:=h
 exact⟨q+n,by rw[World.drewN_drewN]⟩
theorem Drew.drew{w w':World}(h:Drew w w'):Drew w w'.drew:=h.drewN 1
theorem Drew.below{w w':World}(h:Drew w w')(B:Nat):Below B w w':=by
 obtain⟨q,rfl⟩:=h
 exact below_drewN (Below.refl _ _) q
section
variable {w W w1:World}
theorem _root_.Go.RowKit.Below.via(h:Below w.heap.size w W)(hb:Below W.heap.size W w1):Below w.heap.size w w1:=h.trans (hb.mono h.size)
theorem _root_.Go.RowKit.Below.alloc1(h:Below w.heap.size w W)(o:Obj):Below w.heap.size w (W.alloc o):=h.alloc h.size o
theorem _root_.Go.RowKit.Below.drewN1(h:Below w.heap.size w W)(n:Nat):Below w.heap.size w (W.drewN n):=below_drewN h n
theorem _root_.Go.RowKit.Below.setCell1(h:Below w.heap.size w W){p:Addr}(hp:w.heap.size≤p.block)(u:Value):Below w.heap.size w (W.setCell p u):=h.setCell hp u
end
def Ints(w:World)(v:Value)(l:List Int):Prop:=
 ∃A c,v=.slice A l.length c∧l.length≤c∧c≤maxLen∧RowAt w 1 A l.length (l.map (.int .i64))
theorem Ints.keep{w w':World}{v:Value}{l:List Int}(h:Ints w v l)(hk:∀(p:Addr) u,w.cell? p=some u→w'.cell? p=some u):Ints w' v l:=by
 obtain⟨A,c,e,h1,h2,h3⟩:=h
 exact⟨A,c,e,h1,h2,h3.keep hk⟩
theorem Ints.below{w w':World}{v:Value}{l:List Int}(h:Ints w v l)(hb:Below w.heap.size w w'):Ints w' v l:=h.keep fun _ _ hc=>cell_below hb hc
theorem Ints.nil_{w:World}:Ints w (.slice none 0 0) []:=⟨none,0,rfl,by simp,by simp,RowAt.none_⟩
theorem Ints.form{w:World}{v:Value}{l:List Int}(h:Ints w v l){n:Nat}(hn:l.length=n):∃A c,v=.slice A n c:=by
 obtain⟨A,c,rfl,-⟩:=h
 exact⟨A,c,by rw[hn]⟩
theorem ints_at{w:World}{A:Option Addr}{l:List Int}(h:RowAt w 1 A l.length (l.map (.int .i64))){k:Nat}(hk:k<l.length):
  ∃ad,A=some ad∧w.cell? (ad.add k)=some (.int .i64 l[k]):=by
 obtain⟨ad,u,e,hx,hc⟩:=h.at_ hk
 refine⟨ad,e,?_⟩
 rw[hc,←hx]
 simp[hk]
theorem Bl{p:Prop}(h:p:=by repeat' (first|exact Below.refl _ _|assumption|refine Below.alloc1 ?_ _|refine Below.drewN1 ?_ _|refine Below.drew ?_|refine Below.setCell1 ?_ ?_ _|refine Below.via ?_ (by assumption)|refine Below.viaD ?_ (by assumption)|omega|(simp;done)|(simp;omega))):p:=h
theorem Rb{p:Prop}(h:p:=by repeat' (first|with_reducible exact Below.refl _ _|with_reducible assumption|with_reducible refine Below.alloc1 ?_ _|with_reducible refine Below.drewN1 ?_ _|with_reducible refine Below.drew ?_|with_reducible refine Below.setCell1 ?_ ?_ _|with_reducible refine Below.via ?_ (by with_reducible assumption)|with_reducible refine Below.viaD ?_ (by with_reducible assumption)|omega|(simp;done)|(simp;omega))):p:=h
theorem Ro{p:Prop}(h:p:=by repeat' (first|with_reducible assumption|with_reducible refine OwnAs.set ?_ ?_ _|with_reducible refine OwnAs.drewN ?_ _|omega|(simp;done)|(simp;omega))):p:=h
theorem Dw{p:Prop}(h:p:=by repeat(first|exact Drew.refl _|exact Drew.mk _ _|refine Drew.drewN ?_ _|refine Drew.drew ?_|assumption)):p:=h
theorem Kr{p:Prop}(h:p:=by kernel_rfl):p:=h
theorem Om{p:Prop}(h:p:=by omega):p:=h
theorem Od{p:Prop}(h:p:=by first|omega|decide):p:=h
theorem Ox{p:Prop}(h:p:=by first|omega|(simp;omega)):p:=h
theorem Ml{p:Prop}(h:p:=by unfold maxLen;first|omega|(simp;omega)):p:=h
theorem Am{p:Prop}(h:p:=by assumption):p:=h
theorem Rf{p:Prop}(h:p:=by first|rfl|(simp;done)|omega):p:=h
theorem Dc{p:Prop}(h:p:=by decide):p:=h
theorem Si{p:Prop}(h:p:=by simp):p:=h
theorem Ra{p:Prop}(h:p:=by with_reducible assumption):p:=h
theorem Rg{p:Prop}(h:p:=by first|rfl|(simp;done)):p:=h
theorem Rl{p:Prop}(h:p:=by rfl):p:=h
theorem Oc{p:Prop}(h:p:=by simp[Value.oneCell']):p:=h
end
section
open Go.RowKit
theorem cell_iterAt{w:World}{k:Nat}{s:ByteArray}{pos pos':Nat}(h:w.heap[k]?=some (.stringIter s pos))(p:Addr):(w.iterAt k s pos').cell? p=w.cell? p:=by
 unfold World.cell?
 by_cases e:p.block=k
 ·rw[e,Lib.iterAt_heap w k s pos pos' h,h]
 ·rw[Lib.iterAt_other w k p.block s pos' e]
theorem frozen_iterAt{w:World}{k:Nat}{s:ByteArray}{pos pos':Nat}(h:w.heap[k]?=some (.stringIter s pos))(p:Addr):(w.iterAt k s pos').frozen? p=w.frozen? p:=by
 unfold World.frozen?
 by_cases e:p.block=k
 ·rw[e,Lib.iterAt_heap w k s pos pos' h,h]
 ·rw[Lib.iterAt_other w k p.block s pos' e]
structure Ticked(k:Nat)(s:ByteArray)(pos:Nat)(w w':World):Prop where
 iter:w'.heap[k]?=some (.stringIter s pos)
 cell:∀p,w'.cell? p=w.cell? p
 frozen:∀p,w'.frozen? p=w.frozen? p
 size:w'.heap.size=w.heap.size
 below:Below k w w'
theorem Ticked.free{k pos:Nat}{s:ByteArray}{w w':World}(h:Ticked k s pos w w'){p:Addr}{u:Value}(f:Free w p u):Free w' p u:=⟨(h.cell p).trans f.1,(h.frozen p).trans f.2⟩
theorem next_ascii(w:World)(k:Nat)(s:ByteArray)(pos:Nat)(hk:w.heap[k]?=some (.stringIter s pos))(h:pos<s.size)(t:Nat)(ht:(s[pos]'h).toNat=t)(ha:t<128):
  ∃w',(∀(P:Program) (ty:TypeId),(Instr.next (.pointer (some ⟨k,0,none⟩)) true ty).run P w=.ok (.tuple #[.bool true,.int .i64 pos,.int .i32 t]) w')∧Ticked k s (pos+1) w w':=by
 subst ht
 exact⟨_,fun P ty=>Lib.run_next_ascii_at w k s pos ty hk h ha,Lib.iterAt_heap w k s pos _ hk,cell_iterAt hk,frozen_iterAt hk,Lib.iterAt_size _ _ _ _,Lib.below_iterAt (Below.refl _ _) (Nat.le_refl _) _ _⟩
theorem next_done(w:World)(k:Nat)(s:ByteArray)(pos:Nat)(hk:w.heap[k]?=some (.stringIter s pos))(h:¬pos<s.size):
  ∀(P:Program) (ty:TypeId),(Instr.next (.pointer (some ⟨k,0,none⟩)) true ty).run P w=.ok (.tuple #[.bool false]) w:=fun _ ty=>Lib.run_next_end_at w k s pos ty hk h
end
section
open Go.RowKit
theorem set_newest(w:World)(o o':Obj):({w.alloc o with heap:=(w.alloc o).heap.setIfInBounds w.heap.size o'}:World)=w.alloc o':=by
 show({w with heap:=(w.heap.push o).setIfInBounds w.heap.size o'}:World)={w with heap:=w.heap.push o'}
 congr 1
 apply Array.ext_getElem?
 intro i
 simp only[Array.getElem?_setIfInBounds,Array.getElem?_push,Array.size_push]
 by_cases h:w.heap.size=i<;>by_cases h':i=w.heap.size<;>simp_all
theorem run_insert_new{P:Program}{mty kt et:TypeId}(hm:P.underlying mty=some (.map kt et))(hk:P.underlying kt=some (.int .i64))(a:Int)(v:Value)(es:Array MapEntry)(c:Nat)
  (hf:Instr.findNow (.int .i64) (.int .i64 a) es.toList 0=some none) (w:World):
  (Instr.mapUpdate mty (.map (some w.heap.size)) (.int .i64 a) v).run P (w.alloc (.map es c))=.ok () (w.alloc (.map (es.push ⟨.int .i64 a,v,c⟩) (c+1))):=by
 have hb:(w.alloc (.map es c)).heap[w.heap.size]?=some (.map es c):=(MapKept.heap_alloc w _).1
 have hc:(Instr.checkKey false 10000 kt (.int .i64 a)).run P (w.alloc (.map es c))=.ok () (w.alloc (.map es c)):=MapKept.run_checkKey (k:=.int .i64 a) hk (by simp[MapKept.IsKey]) false 9999
 simp only[Instr.mapUpdate,Sem.run_bind,run_underlying hm,Result.andThen,MapKept.run_getObj_map hb,hc,MapKept.run_findKey hk hf,MapKept.run_setObj_map _ hb,set_newest]
theorem run_lookup_new{P:Program}{mty kt et:TypeId}(hm:P.underlying mty=some (.map kt et))(hk:P.underlying kt=some (.int .i64))(a:Int)(es:Array MapEntry)(c:Nat)(w:World)
  {i:Nat} {v:Value} (hf:Instr.findNow (.int .i64) (.int .i64 a) es.toList 0=some (some (i,v))):
  (Instr.lookup mty (.map (some w.heap.size)) (.int .i64 a) true).run P (w.alloc (.map es c))=.ok (.tuple #[v,.bool true]) (w.alloc (.map es c)):=by
 have hb:(w.alloc (.map es c)).heap[w.heap.size]?=some (.map es c):=(MapKept.heap_alloc w _).1
 have hc:(Instr.checkKey es.isEmpty 10000 kt (.int .i64 a)).run P (w.alloc (.map es c))=.ok () (w.alloc (.map es c)):=MapKept.run_checkKey (k:=.int .i64 a) hk (by simp[MapKept.IsKey]) _ 9999
 simp[Instr.lookup,run_underlying hm,Result.andThen,MapKept.run_getObj_map hb,hc,MapKept.run_findKey hk hf]
theorem run_lookup_new_none{P:Program}{mty kt et:TypeId}(hm:P.underlying mty=some (.map kt et))(hk:P.underlying kt=some (.int .i64))(a:Int)(es:Array MapEntry)(c:Nat)(w:World)
  {z:Value} (hz:∀w,(zeroValue et).run P w=.ok z w) (hf:Instr.findNow (.int .i64) (.int .i64 a) es.toList 0=some none):
  (Instr.lookup mty (.map (some w.heap.size)) (.int .i64 a) true).run P (w.alloc (.map es c))=.ok (.tuple #[z,.bool false]) (w.alloc (.map es c)):=by
 have hb:(w.alloc (.map es c)).heap[w.heap.size]?=some (.map es c):=(MapKept.heap_alloc w _).1
 have hc:(Instr.checkKey es.isEmpty 10000 kt (.int .i64 a)).run P (w.alloc (.map es c))=.ok () (w.alloc (.map es c)):=MapKept.run_checkKey (k:=.int .i64 a) hk (by simp[MapKept.IsKey]) _ 9999
 simp[Instr.lookup,run_underlying hm,Result.andThen,MapKept.run_getObj_map hb,hc,MapKept.run_findKey hk hf,hz]
end
section
open Go.RowKit
theorem take_succ_eq{l m:List Int}{k:Nat}(hl:k<l.length)(hm:k<m.length)(h:l.take k=m.take k):l.take (k+1)=m.take (k+1)↔l[k]=m[k]:=by
 rw[List.take_succ_eq_append_getElem hl,List.take_succ_eq_append_getElem hm,h,List.append_cancel_left_eq];simp
set_option maxHeartbeats 400000 in
theorem sameInts_len(A B:Option Addr)(n c d:Nat)(l m:List Int)(w:World)(hn:n≤maxLen)(hl:l.length=n)(hm:m.length=n)
  (ha:RowAt w 1 A l.length (l.map (.int .i64))) (hb:RowAt w 1 B m.length (m.map (.int .i64))):
  Calls Tryz.prog 24 #[.slice A n c,.slice B n d] w fun e w'=>e=.returned (.bool (decide (l=m)))∧Drew w w':=by
 unfold maxLen at hn
 go_enter Tryz.func24,Tryz.ntmps24
 go_wp2
 have HL:=hide hl
 have HM:=hide hm
 clear hl hm
 go_loopw [5] (fun i wr=>∃k:Nat,k≤n∧i=.int .i64 k∧l.take k=m.take k∧Drew w wr) (fun i _=>n - (intOf i).toNat)
 case atStart=>exact⟨0,by omega,rfl,rfl,Drew.refl w⟩
 case round=>
  obtain⟨k,hk,rfl,heq,q,rfl⟩:=hrel
  have HD:Drew w (w.drewN q):=⟨q,rfl⟩
  have hl:=HL.out
  have hm:=HM.out
  have HE:=hide heq
  clear heq
  by_cases hlt:k<n
  ·have hkl:k<l.length:=by omega
   have hkm:k<m.length:=by omega
   obtain⟨x,hx⟩:∃x,l[k]=x:=⟨_,rfl⟩
   obtain⟨y,hy⟩:∃x,m[k]=x:=⟨_,rfl⟩
   obtain⟨ad,rfl,hca⟩:=ints_at ha hkl
   obtain⟨bd,rfl,hcb⟩:=ints_at hb hkm
   rw[hx] at hca
   rw[hy] at hcb
   have ht:=take_succ_eq hkl hkm HE.out
   rw[hx,hy] at ht
   have HT:=hide ht
   clear ht hl hm ha hb
   by_cases hxy:x=y
   ·have hxy':(x != y)=false:=by simpa using hxy
    have HX:=hide hxy
    clear hxy hx hy
    go_wp2
    go_quiet (fail)
    go_wp2
    go_roundw
    case rel=>exact⟨k+1,by omega,by go_num,HT.out.2 HX.out,Dw⟩
    case measure=>simp[intOf];omega
   ·have hxy':(x != y)=true:=by simpa using hxy
    go_wp2
    go_quiet (fail)
    go_wp2
    go_ret
    refine⟨?_,Dw⟩
    have:l≠m:=fun e=>hxy (by subst e;rw[←hx,←hy])
    simp[this]
  ·obtain rfl:k=n:=by omega
   have e:l=m:=by
    have:=HE.out
    rwa [List.take_of_length_le Om,List.take_of_length_le Om] at this
   clear hl hm
   go_wp2
   go_ret
   exact⟨by simp[e],HD⟩
set_option maxHeartbeats 400000 in
theorem sameInts_any{w:World}{u v:Value}{l m:List Int}(hu:Ints w u l)(hv:Ints w v m):
  Calls Tryz.prog 24 #[u,v] w fun e w'=>e=.returned (.bool (decide (l=m)))∧Drew w w':=by
 obtain⟨A,c,rfl,hc,hm,ha⟩:=hu
 obtain⟨B,d,rfl,hd,hm',hb⟩:=hv
 by_cases h:l.length=m.length
 ·rw[←h]
  exact sameInts_len A B l.length c d l m w Om rfl h.symm ha hb
 ·have hne:l≠m:=fun e=>h (by rw[e])
  obtain⟨n,hn⟩:∃n,l.length=n:=⟨_,rfl⟩
  obtain⟨k,hk⟩:∃k,m.length=k:=⟨_,rfl⟩
  rw[hn,hk] at h⊢
  clear ha hb hc hd hn hk
  have hb:((n:Int) !=(k:Int))=true:=by simp only[bne_iff_ne,ne_eq];omega
  go_enter Tryz.func24,Tryz.ntmps24
  go_wp2
  go_ret
  exact⟨by simp[hne],Drew.refl _⟩
end
section
open Go.RowKit
theorem RowAt.of_own{w:World}{base:Nat}{e:TypeId}{size n c:Nat}{A:Option Addr}{xs:List Value}(h:w.ownsRow base e size (.slice A n c) n xs):RowAt w size A n xs:=by
 refine⟨h.1,fun hn=>?_⟩
 obtain⟨g,cap,hv,_,hlt⟩:=h.form hn
 have hA:A=some ⟨g,0,none⟩:=by injection hv
 subst hA
 exact⟨_,rfl,h.cells (g:=g) rfl⟩
theorem own_slice{w:World}{base:Nat}{e:TypeId}{size n:Nat}{v:Value}{xs:List Value}(h:w.ownsRow base e size v n xs):∃A c,v=.slice A n c∧n≤c∧c≤maxLen:=by
 rcases h.2 with⟨rfl,rfl⟩|⟨g,cap,cur,rfl,_,_,hn,hc,_⟩
 ·exact⟨none,0,rfl,by omega,by simp⟩
 ·exact⟨_,cap,rfl,hn,hc⟩
theorem RowAt.new(w:World)(cs:Array Value)(e:TypeId)(size n:Nat)(h:cs.size=n*size):RowAt (w.alloc (.cells cs e)) size (some ⟨w.heap.size,0,none⟩) n cs.toList:=by
 refine⟨by simpa using h,fun _=>⟨_,rfl,fun j u hu=>?_⟩⟩
 have hadd:(⟨w.heap.size,0,none⟩:Addr).add j=⟨w.heap.size,j,none⟩:=by unfold Addr.add;split<;>simp_all
 rw[hadd,cell_of_row _ w.heap.size j cs e (0,0) (heap_alloc_new w _)]
 simpa using hu
theorem ownsRow_kept_below{w w':World}{base:Nat}{e:TypeId}{size n:Nat}{v:Value}{xs:List Value}(h:w.ownsRow base e size v n xs)(hb:Below w.heap.size w w'):w'.ownsRow base e size v n xs:=by
 refine⟨h.1,?_⟩
 rcases h.2 with h2|⟨g,cap,cur,hv,hg,hh,r⟩
 ·exact .inl h2
 ·exact .inr ⟨g,cap,cur,hv,hg,(hb.block g (Array.getElem?_eq_some_iff.1 hh).1).trans hh,r⟩
theorem ownsRow_less{w:World}{base base':Nat}{e:TypeId}{size n:Nat}{v:Value}{xs:List Value}(h:w.ownsRow base e size v n xs)(hb:base'≤base):w.ownsRow base' e size v n xs:=by
 refine⟨h.1,?_⟩
 rcases h.2 with h2|⟨g,cap,cur,hv,hg,r⟩
 ·exact .inl h2
 ·exact .inr ⟨g,cap,cur,hv,by omega,r⟩
theorem ownsRow_empty(w:World)(e:TypeId)(size:Nat):(w.alloc (.cells #[] e)).ownsRow w.heap.size e size (.slice (some ⟨w.heap.size,0,none⟩) 0 0) 0 []:=
 World.ownsRow_made w #[] 0 (Nat.le_refl _) Si Si
theorem ownsRow_lit(w:World)(cs:Array Value)(e:TypeId)(size n:Nat)(h:cs.size=n*size)(hm:n≤maxLen):(w.alloc (.cells cs e)).ownsRow w.heap.size e size (.slice (some ⟨w.heap.size,0,none⟩) n n) n cs.toList:=
 ⟨by simpa using h,.inr ⟨w.heap.size,n,cs,rfl,Nat.le_refl _,heap_alloc_new w _,Nat.le_refl _,hm,h,by rw[List.take_of_length_le (by simp[h])]⟩⟩
section
variable {P:Program} (w:World)
theorem run_append_of_nil(base:Nat)(t ty e:TypeId)(i:TypeInfo)(size:Nat)(ht:P.underlying t=some (.slice e))(hi:P.info? e=some i)
  (v:Value) (n:Nat) (xs:List Value) (hown:w.ownsRow base e size v n xs) (c:Nat):(Builtin.append_ #[t,t] ty #[v,.slice none 0 c]).run P w=.ok v w:=by
 rcases hown.2 with⟨rfl,rfl⟩|⟨g,cap,cur,rfl,_,_,hnc,_⟩
 ·simp[Builtin.append_,run_underlying ht,sizeOf,typeInfo,hi,Builtin.lenOf,Builtin.firstCells]
 ·simp[Builtin.append_,run_underlying ht,sizeOf,typeInfo,hi,Builtin.lenOf,Builtin.firstCells,hnc,storeCells]
theorem run_append_row(base:Nat)(t ty e:TypeId)(i:TypeInfo)(z:Value)(size bytes:Nat)(ht:P.underlying t=some (.slice e))(hi:P.info? e=some i)(hz:i.zero=some z)
  (hsize:i.size=size) (hby:i.bytes=bytes) (hzs:z.cells.size=size) (hsz:0<size)
  (v:Value) (n:Nat) (xs:List Value) (hown:w.ownsRow base e size v n xs)
  (A:Option Addr) (m c:Nat) (news:List Value) (hr:RowAt w size A m news) (h1:∀u∈news,u.oneCell'=true)
  (h63:n+m≤maxLen) (hbytes:(n+m)*bytes≤140737488355328) (hbase:base≤w.heap.size):
  ∃v' w',(Builtin.append_ #[t,t] ty #[v,.slice A m c]).run P w=.ok v' w'∧w'.ownsRow base e size v' (n+m) (xs++news)∧w.grownBy w' v.ownBlock∧
   (v'.ownBlock=v.ownBlock∨v'.ownBlock=some w.heap.size):=by
 rcases A with _|ad
 ·have hm:m=0:=by
   rcases Nat.eq_zero_or_pos m with h0|h0
   ·exact h0
   ·obtain⟨ad,h,_⟩:=hr.2 h0
    cases h
  subst hm
  have hn:news=[]:=List.eq_nil_of_length_eq_zero (by simpa using hr.1)
  subst hn
  exact⟨v,w,run_append_of_nil w base t ty e i size ht hi v n xs hown c,by simpa using hown,World.grownBy.refl w _,.inl rfl⟩
 ·have hcells:∀j u,news[j]?=some u→w.cell? (ad.add j)=some u:=by
   intro j u hu
   rcases Nat.eq_zero_or_pos m with h0|h0
   ·subst h0
    have hn:news=[]:=List.eq_nil_of_length_eq_zero (by simpa using hr.1)
    subst hn
    simp at hu
   ·obtain⟨ad',h,hc⟩:=hr.2 h0
    injection h with h
    subst h
    exact hc j u hu
  obtain⟨v',w',hrun,h2,h3,_,h5⟩:=run_append_own_at (P:=P) w base t ty e i z size bytes ht hi hz hsize hby hzs hsz v n xs hown ad m c news hr.1 hcells h1 h63 hbytes hbase
  exact⟨v',w',hrun,h2,h3,h5⟩
theorem wp_append_row{o:Oper}{a:Act}{K:Act→World→Prop}{Q:Exit→Act→World→Prop}(s x:Operand)(t:TypeId)
  (ho:o.op=.call {callee:=.builtin .append,args:=#[s,x],argTypes:=#[t,t]})
  (base:Nat) (e:TypeId) (i:TypeInfo) (z:Value) (size bytes:Nat) (ht:P.underlying t=some (.slice e)) (hi:P.info? e=some i) (hz:i.zero=some z)
  (hsize:i.size=size) (hby:i.bytes=bytes) (hzs:z.cells.size=size) (hsz:0<size)
  (v:Value) (n:Nat) (xs:List Value) (hs:a.eval s=v) (hown:w.ownsRow base e size v n xs)
  (A:Option Addr) (m c:Nat) (news:List Value) (hx:a.eval x=.slice A m c) (hr:RowAt w size A m news) (h1:∀u∈news,u.oneCell'=true)
  (N:Nat) (ys:List Value) (hN:n+m=N) (hys:xs++news=ys) (h63:N≤maxLen) (hbytes:N*bytes≤140737488355328) (hbase:base≤w.heap.size)
  (h:∀A' c' w',w'.ownsRow base e size (.slice A' N c') N ys→w.grownBy w' v.ownBlock→((Value.slice A' N c').ownBlock=v.ownBlock∨(Value.slice A' N c').ownBlock=some w.heap.size)→K (a.put o.dst (.slice A' N c')) w'):o.wp P a w K Q:=by
 subst hN hys
 obtain⟨v',w',hrun,h2,h3,h4⟩:=run_append_row (P:=P) w base t o.type e i z size bytes ht hi hz hsize hby hzs hsz v n xs hown A m c news hr h1 h63 hbytes hbase
 obtain⟨A',c',rfl,-,-⟩:=own_slice h2
 unfold Oper.wp execOp
 simp only[ho,resolve,invoke,builtin,Sem.run_bind,Sem.run_pure,Result.andThen_ok,List.map_toArray,List.map_cons,List.map_nil,hs,hx,hrun]
 exact h A' c' w' h2 h3 h4
theorem wpList_append_row{ops:Array Oper}{rest:List Oper}{o:Oper}{a:Act}{Q:Exit→Act→World→Prop}(hgd:o.guard=none)(s x:Operand)(t:TypeId)
  (ho:o.op=.call {callee:=.builtin .append,args:=#[s,x],argTypes:=#[t,t]})
  (base:Nat) (e:TypeId) (i:TypeInfo) (z:Value) (size bytes:Nat) (ht:P.underlying t=some (.slice e)) (hi:P.info? e=some i) (hz:i.zero=some z)
  (hsize:i.size=size) (hby:i.bytes=bytes) (hzs:z.cells.size=size) (hsz:0<size)
  (v:Value) (n:Nat) (xs:List Value) (hs:a.eval s=v) (hown:w.ownsRow base e size v n xs)
  (A:Option Addr) (m c:Nat) (news:List Value) (hx:a.eval x=.slice A m c) (hr:RowAt w size A m news) (h1:∀u∈news,u.oneCell'=true)
  (N:Nat) (ys:List Value) (hN:n+m=N) (hys:xs++news=ys) (h63:N≤maxLen) (hbytes:N*bytes≤140737488355328) (hbase:base≤w.heap.size)
  (h:∀A' c' w',w'.ownsRow base e size (.slice A' N c') N ys→w.grownBy w' v.ownBlock→((Value.slice A' N c').ownBlock=v.ownBlock∨(Value.slice A' N c').ownBlock=some w.heap.size)→wpList P ops Q rest (a.put o.dst (.slice A' N c')) w'):wpList P ops Q (o::rest) a w:=
 wpList_plain hgd fun _ hK=>wp_append_row w s x t ho base e i z size bytes ht hi hz hsize hby hzs hsz v n xs hs hown A m c news hx hr h1 N ys hN hys h63 hbytes hbase fun A' c' w' h2 h3 h4=>hK _ _ (h A' c' w' h2 h3 h4)
theorem step_append_row{ops:Array Oper}{o:Oper}{a:Act}{K:Act→World→Prop}{Q:Exit→Act→World→Prop}{E:Prop}(hgd:o.guard=none)(s x:Operand)(t:TypeId)
  (ho:o.op=.call {callee:=.builtin .append,args:=#[s,x],argTypes:=#[t,t]})
  (base:Nat) (e:TypeId) (i:TypeInfo) (z:Value) (size bytes:Nat) (ht:P.underlying t=some (.slice e)) (hi:P.info? e=some i) (hz:i.zero=some z)
  (hsize:i.size=size) (hby:i.bytes=bytes) (hzs:z.cells.size=size) (hsz:0<size)
  (v:Value) (n:Nat) (xs:List Value) (hs:a.eval s=v) (hown:w.ownsRow base e size v n xs)
  (A:Option Addr) (m c:Nat) (news:List Value) (hx:a.eval x=.slice A m c) (hr:RowAt w size A m news) (h1:∀u∈news,u.oneCell'=true)
  (N:Nat) (ys:List Value) (hN:n+m=N) (hys:xs++news=ys) (h63:N≤maxLen) (hbytes:N*bytes≤140737488355328) (hbase:base≤w.heap.size)
  (h:∀A' c' w',w'.ownsRow base e size (.slice A' N c') N ys→w.grownBy w' v.ownBlock→((Value.slice A' N c').ownBlock=v.ownBlock∨(Value.slice A' N c').ownBlock=some w.heap.size)→K (a.put o.dst (.slice A' N c')) w'):
  if Region.wanted o (yielded ops a.tmps)=true then Oper.wp P o a w K Q else E:=by
 have hw:Region.wanted o (yielded ops a.tmps)=true:=by simp[Region.wanted,hgd]
 rw[if_pos hw]
 exact wp_append_row w s x t ho base e i z size bytes ht hi hz hsize hby hzs hsz v n xs hs hown A m c news hx hr h1 N ys hN hys h63 hbytes hbase h
end
theorem wpList_value{P:Program}{ops:Array Oper}{rest:List Oper}{op:Oper}{a:Act}{w:World}{Q:Exit→Act→World→Prop}(hgd:op.guard=none)(v:Value)
  (hrun:(execOp a.eval op).run P w=.ok (.value v) w) (h:wpList P ops Q rest (a.put op.dst v) w):wpList P ops Q (op::rest) a w:=by
 refine wpList_plain hgd fun _ hK=>?_
 unfold Oper.wp
 rw[hrun]
 exact hK _ _ h
theorem wpList_store_new{P:Program}{ops:Array Oper}{rest:List Oper}{op:Oper}{a:Act}{Q:Exit→Act→World→Prop}(hgd:op.guard=none)(ty:TypeId)(x y:Operand)(ho:op.op=.store ty x y)
  (w:World) (t:TypeId) (c c':Array Value) (b:Nat) (hb:b=w.heap.size) (hx:a.eval x=.pointer (some ⟨b,0,none⟩)) (hy:a.eval y=.agg c')
  (hi:(P.info? ty).map (·.size)=some c'.size) (hc:c.size=c'.size) (h1:c'.all (·.oneCell')=true)
  (h:wpList P ops Q rest (a.put op.dst undef) (w.alloc (.cells c' t))):wpList P ops Q (op::rest) a (w.alloc (.cells c t)):=by
 subst hb
 have hrun:(storeVar ty ⟨w.heap.size,0,none⟩ (.agg c')).run P (w.alloc (.cells c t))=.ok () (w.alloc (.cells c' t)):=by
  rw[run_storeVar_row _ _ t ty c c' (heap_alloc_last w _) hi hc h1,World.setRow_alloc_new]
 refine wpList_plain hgd fun _ hK=>?_
 unfold Oper.wp execOp
 simp only[ho,hx,hy,Instr.storeAt,Instr.sureAddr,Sem.run_bind,Sem.run_pure,Result.andThen_ok,hrun]
 exact hK _ _ h
theorem Ints.of_own{w:World}{base e:Nat}{v:Value}{l:List Int}{n:Nat}(h:w.ownsRow base e 1 v n (l.map (.int .i64))):Ints w v l:=by
 have hn:n=l.length:=by simpa using h.1.symm
 subst hn
 obtain⟨A,c,rfl,hc,hm⟩:=own_slice h
 exact⟨A,c,rfl,hc,hm,RowAt.of_own h⟩
def OwnInts(w:World)(base:Nat)(v:Value)(l:List Int):Prop:=∃e,w.ownsRow base e 1 v l.length (l.map (.int .i64))
theorem OwnInts.of_own{w:World}{base base' e:Nat}{v:Value}{l:List Int}{n:Nat}(h:w.ownsRow base e 1 v n (l.map (.int .i64)))(hb:base'≤base):OwnInts w base' v l:=by
 have hn:n=l.length:=by simpa using h.1.symm
 subst hn
 exact⟨e,ownsRow_less h hb⟩
theorem OwnInts.nil_{w:World}{base:Nat}:OwnInts w base (.slice none 0 0) []:=⟨0,World.ownsRow_nil _ _ _ _⟩
theorem OwnInts.ints{w:World}{base:Nat}{v:Value}{l:List Int}(h:OwnInts w base v l):Ints w v l:=by
 obtain⟨e,h⟩:=h
 exact Ints.of_own h
theorem OwnInts.form{w:World}{base:Nat}{v:Value}{l:List Int}(h:OwnInts w base v l){n:Nat}(hn:l.length=n):∃A c,v=.slice A n c:=h.ints.form hn
theorem oneCell_ints(l:List Int):∀u∈l.map (Value.int .i64),u.oneCell'=true:=by
 intro u hu
 obtain⟨x,-,rfl⟩:=List.mem_map.1 hu
 rfl
theorem below_grown{w0 w w':World}{v:Value}{base e size n:Nat}{xs:List Value}(h:Below w0.heap.size w0 w)(hown:w.ownsRow base e size v n xs)(hb:w0.heap.size≤base)(hg:w.grownBy w' v.ownBlock):Below w0.heap.size w0 w':=
 h.grown hg h.size fun k hk=>Nat.le_trans hb (hown.lt k hk).1
end
section
open Go.ChangeShapes Go.WideShapes Go.ChangeAt Go.RowKit
theorem Tryz.own:ownKnob Tryz.prog.godebug=none:=by kernel_rfl
theorem Tryz.laidOut:laidOutB Tryz.prog=true:=by kernel_rfl
theorem trodAll_below{H:Type}{enc:TypeId×Value→H}{P:Program}(hl:laidOutB P=true){W W':World}(hb:Below W.heap.size W W'):
  ∀(ts:List TypeId) (vs:List Value) (ds:List (DataW H)) (ps:List MemPlace),(∀t∈ts,P.readableRec t=true∧t<P.types.size)→(∀x∈ps,x.block<W.heap.size)→
   DataW.TrodAll enc P W 0 (fun _=>true) true ts vs ds ps→DataW.TrodAll enc P W' 0 (fun b=>decide (b<W.heap.size)) true ts vs ds ps
 |[],[],[],_,_,_,h=>h
 |t::ts,v::vs,d::ds,ps,ht,hp,h=>by
  obtain⟨p,q,h1,h2,rfl⟩:=h
  refine⟨p,q,Below.trod hl (ht t Si).1 (ht t Si).2 h1 hb (fun x hx=>hp x (by simp[hx])),?_,rfl⟩
  exact trodAll_below hl hb ts vs ds q (fun t h=>ht t (by simp[h])) (fun x hx=>hp x (by simp[hx])) h2
 |[],_::_,_,_,_,_,h=>by simp[DataW.TrodAll] at h
 |[],[],_::_,_,_,_,h=>by simp[DataW.TrodAll] at h
 |_::_,[],_,_,_,_,h=>by simp[DataW.TrodAll] at h
 |_::_,_::_,[],_,_,_,h=>by simp[DataW.TrodAll] at h
theorem law_post{H:Type}{enc:TypeId×Value→H}{P:Program}{f:Func}{s:ChangeSpec}{apart handsOn:Bool}{W W':World}{args:Array Value}{ds gs:List (DataW H)}{before:List MemPlace}{tb:TypeId}
  (hl:laidOutB P=true) (hW:DataW.Whole enc P f.params.toList s.vars apart W args.toList ds gs before) (hb:Below W.heap.size W W') (hv:s.vars=[]) (hrt:f.resultTypes=#[tb]) (htb:P.underlying tb=some .bool)
  (hts:(f.params.toList.all fun t=>P.readableRec t&&decide (t<P.types.size))=true) (hs:s.fn H (ds++[])={results:=[.lit (.bool true)],args:=ds}):
  s.post enc P f apart true handsOn false W args (.bool true) W':=by
 have hW':=hW
 obtain⟨p,q,hA,hV,rfl,hfz,hnd⟩:=hW
 rw[hv] at hV
 obtain⟨rfl,rfl⟩:=trodVars_none hV
 have hlt:=hW'.lt
 refine⟨ds,[],p++[],[],p,[],hW',?_,?_,?_,hb.frame _,fun h=>by cases h⟩
 ·rw[hs,hrt]
  exact trodAll_mk1 (shut_bool htb true)
 ·rw[hs]
  exact trodAll_below hl hb _ _ _ _ (fun t ht=>by have:=List.all_eq_true.1 hts t ht;simpa using this) (fun x hx=>hlt x (by simp[hx])) hA
 ·rw[hs,hv]
  rfl
end
section
open Go.RowKit
def Blk(w:World)(b:Nat)(T:TypeId)(l:List Value):Prop:=w.heap[b]?=some (.cells l.toArray T (0,0))
section
variable {w w':World} {b:Nat} {T:TypeId} {l:List Value}
theorem Blk.cell(h:Blk w b T l)(o:Nat):w.cell? ⟨b,o,none⟩=l[o]?:=by
 rw[cell_of_row w b o l.toArray T (0,0) h];simp
theorem Blk.frozen(h:Blk w b T l)(o:Nat):w.frozen? ⟨b,o,none⟩=false:=by
 unfold Blk at h
 unfold World.frozen?
 dsimp only
 rw[h]
 simp
theorem Blk.lt(h:Blk w b T l):b<w.heap.size:=(Array.getElem?_eq_some_iff.1 h).1
theorem Blk.set(h:Blk w b T l)(o:Nat)(v:Value):Blk (w.setCell ⟨b,o,none⟩ v) b T (l.set o v):=by
 unfold Blk at*
 simp[World.setCell,Array.getElem?_modify,h]
theorem Blk.drewN(h:Blk w b T l)(n:Nat):Blk (w.drewN n) b T l:=h
theorem Blk.drew(h:Blk w b T l):Blk w.drew b T l:=h
theorem Blk.below(h:Blk w b T l){B:Nat}(hb:Below B w w')(hB:b<B):Blk w' b T l:=(hb.block b hB).trans h
theorem Blk.kept(h:Blk w b T l)(hb:Below w.heap.size w w'):Blk w' b T l:=h.below hb h.lt
theorem Blk.alloc(h:Blk w b T l)(o:Obj):Blk (w.alloc o) b T l:=h.kept ((Below.refl _ _).alloc (Nat.le_refl _) o)
theorem Blk.new(w:World)(cs:Array Value)(T:TypeId):Blk (w.alloc (.cells cs T)) w.heap.size T cs.toList:=by
 unfold Blk
 rw[heap_alloc_new w _]
theorem Blk.new1(w:World)(o:Obj)(cs:Array Value)(T:TypeId):Blk ((w.alloc o).alloc (.cells cs T)) (w.heap.size+1) T cs.toList:=by
 have:=Blk.new (w.alloc o) cs T
 rwa [World.size_alloc] at this
theorem Blk.new2(w:World)(o o':Obj)(cs:Array Value)(T:TypeId):Blk (((w.alloc o).alloc o').alloc (.cells cs T)) (w.heap.size+1+1) T cs.toList:=by
 have:=Blk.new1 (w.alloc o) o' cs T
 rwa [World.size_alloc] at this
theorem Blk.new3(w:World)(o o' o'':Obj)(cs:Array Value)(T:TypeId):Blk ((((w.alloc o).alloc o').alloc o'').alloc (.cells cs T)) (w.heap.size+1+1+1) T cs.toList:=by
 have:=Blk.new2 (w.alloc o) o' o'' cs T
 rwa [World.size_alloc] at this
theorem Blk.same(h:Blk w b T l){m:List Value}(e:l=m):Blk w b T m:=e▸h
end
end
section
open Go.RowKit
def Flat{α:Type}(enc:α→List Value)(size:Nat)(w:World)(v:Value)(l:List α):Prop:=
 ∃A c,v=.slice A l.length c∧l.length≤c∧c≤maxLen∧RowAt w size A l.length (l.flatMap enc)
section
variable {α:Type} {enc:α→List Value} {size:Nat} {w w':World} {v:Value} {l:List α}
theorem Flat.keep(h:Flat enc size w v l)(hk:∀(p:Addr) u,w.cell? p=some u→w'.cell? p=some u):Flat enc size w' v l:=by
 obtain⟨A,c,e,h1,h2,h3⟩:=h
 exact⟨A,c,e,h1,h2,h3.keep hk⟩
theorem Flat.below(h:Flat enc size w v l)(hb:Below w.heap.size w w'):Flat enc size w' v l:=h.keep fun _ _ hc=>cell_below hb hc
theorem Flat.nil_:Flat enc size w (.slice none 0 0) ([]:List α):=⟨none,0,rfl,by simp,by simp,by simpa using RowAt.none_⟩
theorem Flat.form(h:Flat enc size w v l){n:Nat}(hn:l.length=n):∃A c,v=.slice A n c:=by
 obtain⟨A,c,rfl,-⟩:=h
 exact⟨A,c,by rw[hn]⟩
theorem flat_get(hs:∀a,(enc a).length=size)(k j:Nat)(hk:k<l.length)(hj:j<size):(l.flatMap enc)[k*size+j]?=(enc l[k])[j]?:=by
 induction l generalizing k with
 |nil=>simp at hk
 |cons x r ih=>
  rw[List.flatMap_cons]
  cases k with
  |zero=>rw[List.getElem?_append_left (by rw[hs];omega)];simp
  |succ k=>
   rw[List.getElem?_append_right (by rw[hs,Nat.succ_mul];omega),hs,Nat.succ_mul,show k*size+size+j - size=k*size+j by omega,ih k (by simpa using hk)]
   simp
theorem flat_at{A:Option Addr}(hs:∀a,(enc a).length=size)(h:RowAt w size A l.length (l.flatMap enc)){k:Nat}(hk:k<l.length):
  ∃ad,A=some ad∧(∀u,(enc l[k])[0]?=some u→w.cell? (ad.add (k*size))=some u)∧
   ∀j u,(enc l[k])[j+1]?=some u→w.cell? ⟨(ad.add (k*size)).block,(ad.add (k*size)).off+(j+1),none⟩=some u:=by
 obtain⟨ad,e,hc⟩:=h.2 Om
 have hall:∀j u,(enc l[k])[j]?=some u→w.cell? ((ad.add (k*size)).add j)=some u:=by
  intro j u hu
  have hj:j<size:=by
   have:=(List.getElem?_eq_some_iff.1 hu).1
   rwa [hs] at this
  rw[add_of_add]
  exact hc _ u (by rw[flat_get hs k j hk hj];exact hu)
 exact⟨ad,e,fun u hu=>by simpa[Addr.add] using hall 0 u hu,fun j u hu=>by simpa[Addr.add] using hall (j+1) u hu⟩
end
def OwnAs(T:TypeId)(w:World)(base:Nat)(v:Value)(l:List Int):Prop:=w.ownsRow base T 1 v l.length (l.map (.int .i64))
section
variable {T:TypeId} {w w':World} {base:Nat} {v:Value} {l:List Int}
theorem OwnAs.own(h:OwnAs T w base v l):OwnInts w base v l:=⟨T,h⟩
theorem OwnAs.ints(h:OwnAs T w base v l):Ints w v l:=h.own.ints
theorem OwnAs.below(h:OwnAs T w base v l)(hb:Below w.heap.size w w'):OwnAs T w' base v l:=ownsRow_kept_below h hb
theorem OwnAs.set(h:OwnAs T w base v l){p:Addr}(hp:p.block<base)(u:Value):OwnAs T (w.setCell p u) base v l:=ownsRow_setCell_below h hp u
theorem OwnAs.drewN(h:OwnAs T w base v l)(n:Nat):OwnAs T (w.drewN n) base v l:=h
theorem OwnAs.less(h:OwnAs T w base v l){base':Nat}(hb:base'≤base):OwnAs T w base' v l:=ownsRow_less h hb
theorem OwnAs.form(h:OwnAs T w base v l){n:Nat}(hn:l.length=n):∃A c,v=.slice A n c:=h.ints.form hn
theorem OwnAs.nil_:OwnAs T w base (.slice none 0 0) []:=World.ownsRow_nil _ _ _ _
theorem OwnAs.of_own{n:Nat}(h:w.ownsRow base T 1 v n (l.map (.int .i64))){base':Nat}(hb:base'≤base):OwnAs T w base' v l:=by
 have hn:n=l.length:=by simpa using h.1.symm
 subst hn
 exact ownsRow_less h hb
end
structure Ins where
 op:Int
 a:Int
 b:Int
 n:Int
def Ins.cells(i:Ins):List Value:=[.int .i64 i.op,.int .i64 i.a,.int .i64 i.b,.int .i64 i.n]
theorem Ins.cells_len(i:Ins):i.cells.length=4:=rfl
abbrev Ins.val(i:Ins):Value:=.agg #[.int .i64 i.op,.int .i64 i.a,.int .i64 i.b,.int .i64 i.n]
instance :DecidableEq Ins:=fun x y=>decidable_of_iff (x.op=y.op∧x.a=y.a∧x.b=y.b∧x.n=y.n)
 ⟨fun h=>by cases x;cases y;simp_all,fun h=>by subst h;exact⟨rfl,rfl,rfl,rfl⟩⟩
abbrev Code_(w:World)(v:Value)(l:List Ins):Prop:=Flat Ins.cells 4 w v l
end
section
open Go.RowKit
structure Only(b:Nat)(w w':World):Prop where
 os:w'.os=w.os
 tape:w'.tape=w.tape
 output:w'.output=w.output
 size:w'.heap.size=w.heap.size
 block:∀k,k≠b→w'.heap[k]?=w.heap[k]?
section
variable {w w':World} {b:Nat} {T:TypeId} {l:List Value}
theorem Only.set(w:World)(b o:Nat)(v:Value):Only b w (w.setCell ⟨b,o,none⟩ v):=
 ⟨rfl,rfl,rfl,by simp[World.setCell],fun k hk=>Below.heap_setCell w ⟨b,o,none⟩ v k hk⟩
theorem Only.trans{w'':World}(h:Only b w w')(k:Only b w' w''):Only b w w'':=
 ⟨k.os.trans h.os,k.tape.trans h.tape,k.output.trans h.output,k.size.trans h.size,fun i hi=>(k.block i hi).trans (h.block i hi)⟩
theorem Only.refl(b:Nat)(w:World):Only b w w:=⟨rfl,rfl,rfl,rfl,fun _ _=>rfl⟩
theorem Only.blk(h:Only b w w'){k:Nat}(hB:Blk w k T l)(hk:k≠b):Blk w' k T l:=(h.block k hk).trans hB
theorem Only.below(h:Only b w w'){B:Nat}(hB:B≤b):Below B w w':=⟨h.os,h.tape,h.output,Nat.le_of_eq h.size.symm,fun k hk=>h.block k Om⟩
theorem Only.own(h:Only b w w'){base n size:Nat}{v:Value}{xs:List Value}(ho:w.ownsRow base T size v n xs)(hb:b<base):w'.ownsRow base T size v n xs:=by
 refine⟨ho.1,?_⟩
 rcases ho.2 with h2|⟨g,cap,cur,hv,hg,hh,r⟩
 ·exact .inl h2
 ·exact .inr ⟨g,cap,cur,hv,hg,(h.block g Om).trans hh,r⟩
theorem Only.ownAs(h:Only b w w'){base:Nat}{v:Value}{xs:List Int}(ho:OwnAs T w base v xs)(hb:b<base):OwnAs T w' base v xs:=h.own ho hb
theorem _root_.Go.RowKit.Below.only{w0:World}{B:Nat}(hw:Below B w0 w)(h:Only b w w')(hB:B≤b):Below B w0 w':=hw.trans (h.below hB)
def splice(l:List Value)(o:Nat):List Value→List Value
 |[]=>l
 |v::vs=>splice (l.set o v) (o+1) vs
theorem splice_len(vs:List Value):∀(l:List Value) (o:Nat),(splice l o vs).length=l.length:=by
 induction vs with
 |nil=>intro l o;rfl
 |cons v vs ih=>intro l o;rw[splice,ih];simp
theorem setCells_blk(vs:List Value):∀(w:World) (l:List Value) (o:Nat),Blk w b T l→Blk (w.setCells b o vs) b T (splice l o vs)∧Only b w (w.setCells b o vs):=by
 induction vs with
 |nil=>intro w l o h;exact⟨h,Only.refl _ _⟩
 |cons v vs ih=>
  intro w l o h
  have:=ih (w.setCell ⟨b,o,none⟩ v) (l.set o v) (o+1) (h.set o v)
  exact⟨this.1,(Only.set w b o v).trans this.2⟩
theorem Blk.there(h:Blk w b T l){o n:Nat}(hn:o+n≤l.length):w.there b o n:=fun j hj=>by
 refine⟨?_,h.frozen _⟩
 rw[h.cell,List.getElem?_eq_getElem Om]
 rfl
theorem Blk.range(h:Blk w b T l){o:Nat}{cs:List Value}(hc:∀j v,cs[j]?=some v→l[o+j]?=some v):w.rangeAt b o cs:=fun j v hv=>(h.cell _).trans (hc j v hv)
theorem Blk.all(h:Blk w b T l):w.rangeAt b 0 l:=fun j v hv=>by rw[Nat.zero_add];exact(h.cell _).trans hv
theorem splice_all(vs:List Value):∀(pre l:List Value),l.length=vs.length→splice (pre++l) pre.length vs=pre++vs:=by
 induction vs with
 |nil=>intro pre l h;simp[splice,List.eq_nil_of_length_eq_zero h]
 |cons v vs ih=>
  intro pre l h
  cases l with
  |nil=>simp at h
  |cons x l=>
   have:=ih (pre++[v]) l (by simpa using h)
   rw[splice]
   simpa using this
variable {P:Program} {ops:Array Oper} {rest:List Oper} {op:Oper} {a:Act} {Q:Exit→Act→World→Prop}
theorem wpList_store_abs(hgd:op.guard=none)(ty:TypeId)(x y:Operand)(ho:op.op=.store ty x y)(b o:Nat)(T:TypeId)(l:List Value)(cells:Array Value)(hB:Blk w b T l)
  (hx:a.eval x=.pointer (some ⟨b,o,none⟩)) (hy:a.eval y=.agg cells) (hl:o+cells.size≤l.length) (hi:(P.info? ty).map (·.size)=some cells.size) (h1:cells.all (·.oneCell')=true)
  (h:∀w',Blk w' b T (splice l o cells.toList)→Only b w w'→wpList P ops Q rest (a.put op.dst undef) w'):wpList P ops Q (op::rest) a w:=
 wpList_store_mid hgd ty x y ho b o cells hx hy (hB.there hl) hi h1 (h _ (setCells_blk cells.toList w l o hB).1 (setCells_blk cells.toList w l o hB).2)
theorem wpList_store_whole(hgd:op.guard=none)(ty:TypeId)(x y:Operand)(ho:op.op=.store ty x y)(b:Nat)(T:TypeId)(l:List Value)(cells:Array Value)(hB:Blk w b T l)
  (hx:a.eval x=.pointer (some ⟨b,0,none⟩)) (hy:a.eval y=.agg cells) (hl:l.length=cells.size) (hi:(P.info? ty).map (·.size)=some cells.size) (h1:cells.all (·.oneCell')=true)
  (h:∀w',Blk w' b T cells.toList→Only b w w'→wpList P ops Q rest (a.put op.dst undef) w'):wpList P ops Q (op::rest) a w:=
 wpList_store_abs hgd ty x y ho b 0 T l cells hB hx hy Om hi h1 fun w' hb' ho'=>h w' (by
  have:=splice_all cells.toList [] l (by simpa using hl)
  simp only[List.nil_append,List.length_nil] at this
  rwa [this] at hb') ho'
theorem wpList_store_list(hgd:op.guard=none)(ty:TypeId)(x y:Operand)(ho:op.op=.store ty x y)(b:Nat)(T:TypeId)(l cs:List Value)(hB:Blk w b T l)
  (hx:a.eval x=.pointer (some ⟨b,0,none⟩)) (hy:a.eval y=.agg cs.toArray) {n:Nat} (hl:l.length=n) (hn:cs.length=n) (hi:(P.info? ty).map (·.size)=some n) (h1:cs.toArray.all (·.oneCell')=true)
  (h:∀w',Blk w' b T cs→Only b w w'→wpList P ops Q rest (a.put op.dst undef) w'):wpList P ops Q (op::rest) a w:=
 wpList_store_whole hgd ty x y ho b T l cs.toArray hB hx hy (by rw[hl,List.size_toArray,hn]) (by rw[hi,List.size_toArray,hn]) h1 fun w' hb' ho'=>h w' (by simpa using hb') ho'
theorem wpList_load_whole(hgd:op.guard=none)(ty:TypeId)(x:Operand)(ho:op.op=.load ty x)(b:Nat)(T:TypeId)(l:List Value)(hB:Blk w b T l)(hx:a.eval x=.pointer (some ⟨b,0,none⟩))(d:TypeDesc)
  (hu:P.underlying ty=some d) (hd:d.isRow=true) (hi:(P.info? ty).map (·.size)=some l.length)
  (h:wpList P ops Q rest (a.put op.dst (.agg l.toArray)) w):wpList P ops Q (op::rest) a w:=
 wpList_load_mid hgd ty x ho b 0 hx l d hB.all hu hd hi h
theorem wpList_build(hgd:op.guard=none)(ty:TypeId)(parts:Array (Nat×Operand))(ho:op.op=.build ty parts)(vs:Array (Nat×Value))(hp:(parts.map fun x=>(x.1,a.eval x.2))=vs)(v:Value)
  (hrun:(Instr.build ty vs).run P w=.ok v w) (h:wpList P ops Q rest (a.put op.dst v) w):wpList P ops Q (op::rest) a w:=by
 subst hp
 refine wpList_plain hgd fun _ hK=>?_
 unfold Oper.wp execOp
 simp only[ho,Sem.run_bind,hrun,Result.andThen_ok,Sem.run_pure]
 exact hK _ _ h
theorem run_load_blk{ty:TypeId}{d:TypeDesc}(hB:Blk w b T l)(hu:P.underlying ty=some d)(hd:d.isRow=true)(hi:(P.info? ty).map (·.size)=some l.length):
  (loadVar ty ⟨b,0,none⟩).run P w=.ok (.agg l.toArray) w:=run_loadVar_mid w b 0 ty l d hB.all hu hd hi
theorem results_cct{fn:Func}{p q r:Tmp}{ty ty':TypeId}(h:fn.results=#[.cell p ty,.cell q ty',.tmp r])(tmps:Array Value){b b':Nat}{l l':List Value}{v:Value}
  (hp:tmps.getD p undef=.pointer (some ⟨b,0,none⟩)) (hq:tmps.getD q undef=.pointer (some ⟨b',0,none⟩)) (hr:tmps.getD r undef=v)
  (h1:(loadVar ty ⟨b,0,none⟩).run P w=.ok (.agg l.toArray) w) (h2:(loadVar ty' ⟨b',0,none⟩).run P w=.ok (.agg l'.toArray) w):
  (results fn tmps).run P w=.ok (.tuple #[.agg l.toArray,.agg l'.toArray,v]) w:=by
 have hp':tmps[p]?.getD undef=.pointer (some ⟨b,0,none⟩):=by simpa using hp
 have hq':tmps[q]?.getD undef=.pointer (some ⟨b',0,none⟩):=by simpa using hq
 have hr':tmps[r]?.getD undef=v:=by simpa using hr
 simp[results,h,hp',hq',hr',asAddr,h1,h2]
theorem results_cc{fn:Func}{p q:Tmp}{ty ty':TypeId}(h:fn.results=#[.cell p ty,.cell q ty'])(tmps:Array Value){b b':Nat}{l l':List Value}
  (hp:tmps.getD p undef=.pointer (some ⟨b,0,none⟩)) (hq:tmps.getD q undef=.pointer (some ⟨b',0,none⟩))
  (h1:(loadVar ty ⟨b,0,none⟩).run P w=.ok (.agg l.toArray) w) (h2:(loadVar ty' ⟨b',0,none⟩).run P w=.ok (.agg l'.toArray) w):
  (results fn tmps).run P w=.ok (.tuple #[.agg l.toArray,.agg l'.toArray]) w:=by
 have hp':tmps[p]?.getD undef=.pointer (some ⟨b,0,none⟩):=by simpa using hp
 have hq':tmps[q]?.getD undef=.pointer (some ⟨b',0,none⟩):=by simpa using hq
 simp[results,h,hp',hq',asAddr,h1,h2]
theorem results_ct{fn:Func}{p r:Tmp}{ty:TypeId}(h:fn.results=#[.cell p ty,.tmp r])(tmps:Array Value){b:Nat}{l:List Value}{v:Value}
  (hp:tmps.getD p undef=.pointer (some ⟨b,0,none⟩)) (hr:tmps.getD r undef=v) (h1:(loadVar ty ⟨b,0,none⟩).run P w=.ok (.agg l.toArray) w):
  (results fn tmps).run P w=.ok (.tuple #[.agg l.toArray,v]) w:=by
 have hp':tmps[p]?.getD undef=.pointer (some ⟨b,0,none⟩):=by simpa using hp
 have hr':tmps[r]?.getD undef=v:=by simpa using hr
 simp[results,h,hp',hr',asAddr,h1]
end
end
end Go.Proofs.YtndcjmopebcdgaaGreat
