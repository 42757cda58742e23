/- The worker's do, an instruction at a time. The worker's do: a comparison, memory. The worker's do: Save, Zero, Put, Get, Stop. The worker's do: Put, In, Out. The worker's do: Out, and do whole. The worker's try: what throws is caught. cell.Check, and a cell as a value. The reference's OwnCell, and words on cells that come back. -/
import Derived.Test.YtndcjmopebcdgaaGreatDoorCellSpec
import Derived.Test.YtndcjmopebcdgaaGreatDoorProg
import Derived.Test.YtndcjmopebcdgaaGreatDoorIsaB
import Derived.Test.YtndcjmopebcdgaaGreatDoorLineB
import Derived.Deep.RegionHeld3
import Derived.Deep.RegionWith
import Derived.RegionDies
import Derived.Deep.RegionLaw
import Derived.Defers
import Derived.Recover
import Derived.StillTailTactics
import Derived.Laws.Pointers
set_option linter.unusedSimpArgs false
set_option linter.unusedVariables false
namespace Go.Proofs.YtndcjmopebcdgaaGreatDoor
section
open Go.RowKit
def Old(w:World)(B:Nat)(v:Value)(l:List Int):Prop:=∃w0:World,w0.heap.size≤B∧Ints w0 v l∧Below w0.heap.size w0 w
theorem Old.on{w w':World}{B:Nat}{v:Value}{l:List Int}(h:Old w B v l)(hb:Below B w w'):Old w' B v l:=by
 obtain⟨w0,h1,h2,h3⟩:=h
 exact⟨w0,h1,h2,h3.trans (hb.mono h1)⟩
theorem Old.ints{w:World}{B:Nat}{v:Value}{l:List Int}(h:Old w B v l):Ints w v l:=by
 obtain⟨w0,h1,h2,h3⟩:=h
 exact h2.below h3
theorem Below.set_{B b o:Nat}{w W:World}(h:Below B w W)(hb:B≤b)(v:Value):Below B w (W.setCell ⟨b,o,none⟩ v):=h.setCell hb v
theorem Below.alloc_{B:Nat}{w W:World}(h:Below B w W)(hB:B≤W.heap.size)(o:Obj):Below B w (W.alloc o):=h.alloc hB o
structure Work(w:World)(B:Nat)(c:Cel)(ov iv:Value)(k:Wnt)(inp:List Int):Prop where
 blk:Blk w B 227 (workL c ov iv k)
 wf:c.wf
 out:OwnAs 3 w (B+1) ov c.out
 inp:Old w B iv inp
section
variable {w:World} {B:Nat} {c:Cel} {ov iv:Value} {k:Wnt} {inp:List Int}
theorem Work.alloc(h:Work w B c ov iv k inp)(o:Obj):Work (w.alloc o) B c ov iv k inp:=
 ⟨h.blk.alloc o,h.wf,h.out.below ((Below.refl _ _).alloc (Nat.le_refl _) _),h.inp.on ((Below.refl _ _).alloc (Nat.le_of_lt h.blk.lt) _)⟩
theorem Work.drewN(h:Work w B c ov iv k inp)(n:Nat):Work (w.drewN n) B c ov iv k inp:=
 ⟨h.blk.drewN n,h.wf,h.out.below (below_drewN (Below.refl _ _) n),h.inp.on (below_drewN (Below.refl _ _) n)⟩
theorem Work.put(h:Work w B c ov iv k inp){o:Nat}{u:Value}{c':Cel}{k':Wnt}(he:(workL c ov iv k).set o u=workL c' ov iv k')(hf:c'.wf)(ho:c'.out=c.out):Work (w.setCell ⟨B,o,none⟩ u) B c' ov iv k' inp:=
 ⟨(h.blk.set o u).same he,hf,by rw[ho];exact h.out.set Si u,h.inp.on (Below.set_ (Below.refl B w) (Nat.le_refl B) u)⟩
theorem Work.setAt(h:Work w B c ov iv k inp)(v:Int):Work (w.setCell ⟨B,0,none⟩ (.int .i64 v)) B {c with at_:=v} ov iv k inp:=h.put (set_at v) h.wf rfl
theorem Work.setReg(h:Work w B c ov iv k inp){a:Nat}(ha:a<4)(v:Int):Work (w.setCell ⟨B,1+a,none⟩ (.int .i64 v)) B {c with regs:=c.regs.set a v} ov iv k inp:=
 h.put (set_reg h.wf ha v) ⟨by simpa using h.wf.1,h.wf.2⟩ rfl
theorem Work.setMem(h:Work w B c ov iv k inp){a:Nat}(ha:a<8)(v:Int):Work (w.setCell ⟨B,5+a,none⟩ (.int .i64 v)) B {c with mem:=c.mem.set a v} ov iv k inp:=
 h.put (set_mem h.wf ha v) ⟨h.wf.1,by simpa using h.wf.2⟩ rfl
theorem Work.setRead(h:Work w B c ov iv k inp)(v:Int):Work (w.setCell ⟨B,13,none⟩ (.int .i64 v)) B {c with read:=v} ov iv k inp:=h.put (set_read h.wf v) h.wf rfl
theorem Work.setEnd(h:Work w B c ov iv k inp)(v:Int):Work (w.setCell ⟨B,15,none⟩ (.int .i64 v)) B {c with end_:=v} ov iv k inp:=h.put (set_end h.wf v) h.wf rfl
end
def Did(w:World)(B:Nat)(iv:Value)(inp:List Int)(r:Option (Cel×Wnt))(c:Cel)(ov:Value)(k:Wnt)(e:Ending)(w':World):Prop:=
 Below B w w'∧match r with
  |some (c',k')=>e=.returned (.tuple #[])∧∃ov',Work w' B c' ov' iv k' inp
  |none=>e=.panicked [{v:=.iface 259 (.agg #[]),recovered:=false}]∧Work w' B c ov iv k inp∧Below w.heap.size w w'
theorem Did.ok{w:World}{B:Nat}{iv ov:Value}{inp:List Int}{c c':Cel}{k k':Wnt}{w':World}{r:Option (Cel×Wnt)}(hr:r=some (c',k'))(hb:Below B w w')(ov':Value)(hw:Work w' B c' ov' iv k' inp):
  Did w B iv inp r c ov k (.returned (.tuple #[])) w':=by
 subst hr
 exact⟨hb,rfl,ov',hw⟩
theorem Did.no{w:World}{B:Nat}{iv ov:Value}{inp:List Int}{c:Cel}{k:Wnt}{w':World}{r:Option (Cel×Wnt)}(hr:r=none)(hlt:B<w.heap.size)(hb:Below w.heap.size w w')(hw:Work w' B c ov iv k inp):
  Did w B iv inp r c ov k (.panicked [{v:=.iface 259 (.agg #[]),recovered:=false}]) w':=by
 subst hr
 exact⟨hb.mono (Nat.le_of_lt hlt),rfl,hw,hb⟩
set_option maxRecDepth 100000 in
set_option maxHeartbeats 1000000 in
theorem do_1(B a b:Nat)(n:Int)(ha:a<4)(hb:b<4)(c:Cel)(ov iv:Value)(inp:List Int)(w:World)(hw:Work w B c ov iv Wnt.zero inp)(h0:0≤c.at_)(h1:c.at_≤20):
  Calls Tryz.prog 173 #[.pointer (some ⟨B,0,none⟩),.agg #[.int .i64 1,.int .i64 a,.int .i64 b,.int .i64 n]] w (Did w B iv inp (doOf ⟨1,a,b,n⟩ c inp) c ov Wnt.zero):=by
 have hblk:=hw.blk
 have hwf:=hw.wf
 have c0:w.cell? ⟨B,0,none⟩=some (.int .i64 c.at_):=(hblk.cell 0).trans work_at
 have ca:w.cell? ⟨B,1+a,none⟩=some (.int .i64 (c.regs.getD a 0)):=(hblk.cell _).trans (work_reg hwf ha)
 have cb:w.cell? ⟨B,1+b,none⟩=some (.int .i64 (c.regs.getD b 0)):=(hblk.cell _).trans (work_reg hwf hb)
 have fz:=hblk.frozen
 have hlt:=hblk.lt
 have a0:(0:Int)≤(a:Int):=by omega
 have a4:(a:Int)<4:=by omega
 have b0:(0:Int)≤(b:Int):=by omega
 have b4:(b:Int)<4:=by omega
 have HW:=hide hw
 clear hw hblk hwf
 obtain⟨ra,hra⟩:∃r,c.regs.getD a 0=r:=⟨_,rfl⟩
 obtain⟨rb,hrb⟩:∃r,c.regs.getD b 0=r:=⟨_,rfl⟩
 rw[hra] at ca
 rw[hrb] at cb
 have HRA:=hide hra
 have HRB:=hide hrb
 clear hra hrb
 go_enter Tryz.func173,Tryz.ntmps173
 go_wp2_with fail
 go_quiet (fail)
 go_wp2_with fail
 go_end0
 exact Did.ok (c':={c with regs:=c.regs.set a (n),at_:=c.at_+1}) (k':=Wnt.zero) (by(first|rfl|(rw[←HRB.out];rfl)|(rw[←HRA.out];rfl)|(rw[←HRA.out,←HRB.out];rfl))) (by repeat' (first|with_reducible exact Below.refl _ _|with_reducible refine below_drewN ?_ _|with_reducible refine Below.set_ ?_ (Nat.le_refl _) _|with_reducible refine Below.alloc_ ?_ (Nat.le_of_lt hlt) _)) ov ((((HW.out.alloc _).setReg ha (n)).setAt _).drewN _)
set_option maxRecDepth 100000 in
set_option maxHeartbeats 1000000 in
theorem do_2(B a b:Nat)(n:Int)(ha:a<4)(hb:b<4)(c:Cel)(ov iv:Value)(inp:List Int)(w:World)(hw:Work w B c ov iv Wnt.zero inp)(h0:0≤c.at_)(h1:c.at_≤20):
  Calls Tryz.prog 173 #[.pointer (some ⟨B,0,none⟩),.agg #[.int .i64 2,.int .i64 a,.int .i64 b,.int .i64 n]] w (Did w B iv inp (doOf ⟨2,a,b,n⟩ c inp) c ov Wnt.zero):=by
 have hblk:=hw.blk
 have hwf:=hw.wf
 have c0:w.cell? ⟨B,0,none⟩=some (.int .i64 c.at_):=(hblk.cell 0).trans work_at
 have ca:w.cell? ⟨B,1+a,none⟩=some (.int .i64 (c.regs.getD a 0)):=(hblk.cell _).trans (work_reg hwf ha)
 have cb:w.cell? ⟨B,1+b,none⟩=some (.int .i64 (c.regs.getD b 0)):=(hblk.cell _).trans (work_reg hwf hb)
 have fz:=hblk.frozen
 have hlt:=hblk.lt
 have a0:(0:Int)≤(a:Int):=by omega
 have a4:(a:Int)<4:=by omega
 have b0:(0:Int)≤(b:Int):=by omega
 have b4:(b:Int)<4:=by omega
 have HW:=hide hw
 clear hw hblk hwf
 obtain⟨ra,hra⟩:∃r,c.regs.getD a 0=r:=⟨_,rfl⟩
 obtain⟨rb,hrb⟩:∃r,c.regs.getD b 0=r:=⟨_,rfl⟩
 rw[hra] at ca
 rw[hrb] at cb
 have HRA:=hide hra
 have HRB:=hide hrb
 clear hra hrb
 go_enter Tryz.func173,Tryz.ntmps173
 go_wp2_with fail
 go_quiet (fail)
 go_wp2_with fail
 go_end0
 exact Did.ok (c':={c with regs:=c.regs.set a (rb),at_:=c.at_+1}) (k':=Wnt.zero) (by(first|rfl|(rw[←HRB.out];rfl)|(rw[←HRA.out];rfl)|(rw[←HRA.out,←HRB.out];rfl))) (by repeat' (first|with_reducible exact Below.refl _ _|with_reducible refine below_drewN ?_ _|with_reducible refine Below.set_ ?_ (Nat.le_refl _) _|with_reducible refine Below.alloc_ ?_ (Nat.le_of_lt hlt) _)) ov ((((HW.out.alloc _).setReg ha (rb)).setAt _).drewN _)
set_option maxRecDepth 100000 in
set_option maxHeartbeats 1000000 in
theorem do_3(B a b:Nat)(n:Int)(ha:a<4)(hb:b<4)(c:Cel)(ov iv:Value)(inp:List Int)(w:World)(hw:Work w B c ov iv Wnt.zero inp)(h0:0≤c.at_)(h1:c.at_≤20):
  Calls Tryz.prog 173 #[.pointer (some ⟨B,0,none⟩),.agg #[.int .i64 3,.int .i64 a,.int .i64 b,.int .i64 n]] w (Did w B iv inp (doOf ⟨3,a,b,n⟩ c inp) c ov Wnt.zero):=by
 have hblk:=hw.blk
 have hwf:=hw.wf
 have c0:w.cell? ⟨B,0,none⟩=some (.int .i64 c.at_):=(hblk.cell 0).trans work_at
 have ca:w.cell? ⟨B,1+a,none⟩=some (.int .i64 (c.regs.getD a 0)):=(hblk.cell _).trans (work_reg hwf ha)
 have cb:w.cell? ⟨B,1+b,none⟩=some (.int .i64 (c.regs.getD b 0)):=(hblk.cell _).trans (work_reg hwf hb)
 have fz:=hblk.frozen
 have hlt:=hblk.lt
 have a0:(0:Int)≤(a:Int):=by omega
 have a4:(a:Int)<4:=by omega
 have b0:(0:Int)≤(b:Int):=by omega
 have b4:(b:Int)<4:=by omega
 have HW:=hide hw
 clear hw hblk hwf
 obtain⟨ra,hra⟩:∃r,c.regs.getD a 0=r:=⟨_,rfl⟩
 obtain⟨rb,hrb⟩:∃r,c.regs.getD b 0=r:=⟨_,rfl⟩
 rw[hra] at ca
 rw[hrb] at cb
 have HRA:=hide hra
 have HRB:=hide hrb
 clear hra hrb
 go_enter Tryz.func173,Tryz.ntmps173
 go_wp2_with fail
 go_quiet (fail)
 go_wp2_with fail
 go_end0
 exact Did.ok (c':={c with regs:=c.regs.set a (wrap64 (ra+rb)),at_:=c.at_+1}) (k':=Wnt.zero) (by(first|rfl|(rw[←HRB.out];rfl)|(rw[←HRA.out];rfl)|(rw[←HRA.out,←HRB.out];rfl))) (by repeat' (first|with_reducible exact Below.refl _ _|with_reducible refine below_drewN ?_ _|with_reducible refine Below.set_ ?_ (Nat.le_refl _) _|with_reducible refine Below.alloc_ ?_ (Nat.le_of_lt hlt) _)) ov ((((HW.out.alloc _).setReg ha (wrap64 (ra+rb))).setAt _).drewN _)
set_option maxRecDepth 100000 in
set_option maxHeartbeats 1000000 in
theorem do_4(B a b:Nat)(n:Int)(ha:a<4)(hb:b<4)(c:Cel)(ov iv:Value)(inp:List Int)(w:World)(hw:Work w B c ov iv Wnt.zero inp)(h0:0≤c.at_)(h1:c.at_≤20):
  Calls Tryz.prog 173 #[.pointer (some ⟨B,0,none⟩),.agg #[.int .i64 4,.int .i64 a,.int .i64 b,.int .i64 n]] w (Did w B iv inp (doOf ⟨4,a,b,n⟩ c inp) c ov Wnt.zero):=by
 have hblk:=hw.blk
 have hwf:=hw.wf
 have c0:w.cell? ⟨B,0,none⟩=some (.int .i64 c.at_):=(hblk.cell 0).trans work_at
 have ca:w.cell? ⟨B,1+a,none⟩=some (.int .i64 (c.regs.getD a 0)):=(hblk.cell _).trans (work_reg hwf ha)
 have cb:w.cell? ⟨B,1+b,none⟩=some (.int .i64 (c.regs.getD b 0)):=(hblk.cell _).trans (work_reg hwf hb)
 have fz:=hblk.frozen
 have hlt:=hblk.lt
 have a0:(0:Int)≤(a:Int):=by omega
 have a4:(a:Int)<4:=by omega
 have b0:(0:Int)≤(b:Int):=by omega
 have b4:(b:Int)<4:=by omega
 have HW:=hide hw
 clear hw hblk hwf
 obtain⟨ra,hra⟩:∃r,c.regs.getD a 0=r:=⟨_,rfl⟩
 obtain⟨rb,hrb⟩:∃r,c.regs.getD b 0=r:=⟨_,rfl⟩
 rw[hra] at ca
 rw[hrb] at cb
 have HRA:=hide hra
 have HRB:=hide hrb
 clear hra hrb
 go_enter Tryz.func173,Tryz.ntmps173
 go_wp2_with fail
 go_quiet (fail)
 go_wp2_with fail
 go_end0
 exact Did.ok (c':={c with regs:=c.regs.set a (wrap64 (ra - rb)),at_:=c.at_+1}) (k':=Wnt.zero) (by(first|rfl|(rw[←HRB.out];rfl)|(rw[←HRA.out];rfl)|(rw[←HRA.out,←HRB.out];rfl))) (by repeat' (first|with_reducible exact Below.refl _ _|with_reducible refine below_drewN ?_ _|with_reducible refine Below.set_ ?_ (Nat.le_refl _) _|with_reducible refine Below.alloc_ ?_ (Nat.le_of_lt hlt) _)) ov ((((HW.out.alloc _).setReg ha (wrap64 (ra - rb))).setAt _).drewN _)
set_option maxRecDepth 100000 in
set_option maxHeartbeats 1000000 in
theorem do_8(B a b:Nat)(n:Int)(ha:a<4)(hb:b<4)(c:Cel)(ov iv:Value)(inp:List Int)(w:World)(hw:Work w B c ov iv Wnt.zero inp)(h0:0≤c.at_)(h1:c.at_≤20):
  Calls Tryz.prog 173 #[.pointer (some ⟨B,0,none⟩),.agg #[.int .i64 8,.int .i64 a,.int .i64 b,.int .i64 n]] w (Did w B iv inp (doOf ⟨8,a,b,n⟩ c inp) c ov Wnt.zero):=by
 have hblk:=hw.blk
 have hwf:=hw.wf
 have c0:w.cell? ⟨B,0,none⟩=some (.int .i64 c.at_):=(hblk.cell 0).trans work_at
 have ca:w.cell? ⟨B,1+a,none⟩=some (.int .i64 (c.regs.getD a 0)):=(hblk.cell _).trans (work_reg hwf ha)
 have cb:w.cell? ⟨B,1+b,none⟩=some (.int .i64 (c.regs.getD b 0)):=(hblk.cell _).trans (work_reg hwf hb)
 have fz:=hblk.frozen
 have hlt:=hblk.lt
 have a0:(0:Int)≤(a:Int):=by omega
 have a4:(a:Int)<4:=by omega
 have b0:(0:Int)≤(b:Int):=by omega
 have b4:(b:Int)<4:=by omega
 have HW:=hide hw
 clear hw hblk hwf
 obtain⟨ra,hra⟩:∃r,c.regs.getD a 0=r:=⟨_,rfl⟩
 obtain⟨rb,hrb⟩:∃r,c.regs.getD b 0=r:=⟨_,rfl⟩
 rw[hra] at ca
 rw[hrb] at cb
 have HRA:=hide hra
 have HRB:=hide hrb
 clear hra hrb
 go_enter Tryz.func173,Tryz.ntmps173
 go_wp2_with fail
 go_quiet (fail)
 go_wp2_with fail
 go_end0
 exact Did.ok (c':={c with at_:=n}) (k':=Wnt.zero) rfl (by repeat' (first|with_reducible exact Below.refl _ _|with_reducible refine below_drewN ?_ _|with_reducible refine Below.set_ ?_ (Nat.le_refl _) _|with_reducible refine Below.alloc_ ?_ (Nat.le_of_lt hlt) _)) ov (((HW.out.alloc _).setAt _).drewN _)
set_option maxRecDepth 100000 in
set_option maxHeartbeats 1000000 in
theorem do_14(B a b:Nat)(n:Int)(ha:a<4)(hb:b<4)(c:Cel)(ov iv:Value)(inp:List Int)(w:World)(hw:Work w B c ov iv Wnt.zero inp)(h0:0≤c.at_)(h1:c.at_≤20):
  Calls Tryz.prog 173 #[.pointer (some ⟨B,0,none⟩),.agg #[.int .i64 14,.int .i64 a,.int .i64 b,.int .i64 n]] w (Did w B iv inp (doOf ⟨14,a,b,n⟩ c inp) c ov Wnt.zero):=by
 have hblk:=hw.blk
 have hwf:=hw.wf
 have c0:w.cell? ⟨B,0,none⟩=some (.int .i64 c.at_):=(hblk.cell 0).trans work_at
 have ca:w.cell? ⟨B,1+a,none⟩=some (.int .i64 (c.regs.getD a 0)):=(hblk.cell _).trans (work_reg hwf ha)
 have cb:w.cell? ⟨B,1+b,none⟩=some (.int .i64 (c.regs.getD b 0)):=(hblk.cell _).trans (work_reg hwf hb)
 have fz:=hblk.frozen
 have hlt:=hblk.lt
 have a0:(0:Int)≤(a:Int):=by omega
 have a4:(a:Int)<4:=by omega
 have b0:(0:Int)≤(b:Int):=by omega
 have b4:(b:Int)<4:=by omega
 have HW:=hide hw
 clear hw hblk hwf
 obtain⟨ra,hra⟩:∃r,c.regs.getD a 0=r:=⟨_,rfl⟩
 obtain⟨rb,hrb⟩:∃r,c.regs.getD b 0=r:=⟨_,rfl⟩
 rw[hra] at ca
 rw[hrb] at cb
 have HRA:=hide hra
 have HRB:=hide hrb
 clear hra hrb
 go_enter Tryz.func173,Tryz.ntmps173
 go_wp2_with fail
 go_quiet (fail)
 go_wp2_with fail
 go_end0
 exact Did.ok (c':={c with at_:=c.at_+1}) (k':=Wnt.zero) rfl (by repeat' (first|with_reducible exact Below.refl _ _|with_reducible refine below_drewN ?_ _|with_reducible refine Below.set_ ?_ (Nat.le_refl _) _|with_reducible refine Below.alloc_ ?_ (Nat.le_of_lt hlt) _)) ov (((HW.out.alloc _).setAt _).drewN _)
end
section
open Go.RowKit
theorem bit_any(b:Bool)(w:World):Calls Tryz.prog 141 #[.bool b] w fun e w'=>e=.returned (.int .i64 (bitI b))∧w=w':=by
 cases b
 all_goals
  go_enter Tryz.func141,Tryz.ntmps141
  go_wp2_with fail
  go_ret
  exact⟨rfl,rfl⟩
theorem word_ok(B:Nat)(k:Int)(h0:0≤k)(h8:k<8)(w:World):
  Calls Tryz.prog 199 #[.pointer (some ⟨B,0,none⟩),.int .i64 k] w fun e w'=>e=.returned (.pointer (some ⟨B,5+k.toNat,none⟩))∧w=w':=by
 obtain⟨n,rfl⟩:=Int.eq_ofNat_of_zero_le h0
 have d1:decide ((n:Int)<0)=false:=by simp<;>omega
 have d2:decide (8≤(n:Int))=false:=by simp<;>omega
 go_enter Tryz.func199,Tryz.ntmps199
 go_wp2_with fail
 go_ret
 exact⟨rfl,rfl⟩
theorem word_bad(B:Nat)(k:Int)(h:¬(0≤k∧k<8))(w:World):
  Calls Tryz.prog 199 #[.pointer (some ⟨B,0,none⟩),.int .i64 k] w fun e w'=>e=.panicked [{v:=.iface 259 (.agg #[]),recovered:=false}]∧w=w':=by
 rcases Int.lt_or_le k 0 with h0|h0
 ·have d1:decide (k<0)=true:=by simpa using h0
  clear h
  go_enter Tryz.func199,Tryz.ntmps199
  go_wp2_with fail
  exact⟨rfl,rfl,rfl⟩
 ·have d1:decide (k<0)=false:=by simp<;>omega
  have d2:decide (8≤k)=true:=by simp<;>omega
  clear h
  go_enter Tryz.func199,Tryz.ntmps199
  go_wp2_with fail
  exact⟨rfl,rfl,rfl⟩
set_option maxRecDepth 100000 in
set_option maxHeartbeats 1000000 in
theorem do_5(B a b:Nat)(n:Int)(ha:a<4)(hb:b<4)(c:Cel)(ov iv:Value)(inp:List Int)(w:World)(hw:Work w B c ov iv Wnt.zero inp)(h0:0≤c.at_)(h1:c.at_≤20):
  Calls Tryz.prog 173 #[.pointer (some ⟨B,0,none⟩),.agg #[.int .i64 5,.int .i64 a,.int .i64 b,.int .i64 n]] w (Did w B iv inp (doOf ⟨5,a,b,n⟩ c inp) c ov Wnt.zero):=by
 have hblk:=hw.blk
 have hwf:=hw.wf
 have c0:w.cell? ⟨B,0,none⟩=some (.int .i64 c.at_):=(hblk.cell 0).trans work_at
 have ca:w.cell? ⟨B,1+a,none⟩=some (.int .i64 (c.regs.getD a 0)):=(hblk.cell _).trans (work_reg hwf ha)
 have cb:w.cell? ⟨B,1+b,none⟩=some (.int .i64 (c.regs.getD b 0)):=(hblk.cell _).trans (work_reg hwf hb)
 have fz:=hblk.frozen
 have hlt:=hblk.lt
 have a0:(0:Int)≤(a:Int):=by omega
 have a4:(a:Int)<4:=by omega
 have b0:(0:Int)≤(b:Int):=by omega
 have b4:(b:Int)<4:=by omega
 have HW:=hide hw
 clear hw hblk hwf
 obtain⟨ra,hra⟩:∃r,c.regs.getD a 0=r:=⟨_,rfl⟩
 obtain⟨rb,hrb⟩:∃r,c.regs.getD b 0=r:=⟨_,rfl⟩
 rw[hra] at ca
 rw[hrb] at cb
 have HRA:=hide hra
 have HRB:=hide hrb
 clear hra hrb
 go_enter Tryz.func173,Tryz.ntmps173
 go_wp2_with fail
 go_quiet (fail)
 go_wp2_with (go_at_call 141;refine(bit_any _ _).mono ?_;rintro e w' ⟨rfl,rfl⟩)
 go_end0
 exact Did.ok (c':={c with regs:=c.regs.set a (bitI (decide (ra<rb))),at_:=c.at_+1}) (k':=Wnt.zero) (by(first|rfl|(rw[←HRB.out];rfl)|(rw[←HRA.out];rfl)|(rw[←HRA.out,←HRB.out];rfl))) (by repeat' (first|with_reducible exact Below.refl _ _|with_reducible refine below_drewN ?_ _|with_reducible refine Below.set_ ?_ (Nat.le_refl _) _|with_reducible refine Below.alloc_ ?_ (Nat.le_of_lt hlt) _)) ov ((((HW.out.alloc _).setReg ha (bitI (decide (ra<rb)))).setAt _).drewN _)
set_option maxRecDepth 100000 in
set_option maxHeartbeats 1000000 in
theorem do_6ok(B a b:Nat)(n:Int)(ha:a<4)(hb:b<4)(c:Cel)(ov iv:Value)(inp:List Int)(w:World)(hw:Work w B c ov iv Wnt.zero inp)(h0:0≤c.at_)(h1:c.at_≤20):
  Calls Tryz.prog 173 #[.pointer (some ⟨B,0,none⟩),.agg #[.int .i64 6,.int .i64 a,.int .i64 b,.int .i64 n]] w (Did w B iv inp (doOf ⟨6,a,b,n⟩ c inp) c ov Wnt.zero):=by
 have hblk:=hw.blk
 have hwf:=hw.wf
 have c0:w.cell? ⟨B,0,none⟩=some (.int .i64 c.at_):=(hblk.cell 0).trans work_at
 have ca:w.cell? ⟨B,1+a,none⟩=some (.int .i64 (c.regs.getD a 0)):=(hblk.cell _).trans (work_reg hwf ha)
 have cb:w.cell? ⟨B,1+b,none⟩=some (.int .i64 (c.regs.getD b 0)):=(hblk.cell _).trans (work_reg hwf hb)
 have fz:=hblk.frozen
 have hlt:=hblk.lt
 have a0:(0:Int)≤(a:Int):=by omega
 have a4:(a:Int)<4:=by omega
 have b0:(0:Int)≤(b:Int):=by omega
 have b4:(b:Int)<4:=by omega
 have HW:=hide hw
 clear hw hblk hwf
 obtain⟨ra,hra⟩:∃r,c.regs.getD a 0=r:=⟨_,rfl⟩
 obtain⟨rb,hrb⟩:∃r,c.regs.getD b 0=r:=⟨_,rfl⟩
 rw[hra] at ca
 rw[hrb] at cb
 have HRA:=hide hra
 have HRB:=hide hrb
 clear hra hrb
 by_cases hr:0≤rb∧rb<8
 ·have cm:w.cell? ⟨B,5+rb.toNat,none⟩=some (.int .i64 (c.mem.getD rb.toNat 0)):=(HW.out.blk.cell _).trans (work_mem HW.out.wf Om)
  obtain⟨mv,hmv⟩:∃r,c.mem.getD rb.toNat 0=r:=⟨_,rfl⟩
  rw[hmv] at cm
  have HMV:=hide hmv
  have HWD:=hide (word_ok B rb hr.1 hr.2)
  have HR:=hide hr
  clear hmv hr
  go_enter Tryz.func173,Tryz.ntmps173
  go_wp2_with fail
  go_quiet (fail)
  go_wp2_with (go_at_call 199;refine(HWD.out _).mono ?_;rintro e w' ⟨rfl,rfl⟩)
  go_end0
  exact Did.ok (c':={c with regs:=c.regs.set a mv,at_:=c.at_+1}) (k':=Wnt.zero) (by have h:=HR.out;subst mv;rw[←HRB.out] at h⊢;exact if_pos h) (by repeat' (first|with_reducible exact Below.refl _ _|with_reducible refine below_drewN ?_ _|with_reducible refine Below.set_ ?_ (Nat.le_refl _) _|with_reducible refine Below.alloc_ ?_ (Nat.le_of_lt hlt) _)) ov ((((HW.out.alloc _).setReg ha mv).setAt _).drewN _)
 ·have HWD:=hide (word_bad B rb hr)
  have HR:=hide hr
  clear hr
  go_enter Tryz.func173,Tryz.ntmps173
  go_wp2_with fail
  go_quiet (fail)
  go_wp2_with (go_at_call 199;refine(HWD.out _).mono ?_;rintro e w' ⟨rfl,rfl⟩)
  refine⟨rfl,?_⟩
  exact Did.no (by have h:=HR.out;rw[←HRB.out] at h;exact if_neg h) hlt Bl ((HW.out.alloc _).drewN _)
end
section
open Go.RowKit
set_option maxRecDepth 100000 in
set_option maxHeartbeats 1000000 in
theorem do_7(B a b:Nat)(n:Int)(ha:a<4)(hb:b<4)(c:Cel)(ov iv:Value)(inp:List Int)(w:World)(hw:Work w B c ov iv Wnt.zero inp)(h0:0≤c.at_)(h1:c.at_≤20):
  Calls Tryz.prog 173 #[.pointer (some ⟨B,0,none⟩),.agg #[.int .i64 7,.int .i64 a,.int .i64 b,.int .i64 n]] w (Did w B iv inp (doOf ⟨7,a,b,n⟩ c inp) c ov Wnt.zero):=by
 have hblk:=hw.blk
 have hwf:=hw.wf
 have c0:w.cell? ⟨B,0,none⟩=some (.int .i64 c.at_):=(hblk.cell 0).trans work_at
 have ca:w.cell? ⟨B,1+a,none⟩=some (.int .i64 (c.regs.getD a 0)):=(hblk.cell _).trans (work_reg hwf ha)
 have cb:w.cell? ⟨B,1+b,none⟩=some (.int .i64 (c.regs.getD b 0)):=(hblk.cell _).trans (work_reg hwf hb)
 have fz:=hblk.frozen
 have hlt:=hblk.lt
 have a0:(0:Int)≤(a:Int):=by omega
 have a4:(a:Int)<4:=by omega
 have b0:(0:Int)≤(b:Int):=by omega
 have b4:(b:Int)<4:=by omega
 have HW:=hide hw
 clear hw hblk hwf
 obtain⟨ra,hra⟩:∃r,c.regs.getD a 0=r:=⟨_,rfl⟩
 obtain⟨rb,hrb⟩:∃r,c.regs.getD b 0=r:=⟨_,rfl⟩
 rw[hra] at ca
 rw[hrb] at cb
 have HRA:=hide hra
 have HRB:=hide hrb
 clear hra hrb
 by_cases hr:0≤rb∧rb<8
 ·have cm:w.cell? ⟨B,5+rb.toNat,none⟩=some (.int .i64 (c.mem.getD rb.toNat 0)):=(HW.out.blk.cell _).trans (work_mem HW.out.wf Om)
  have HWD:=hide (word_ok B rb hr.1 hr.2)
  have HR:=hide hr
  clear hr
  go_enter Tryz.func173,Tryz.ntmps173
  go_wp2_with fail
  go_quiet (fail)
  go_wp2_with fail
  go_region_with (go_at_call 199;refine(HWD.out _).mono ?_;rintro e w' ⟨rfl,rfl⟩)
  all_goals
   go_wp2_with fail
   go_end0
   exact Did.ok (c':={c with mem:=c.mem.set rb.toNat ra,at_:=c.at_+1}) (k':=Wnt.zero) (by have h:=HR.out;rw[←HRB.out] at h⊢;rw[←HRA.out];exact if_pos h) (by repeat' (first|with_reducible exact Below.refl _ _|with_reducible refine below_drewN ?_ _|with_reducible refine Below.set_ ?_ (Nat.le_refl _) _|with_reducible refine Below.alloc_ ?_ (Nat.le_of_lt hlt) _)) ov ((((HW.out.alloc _).setMem (by have h:=HR.out;omega) ra).setAt _).drewN _)
 ·have HWD:=hide (word_bad B rb hr)
  have HR:=hide hr
  clear hr
  go_enter Tryz.func173,Tryz.ntmps173
  go_wp2_with fail
  go_quiet (fail)
  go_wp2_with fail
  go_region_dies
  all_goals
   go_wp2_with (go_at_call 199;refine(HWD.out _).mono ?_;rintro e w' ⟨rfl,rfl⟩)
   refine⟨rfl,?_⟩
   exact Did.no (by have h:=HR.out;rw[←HRB.out] at h;exact if_neg h) hlt Bl ((HW.out.alloc _).drewN _)
set_option maxRecDepth 100000 in
set_option maxHeartbeats 1000000 in
theorem do_9(B a b:Nat)(n:Int)(ha:a<4)(hb:b<4)(c:Cel)(ov iv:Value)(inp:List Int)(w:World)(hw:Work w B c ov iv Wnt.zero inp)(h0:0≤c.at_)(h1:c.at_≤20):
  Calls Tryz.prog 173 #[.pointer (some ⟨B,0,none⟩),.agg #[.int .i64 9,.int .i64 a,.int .i64 b,.int .i64 n]] w (Did w B iv inp (doOf ⟨9,a,b,n⟩ c inp) c ov Wnt.zero):=by
 have hblk:=hw.blk
 have hwf:=hw.wf
 have c0:w.cell? ⟨B,0,none⟩=some (.int .i64 c.at_):=(hblk.cell 0).trans work_at
 have ca:w.cell? ⟨B,1+a,none⟩=some (.int .i64 (c.regs.getD a 0)):=(hblk.cell _).trans (work_reg hwf ha)
 have cb:w.cell? ⟨B,1+b,none⟩=some (.int .i64 (c.regs.getD b 0)):=(hblk.cell _).trans (work_reg hwf hb)
 have fz:=hblk.frozen
 have hlt:=hblk.lt
 have a0:(0:Int)≤(a:Int):=by omega
 have a4:(a:Int)<4:=by omega
 have b0:(0:Int)≤(b:Int):=by omega
 have b4:(b:Int)<4:=by omega
 have HW:=hide hw
 clear hw hblk hwf
 obtain⟨ra,hra⟩:∃r,c.regs.getD a 0=r:=⟨_,rfl⟩
 obtain⟨rb,hrb⟩:∃r,c.regs.getD b 0=r:=⟨_,rfl⟩
 rw[hra] at ca
 rw[hrb] at cb
 have HRA:=hide hra
 have HRB:=hide hrb
 clear hra hrb
 by_cases hz:ra=0
 ·have hz':(ra==0)=true:=by simpa using hz
  have HZ:=hide hz
  clear hz
  go_enter Tryz.func173,Tryz.ntmps173
  go_wp2_with fail
  go_quiet (fail)
  go_wp2_with fail
  go_end0
  exact Did.ok (c':={c with at_:=n}) (k':=Wnt.zero) (by have h:=HZ.out;rw[←HRA.out] at h;show some ({c with at_:=if c.regs.getD a 0=0 then n else c.at_+1},Wnt.zero)=_;rw[if_pos h]) (by repeat' (first|with_reducible exact Below.refl _ _|with_reducible refine below_drewN ?_ _|with_reducible refine Below.set_ ?_ (Nat.le_refl _) _|with_reducible refine Below.alloc_ ?_ (Nat.le_of_lt hlt) _)) ov (((HW.out.alloc _).setAt _).drewN _)
 ·have hz':(ra==0)=false:=by simpa using hz
  have HZ:=hide hz
  clear hz
  go_enter Tryz.func173,Tryz.ntmps173
  go_wp2_with fail
  go_quiet (fail)
  go_wp2_with fail
  go_end0
  exact Did.ok (c':={c with at_:=c.at_+1}) (k':=Wnt.zero) (by have h:=HZ.out;rw[←HRA.out] at h;show some ({c with at_:=if c.regs.getD a 0=0 then n else c.at_+1},Wnt.zero)=_;rw[if_neg h]) (by repeat' (first|with_reducible exact Below.refl _ _|with_reducible refine below_drewN ?_ _|with_reducible refine Below.set_ ?_ (Nat.le_refl _) _|with_reducible refine Below.alloc_ ?_ (Nat.le_of_lt hlt) _)) ov (((HW.out.alloc _).setAt _).drewN _)
theorem Work.setWant{w:World}{B:Nat}{c:Cel}{ov iv:Value}{k:Wnt}{inp:List Int}(h:Work w B c ov iv k inp)(x y z u v:Int):
  Work (((((w.setCell ⟨B,17,none⟩ (.int .i64 x)).setCell ⟨B,18,none⟩ (.int .i64 y)).setCell ⟨B,19,none⟩ (.int .i64 z)).setCell ⟨B,20,none⟩ (.int .i64 u)).setCell ⟨B,21,none⟩ (.int .i64 v)) B c ov iv ⟨x,y,z,u,v⟩ inp:=
 ⟨(((((h.blk.set 17 _).set 18 _).set 19 _).set 20 _).set 21 _).same (set_want h.wf x y z u v),h.wf,((((h.out.set Si _).set Si _).set Si _).set Si _).set Si _,
  h.inp.on (Below.set_ (Below.set_ (Below.set_ (Below.set_ (Below.set_ (Below.refl B w) (Nat.le_refl B) _) (Nat.le_refl B) _) (Nat.le_refl B) _) (Nat.le_refl B) _) (Nat.le_refl B) _)⟩
set_option maxRecDepth 100000 in
set_option maxHeartbeats 1000000 in
theorem do_13(B a b:Nat)(n:Int)(ha:a<4)(hb:b<4)(c:Cel)(ov iv:Value)(inp:List Int)(w:World)(hw:Work w B c ov iv Wnt.zero inp)(h0:0≤c.at_)(h1:c.at_≤20):
  Calls Tryz.prog 173 #[.pointer (some ⟨B,0,none⟩),.agg #[.int .i64 13,.int .i64 a,.int .i64 b,.int .i64 n]] w (Did w B iv inp (doOf ⟨13,a,b,n⟩ c inp) c ov Wnt.zero):=by
 have hblk:=hw.blk
 have hwf:=hw.wf
 have c0:w.cell? ⟨B,0,none⟩=some (.int .i64 c.at_):=(hblk.cell 0).trans work_at
 have ca:w.cell? ⟨B,1+a,none⟩=some (.int .i64 (c.regs.getD a 0)):=(hblk.cell _).trans (work_reg hwf ha)
 have cb:w.cell? ⟨B,1+b,none⟩=some (.int .i64 (c.regs.getD b 0)):=(hblk.cell _).trans (work_reg hwf hb)
 have fz:=hblk.frozen
 have hlt:=hblk.lt
 have a0:(0:Int)≤(a:Int):=by omega
 have a4:(a:Int)<4:=by omega
 have b0:(0:Int)≤(b:Int):=by omega
 have b4:(b:Int)<4:=by omega
 have HW:=hide hw
 clear hw hblk hwf
 obtain⟨ra,hra⟩:∃r,c.regs.getD a 0=r:=⟨_,rfl⟩
 obtain⟨rb,hrb⟩:∃r,c.regs.getD b 0=r:=⟨_,rfl⟩
 rw[hra] at ca
 rw[hrb] at cb
 have HRA:=hide hra
 have HRB:=hide hrb
 clear hra hrb
 have k17:w.cell? ⟨B,17,none⟩=some (.int .i64 0):=(HW.out.blk.cell _).trans (work_want HW.out.wf 0)
 have k18:w.cell? ⟨B,18,none⟩=some (.int .i64 0):=(HW.out.blk.cell _).trans (work_want HW.out.wf 1)
 have k19:w.cell? ⟨B,19,none⟩=some (.int .i64 0):=(HW.out.blk.cell _).trans (work_want HW.out.wf 2)
 have k20:w.cell? ⟨B,20,none⟩=some (.int .i64 0):=(HW.out.blk.cell _).trans (work_want HW.out.wf 3)
 have k21:w.cell? ⟨B,21,none⟩=some (.int .i64 0):=(HW.out.blk.cell _).trans (work_want HW.out.wf 4)
 go_enter Tryz.func173,Tryz.ntmps173
 go_wp2_with fail
 go_quiet (fail)
 go_wp2_with fail
 go_end0
 exact Did.ok (c':={c with at_:=c.at_+1}) (k':=⟨13,n,a,b,0⟩) rfl (by repeat' (first|with_reducible exact Below.refl _ _|with_reducible refine below_drewN ?_ _|with_reducible refine Below.set_ ?_ (Nat.le_refl _) _|with_reducible refine Below.alloc_ ?_ (Nat.le_of_lt hlt) _)) ov ((((HW.out.alloc _).drewN _).setWant 13 n a b 0).setAt _)
set_option maxRecDepth 100000 in
set_option maxHeartbeats 1000000 in
theorem do_15(B a b:Nat)(n:Int)(ha:a<4)(hb:b<4)(c:Cel)(ov iv:Value)(inp:List Int)(w:World)(hw:Work w B c ov iv Wnt.zero inp)(h0:0≤c.at_)(h1:c.at_≤20):
  Calls Tryz.prog 173 #[.pointer (some ⟨B,0,none⟩),.agg #[.int .i64 15,.int .i64 a,.int .i64 b,.int .i64 n]] w (Did w B iv inp (doOf ⟨15,a,b,n⟩ c inp) c ov Wnt.zero):=by
 have hblk:=hw.blk
 have hwf:=hw.wf
 have c0:w.cell? ⟨B,0,none⟩=some (.int .i64 c.at_):=(hblk.cell 0).trans work_at
 have ca:w.cell? ⟨B,1+a,none⟩=some (.int .i64 (c.regs.getD a 0)):=(hblk.cell _).trans (work_reg hwf ha)
 have cb:w.cell? ⟨B,1+b,none⟩=some (.int .i64 (c.regs.getD b 0)):=(hblk.cell _).trans (work_reg hwf hb)
 have fz:=hblk.frozen
 have hlt:=hblk.lt
 have a0:(0:Int)≤(a:Int):=by omega
 have a4:(a:Int)<4:=by omega
 have b0:(0:Int)≤(b:Int):=by omega
 have b4:(b:Int)<4:=by omega
 have HW:=hide hw
 clear hw hblk hwf
 obtain⟨ra,hra⟩:∃r,c.regs.getD a 0=r:=⟨_,rfl⟩
 obtain⟨rb,hrb⟩:∃r,c.regs.getD b 0=r:=⟨_,rfl⟩
 rw[hra] at ca
 rw[hrb] at cb
 have HRA:=hide hra
 have HRB:=hide hrb
 clear hra hrb
 have k15:w.cell? ⟨B,15,none⟩=some (.int .i64 c.end_):=(HW.out.blk.cell _).trans (work_end HW.out.wf)
 go_enter Tryz.func173,Tryz.ntmps173
 go_wp2_with fail
 go_quiet (fail)
 go_wp2_with fail
 go_end0
 exact Did.ok (c':={c with end_:=1}) (k':=Wnt.zero) rfl (by repeat' (first|with_reducible exact Below.refl _ _|with_reducible refine below_drewN ?_ _|with_reducible refine Below.set_ ?_ (Nat.le_refl _) _|with_reducible refine Below.alloc_ ?_ (Nat.le_of_lt hlt) _)) ov ((((HW.out.alloc _).setEnd 1).setAt _).drewN _)
end
section
open Go.RowKit
set_option maxRecDepth 100000 in
set_option maxHeartbeats 1000000 in
theorem do_12(B a b:Nat)(n:Int)(ha:a<4)(hb:b<4)(c:Cel)(ov iv:Value)(inp:List Int)(w:World)(hw:Work w B c ov iv Wnt.zero inp)(h0:0≤c.at_)(h1:c.at_≤20):
  Calls Tryz.prog 173 #[.pointer (some ⟨B,0,none⟩),.agg #[.int .i64 12,.int .i64 a,.int .i64 b,.int .i64 n]] w (Did w B iv inp (doOf ⟨12,a,b,n⟩ c inp) c ov Wnt.zero):=by
 have hblk:=hw.blk
 have hwf:=hw.wf
 have c0:w.cell? ⟨B,0,none⟩=some (.int .i64 c.at_):=(hblk.cell 0).trans work_at
 have ca:w.cell? ⟨B,1+a,none⟩=some (.int .i64 (c.regs.getD a 0)):=(hblk.cell _).trans (work_reg hwf ha)
 have cb:w.cell? ⟨B,1+b,none⟩=some (.int .i64 (c.regs.getD b 0)):=(hblk.cell _).trans (work_reg hwf hb)
 have fz:=hblk.frozen
 have hlt:=hblk.lt
 have a0:(0:Int)≤(a:Int):=by omega
 have a4:(a:Int)<4:=by omega
 have b0:(0:Int)≤(b:Int):=by omega
 have b4:(b:Int)<4:=by omega
 have HW:=hide hw
 clear hw hblk hwf
 obtain⟨ra,hra⟩:∃r,c.regs.getD a 0=r:=⟨_,rfl⟩
 obtain⟨rb,hrb⟩:∃r,c.regs.getD b 0=r:=⟨_,rfl⟩
 rw[hra] at ca
 rw[hrb] at cb
 have HRA:=hide hra
 have HRB:=hide hrb
 clear hra hrb
 have k17:w.cell? ⟨B,17,none⟩=some (.int .i64 0):=(HW.out.blk.cell _).trans (work_want HW.out.wf 0)
 have k18:w.cell? ⟨B,18,none⟩=some (.int .i64 0):=(HW.out.blk.cell _).trans (work_want HW.out.wf 1)
 have k19:w.cell? ⟨B,19,none⟩=some (.int .i64 0):=(HW.out.blk.cell _).trans (work_want HW.out.wf 2)
 have k20:w.cell? ⟨B,20,none⟩=some (.int .i64 0):=(HW.out.blk.cell _).trans (work_want HW.out.wf 3)
 have k21:w.cell? ⟨B,21,none⟩=some (.int .i64 0):=(HW.out.blk.cell _).trans (work_want HW.out.wf 4)
 go_enter Tryz.func173,Tryz.ntmps173
 go_wp2_with fail
 go_quiet (fail)
 go_wp2_with fail
 go_region
 all_goals
  go_wp2_with fail
  go_end0
  exact Did.ok (c':={c with at_:=c.at_+1}) (k':=⟨12,n,a,0,ra⟩) (by rw[←HRA.out];rfl) (by repeat' (first|with_reducible exact Below.refl _ _|with_reducible refine below_drewN ?_ _|with_reducible refine Below.set_ ?_ (Nat.le_refl _) _|with_reducible refine Below.alloc_ ?_ (Nat.le_of_lt hlt) _)) ov ((((HW.out.alloc _).drewN _).setWant 12 n a 0 ra).setAt _)
theorem draw_set(w:World)(p:Addr)(v:Value)(a b:Nat):((w.drewN a).setCell p v).drewN b=(w.setCell p v).drewN (a+b):=by
 simp[World.drewN,World.setCell,Nat.add_assoc]
def Nexted(w:World)(B:Nat)(c:Cel)(inp:List Int)(e:Ending)(w':World):Prop:=
 ∃q,e=.returned (.int .i64 (inp.getD c.read.toNat 0))∧w'=(w.setCell ⟨B,13,none⟩ (.int .i64 (c.read+1))).drewN q
set_option maxRecDepth 100000 in
set_option maxHeartbeats 1000000 in
theorem next_some(B:Nat)(c:Cel)(ov iv:Value)(k:Wnt)(inp:List Int)(w:World)(hw:Work w B c ov iv k inp)(h0:0≤c.read)(h1:c.read<inp.length)(h2:c.read≤12):
  Calls Tryz.prog 200 #[.pointer (some ⟨B,0,none⟩)] w (Nexted w B c inp):=by
 obtain⟨w0,hB,⟨A,cc,rfl,hc,hm,hr⟩,hbel⟩:=hw.inp
 have k13:w.cell? ⟨B,13,none⟩=some (.int .i64 c.read):=(hw.blk.cell _).trans (work_read hw.wf)
 have k16:w.cell? ⟨B,16,none⟩=some (.slice A inp.length cc):=(hw.blk.cell _).trans (work_in hw.wf)
 have fz:=hw.blk.frozen
 obtain⟨r,hrr⟩:=Int.eq_ofNat_of_zero_le h0
 rw[hrr] at h1 h2 k13
 have hrl:r<inp.length:=by omega
 obtain⟨ad,rfl,hx⟩:=ints_at hr hrl
 obtain⟨x,hxx⟩:∃x,inp[r]=x:=⟨_,rfl⟩
 rw[hxx] at hx
 have HX:=hide (show inp.getD c.read.toNat 0=x by rw[hrr];simp[hxx,hrl])
 have HN:=hide (show Nexted w B c inp=fun e w'=>∃q,e=.returned (.int .i64 x)∧w'=(w.setCell ⟨B,13,none⟩ (.int .i64 ((r:Int)+1))).drewN q by unfold Nexted;rw[HX.out,hrr])
 rw[HN.out]
 have hadB:(ad.add r).block<B:=Nat.lt_of_lt_of_le (World.block_lt_of_cell? w0 _ hx) hB
 have hne:¬(⟨B,13,none⟩:Addr)=ad.add r:=fun e=>by rw[←e] at hadB;exact absurd hadB (Nat.lt_irrefl _)
 have hx':=cell_below hbel hx
 obtain⟨m,hm'⟩:∃m,inp.length=m:=⟨_,rfl⟩
 rw[hm'] at k16 h1
 have hb:((r:Int)==(m:Int))=false:=by simp;omega
 have r0:(0:Int)≤r:=by omega
 have HM:=hide hm'
 clear hrr h0 hxx hr hw hc hx hadB hm' hrl hbel
 go_enter Tryz.func200,Tryz.ntmps200
 go_wp2_with fail
 go_quiet (fail)
 go_wp2_with fail
 go_quiet (fail)
 go_wp2_with fail
 go_ret
 exact⟨_,rfl,draw_set _ _ _ _ _⟩
def NextedNo(w:World)(e:Ending)(w':World):Prop:=∃q,e=.returned (.int .i64 0)∧w'=w.drewN q
set_option maxRecDepth 100000 in
set_option maxHeartbeats 1000000 in
theorem next_none(B:Nat)(c:Cel)(ov iv:Value)(k:Wnt)(inp:List Int)(w:World)(hw:Work w B c ov iv k inp)(h1:c.read=inp.length):
  Calls Tryz.prog 200 #[.pointer (some ⟨B,0,none⟩)] w (NextedNo w):=by
 obtain⟨A,cc,rfl,hc,hm,hr⟩:=hw.inp.ints
 have k13:w.cell? ⟨B,13,none⟩=some (.int .i64 c.read):=(hw.blk.cell _).trans (work_read hw.wf)
 have k16:w.cell? ⟨B,16,none⟩=some (.slice A inp.length cc):=(hw.blk.cell _).trans (work_in hw.wf)
 rw[h1] at k13
 obtain⟨m,hm'⟩:∃m,inp.length=m:=⟨_,rfl⟩
 rw[hm'] at k13 k16
 clear h1 hr hc hm' hw
 go_enter Tryz.func200,Tryz.ntmps200
 go_wp2_with fail
 go_quiet (fail)
 go_wp2_with fail
 go_ret
 exact⟨_,rfl,rfl⟩
set_option maxRecDepth 100000 in
set_option maxHeartbeats 1000000 in
theorem do_10(B a b:Nat)(n:Int)(ha:a<4)(hb:b<4)(c:Cel)(ov iv:Value)(inp:List Int)(w:World)(hw:Work w B c ov iv Wnt.zero inp)(h0:0≤c.at_)(h1:c.at_≤20)(hr0:0≤c.read)(hr1:c.read≤inp.length)(hr2:c.read≤12):
  Calls Tryz.prog 173 #[.pointer (some ⟨B,0,none⟩),.agg #[.int .i64 10,.int .i64 a,.int .i64 b,.int .i64 n]] w (Did w B iv inp (doOf ⟨10,a,b,n⟩ c inp) c ov Wnt.zero):=by
 have hblk:=hw.blk
 have hwf:=hw.wf
 have c0:w.cell? ⟨B,0,none⟩=some (.int .i64 c.at_):=(hblk.cell 0).trans work_at
 have ca:w.cell? ⟨B,1+a,none⟩=some (.int .i64 (c.regs.getD a 0)):=(hblk.cell _).trans (work_reg hwf ha)
 have cb:w.cell? ⟨B,1+b,none⟩=some (.int .i64 (c.regs.getD b 0)):=(hblk.cell _).trans (work_reg hwf hb)
 have fz:=hblk.frozen
 have hlt:=hblk.lt
 have a0:(0:Int)≤(a:Int):=by omega
 have a4:(a:Int)<4:=by omega
 have b0:(0:Int)≤(b:Int):=by omega
 have b4:(b:Int)<4:=by omega
 have HW:=hide hw
 clear hw hblk hwf
 obtain⟨ra,hra⟩:∃r,c.regs.getD a 0=r:=⟨_,rfl⟩
 obtain⟨rb,hrb⟩:∃r,c.regs.getD b 0=r:=⟨_,rfl⟩
 rw[hra] at ca
 rw[hrb] at cb
 have HRA:=hide hra
 have HRB:=hide hrb
 clear hra hrb
 by_cases hlt2:c.read<inp.length
 ·have HNX:=hide (fun W (h:Work W B c ov iv Wnt.zero inp)=>next_some B c ov iv Wnt.zero inp W h hr0 hlt2 hr2)
  have HLT:=hide hlt2
  clear hlt2 hr0 hr1 hr2
  go_enter Tryz.func173,Tryz.ntmps173
  go_wp2_with fail
  go_quiet (fail)
  go_wp2_with (go_at_call 200;refine(HNX.out _ (by exact(HW.out.alloc _).drewN _)).mono ?_;rintro e w' ⟨q,rfl,rfl⟩)
  go_end0
  refine Did.ok (c':={c with regs:=c.regs.set a (inp.getD c.read.toNat 0),read:=c.read+1,at_:=c.at_+1}) (k':=Wnt.zero) (by have h:=HLT.out;exact if_pos h) (by repeat' (first|with_reducible exact Below.refl _ _|with_reducible refine below_drewN ?_ _|with_reducible refine Below.set_ ?_ (Nat.le_refl _) _|with_reducible refine Below.alloc_ ?_ (Nat.le_of_lt hlt) _)) ov ?_
  exact((((((HW.out.alloc _).drewN _).setRead _).drewN _).setReg ha _).setAt _)
 ·have HNX:=hide (fun W (h:Work W B c ov iv Wnt.zero inp)=>next_none B c ov iv Wnt.zero inp W h Om)
  have HLT:=hide hlt2
  clear hlt2 hr0 hr1 hr2
  go_enter Tryz.func173,Tryz.ntmps173
  go_wp2_with fail
  go_quiet (fail)
  go_wp2_with (go_at_call 200;refine(HNX.out _ (by exact(HW.out.alloc _).drewN _)).mono ?_;rintro e w' ⟨q,rfl,rfl⟩)
  go_end0
  refine Did.ok (c':={c with regs:=c.regs.set a 0,at_:=c.at_+1}) (k':=Wnt.zero) (by have h:=HLT.out;exact if_neg Om) (by repeat' (first|with_reducible exact Below.refl _ _|with_reducible refine below_drewN ?_ _|with_reducible refine Below.set_ ?_ (Nat.le_refl _) _|with_reducible refine Below.alloc_ ?_ (Nat.le_of_lt hlt) _)) ov ?_
  exact((((HW.out.alloc _).drewN _).setReg ha _).setAt _)
end
section
open Go.RowKit
theorem Work.grown{w w':World}{B:Nat}{c:Cel}{ov iv:Value}{k:Wnt}{inp:List Int}(h:Work w B c ov iv k inp)(hg:w.grownBy w' ov.ownBlock):Below (B+1) w w':=
 ⟨hg.os,hg.tape,hg.output,hg.size,fun j hj=>hg.block j (by have:=h.blk.lt;omega) (fun e=>by have:=(World.ownsRow.lt h.out j e.symm).1;omega)⟩
theorem Work.appended{w w':World}{B:Nat}{c:Cel}{ov iv u:Value}{k:Wnt}{inp o:List Int}(h:Work w B c ov iv k inp)(hb:Below (B+1) w w')(hu:OwnAs 3 w' (B+1) u o):
  Work (w'.setCell ⟨B,14,none⟩ u) B {c with out:=o} u iv k inp:=
 ⟨((h.blk.below hb (Nat.lt_succ_self B)).set 14 u).same (set_out h.wf o u),h.wf,hu.set Si u,(h.inp.on (hb.mono (Nat.le_succ B))).on (Below.set_ (Below.refl B w') (Nat.le_refl B) u)⟩
set_option maxRecDepth 100000 in
set_option maxHeartbeats 1000000 in
theorem do_11(B a b:Nat)(n:Int)(ha:a<4)(hb:b<4)(c:Cel)(ov iv:Value)(inp:List Int)(w:World)(hw:Work w B c ov iv Wnt.zero inp)(h0:0≤c.at_)(h1:c.at_≤20):
  Calls Tryz.prog 173 #[.pointer (some ⟨B,0,none⟩),.agg #[.int .i64 11,.int .i64 a,.int .i64 b,.int .i64 n]] w (Did w B iv inp (doOf ⟨11,a,b,n⟩ c inp) c ov Wnt.zero):=by
 have hblk:=hw.blk
 have hwf:=hw.wf
 have c0:w.cell? ⟨B,0,none⟩=some (.int .i64 c.at_):=(hblk.cell 0).trans work_at
 have ca:w.cell? ⟨B,1+a,none⟩=some (.int .i64 (c.regs.getD a 0)):=(hblk.cell _).trans (work_reg hwf ha)
 have cb:w.cell? ⟨B,1+b,none⟩=some (.int .i64 (c.regs.getD b 0)):=(hblk.cell _).trans (work_reg hwf hb)
 have fz:=hblk.frozen
 have hlt:=hblk.lt
 have a0:(0:Int)≤(a:Int):=by omega
 have a4:(a:Int)<4:=by omega
 have b0:(0:Int)≤(b:Int):=by omega
 have b4:(b:Int)<4:=by omega
 have HW:=hide hw
 clear hw hblk hwf
 obtain⟨ra,hra⟩:∃r,c.regs.getD a 0=r:=⟨_,rfl⟩
 obtain⟨rb,hrb⟩:∃r,c.regs.getD b 0=r:=⟨_,rfl⟩
 rw[hra] at ca
 rw[hrb] at cb
 have HRA:=hide hra
 have HRB:=hide hrb
 clear hra hrb
 have k14:w.cell? ⟨B,14,none⟩=some ov:=(HW.out.blk.cell _).trans (work_out HW.out.wf)
 obtain⟨A,cc,rfl⟩:=HW.out.out.form rfl
 obtain⟨m,hm⟩:∃m,c.out.length=m:=⟨_,rfl⟩
 rw[hm] at HW k14⊢
 have HM:=hide hm
 clear hm
 by_cases hm16:m<16
 ·have hd:decide ((m:Int)<16)=true:=by simp<;>omega
  obtain⟨i0,hi0,hz0,hz1,hz2⟩:=info_parts info_int
  have HO:=hide HW.out.out
  go_enter Tryz.func173,Tryz.ntmps173
  go_wp2_with fail
  go_quiet (fail)
  go_wp2_with fail
  go_region_law (refine step_append_row _ rfl (.tmp 117) (.tmp 121) 41 rfl (B+1) 3 i0 _ 1 8 Tryz.underlying41 hi0 hz0 hz1 hz2 rfl (Nat.lt_succ_self 0) (.slice A m cc) m (c.out.map (.int .i64)) (by simp[Act.eval,Act.put]) (by have h:=HO.out;rw[OwnAs,HM.out] at h;exact ownsRow_kept_below h Bl) _ 1 1 [.int .i64 ra] (by simp[Act.eval,Act.put]) (RowAt.new _ #[.int .i64 ra] _ 1 1 rfl) (oneCell_ints [ra]) (m+1) _ rfl rfl (by unfold maxLen;omega) Om (by simp<;>omega) ?_;intro A' c' w' hown' hg' hat';have hbw':=((HW.out.alloc _).drewN _ |>.alloc _).grown hg';have hbk':=(((HW.out.alloc _).drewN _ |>.alloc _).blk).below hbw' (Nat.lt_succ_self B);have c0':w'.cell? ⟨B,0,none⟩=some (.int .i64 c.at_):=(hbk'.cell 0).trans work_at;have k14':w'.cell? ⟨B,14,none⟩=some (.slice A m cc):=(hbk'.cell _).trans (work_out HW.out.wf);have fz':=hbk'.frozen;clear hbk')
  all_goals
   go_wp2_with fail
   go_end0
   have hu:OwnAs 3 w' (B+1) (.slice A' (m+1) c') (c.out++[ra]):=OwnAs.of_own (n:=m+1) (by rw[List.map_append];exact hown') (Nat.le_refl _)
   have hb1:=hbw'.mono (Nat.le_succ B)
   refine Did.ok (c':={c with out:=c.out++[ra],at_:=c.at_+1}) (k':=Wnt.zero) (by show some ({c with out:=(if c.out.length<16 then c.out++[c.regs.getD a 0] else c.out),at_:=c.at_+1},Wnt.zero)=_;rw[HM.out,HRA.out,if_pos hm16]) ?_ _ ((Work.appended ((HW.out.alloc _).drewN _ |>.alloc _) hbw' hu).setAt _)
   refine Below.set_ (Below.set_ (Below.trans ?_ hb1) (Nat.le_refl _) _) (Nat.le_refl _) _
   exact Below.alloc_ (below_drewN (Below.alloc_ (Below.refl _ _) (Nat.le_of_lt hlt) _) _) (by simp<;>omega) _
 ·have hd:decide ((m:Int)<16)=false:=by simp<;>omega
  go_enter Tryz.func173,Tryz.ntmps173
  go_wp2_with fail
  go_quiet (fail)
  go_wp2_with fail
  go_end0
  exact Did.ok (c':={c with at_:=c.at_+1}) (k':=Wnt.zero) (by show some ({c with out:=(if c.out.length<16 then c.out++[c.regs.getD a 0] else c.out),at_:=c.at_+1},Wnt.zero)=_;rw[HM.out,if_neg hm16]) (by repeat' (first|with_reducible exact Below.refl _ _|with_reducible refine below_drewN ?_ _|with_reducible refine Below.set_ ?_ (Nat.le_refl _) _|with_reducible refine Below.alloc_ ?_ (Nat.le_of_lt hlt) _)) _ (((HW.out.alloc _).setAt _).drewN _)
theorem chk_regs{op a b n:Int}(h:chkI op a b n=0):(1≤op∧op≤15)∧(0≤a∧a<4)∧(0≤b∧b<4):=by
 unfold chkI at h
 by_cases h1:¬(1≤op∧op≤15)
 ·rw[if_pos h1] at h;omega
 ·rw[if_neg h1] at h
  have h1':1≤op∧op≤15:=by omega
  split at h
  ·omega
  ·rename_i h2
   split at h
   ·omega
   ·split at h
    ·omega
    ·rename_i h3
     refine⟨h1',?_,?_⟩
     ·cases ha:hasA op<;>simp[ha,regOk] at h2 h3<;>omega
     ·cases hb:hasB op<;>simp[hb,regOk] at h2 h3<;>omega
theorem do_any(i:Ins)(hi:chkIns i=0)(B:Nat)(c:Cel)(ov iv:Value)(inp:List Int)(w:World)(hw:Work w B c ov iv Wnt.zero inp)(h0:0≤c.at_)(h1:c.at_≤20)(hr0:0≤c.read)(hr1:c.read≤inp.length)(hr2:c.read≤12):
  Calls Tryz.prog 173 #[.pointer (some ⟨B,0,none⟩),i.val] w (Did w B iv inp (doOf i c inp) c ov Wnt.zero):=by
 obtain⟨op,a,b,n⟩:=i
 obtain⟨hop,⟨a0,a4⟩,b0,b4⟩:=chk_regs hi
 dsimp only at hop a0 a4 b0 b4
 obtain⟨a,rfl⟩:=Int.eq_ofNat_of_zero_le a0
 obtain⟨b,rfl⟩:=Int.eq_ofNat_of_zero_le b0
 have ha:a<4:=by omega
 have hb:b<4:=by omega
 rcases op_cases hop with rfl|rfl|rfl|rfl|rfl|rfl|rfl|rfl|rfl|rfl|rfl|rfl|rfl|rfl|rfl
 ·exact do_1 B a b n ha hb c ov iv inp w hw h0 h1
 ·exact do_2 B a b n ha hb c ov iv inp w hw h0 h1
 ·exact do_3 B a b n ha hb c ov iv inp w hw h0 h1
 ·exact do_4 B a b n ha hb c ov iv inp w hw h0 h1
 ·exact do_5 B a b n ha hb c ov iv inp w hw h0 h1
 ·exact do_6ok B a b n ha hb c ov iv inp w hw h0 h1
 ·exact do_7 B a b n ha hb c ov iv inp w hw h0 h1
 ·exact do_8 B a b n ha hb c ov iv inp w hw h0 h1
 ·exact do_9 B a b n ha hb c ov iv inp w hw h0 h1
 ·exact do_10 B a b n ha hb c ov iv inp w hw h0 h1 hr0 hr1 hr2
 ·exact do_11 B a b n ha hb c ov iv inp w hw h0 h1
 ·exact do_12 B a b n ha hb c ov iv inp w hw h0 h1
 ·exact do_13 B a b n ha hb c ov iv inp w hw h0 h1
 ·exact do_14 B a b n ha hb c ov iv inp w hw h0 h1
 ·exact do_15 B a b n ha hb c ov iv inp w hw h0 h1
end
section
open Go.RowKit
set_option maxRecDepth 100000 in
theorem catch_fault(p:Addr)(B:Nat)(x:Int)(older:List PanicEntry)(w:World)(hp:w.cell? p=some (.pointer (some ⟨B,0,none⟩)))(hc:w.cell? ⟨B,15,none⟩=some (.int .i64 x))(hz:w.frozen? ⟨B,15,none⟩=false):
  CallsD Tryz.prog 172 #[.pointer (some p)] (.panicking ({v:=.iface 259 (.agg #[]),recovered:=false}::older)) w fun e u' w'=>
   e=.returned (.tuple #[])∧u'=.panicking ({v:=.iface 259 (.agg #[]),recovered:=true}::older)∧w'=(w.alloc (.cells #[] 259)).setCell ⟨B,15,none⟩ (.int .i64 2):=by
 obtain⟨hc',hz'⟩:=Free.alloc (o:=.cells #[] 259) (show Free w ⟨B,15,none⟩ _ from⟨hc,hz⟩)
 have hp':=cell_alloc (o:=.cells #[] 259) hp
 have hta:∀w,(Instr.typeAssert (.iface 259 (.agg #[])) 20 259 true).run Tryz.prog w=.ok (.tuple #[.agg #[],.bool true]) w:=fun _=>by kernel_rfl
 refine callsD_of_wpS Tryz.func172 rfl fun c₀ cs hu=>?_
 apply wpS_seq
 apply wpS_region
 simp[wpOpsS,go_sem,recoverD,hu,Tryz.ntmps172,Exit.thenS]
 rw[show(#[Value.pointer (some p)]++((Array.replicate 17 undef).setIfInBounds 3 (Value.iface 259 (Value.agg #[]))).setIfInBounds 0 (Value.iface 259 (Value.agg #[])))=#[.pointer (some p),.iface 259 (.agg #[]),undef,undef,.iface 259 (.agg #[]),undef,undef,undef,undef,undef,undef,undef,undef,undef,undef,undef,undef,undef] from rfl]
 refine wpS_of_wp ?_
 go_wp2
 simp[bodyPostS,results,Tryz.results172,hu]
set_option maxRecDepth 100000 in
theorem catch_idle(p:Addr)(w:World):
  CallsD Tryz.prog 172 #[.pointer (some p)] .returning w fun e u' w'=>e=.returned (.tuple #[])∧u'=.returning∧w'=w.alloc (.cells #[] 259):=by
 have hta:∀w,(Instr.typeAssert .nilIface 20 259 true).run Tryz.prog w=.ok (.tuple #[.agg #[],.bool false]) w:=fun _=>by kernel_rfl
 refine callsD_of_wpS Tryz.func172 rfl fun c₀ cs hu=>?_
 apply wpS_seq
 apply wpS_region
 simp[wpOpsS,go_sem,recoverD,hu,Tryz.ntmps172,Exit.thenS]
 rw[show(#[Value.pointer (some p)]++((Array.replicate 17 undef).setIfInBounds 3 Value.nilIface).setIfInBounds 0 Value.nilIface)=#[.pointer (some p),.nilIface,undef,undef,.nilIface,undef,undef,undef,undef,undef,undef,undef,undef,undef,undef,undef,undef,undef] from rfl]
 refine wpS_of_wp ?_
 go_wp2
 cases c₀
 simp_all[bodyPostS,results,Tryz.results172]
def Tried(w:World)(B:Nat)(iv:Value)(inp:List Int)(r:Cel×Wnt)(e:Ending)(w':World):Prop:=
 e=.returned (.tuple #[])∧Below B w w'∧∃ov',Work w' B r.1 ov' iv r.2 inp
set_option maxRecDepth 100000 in
set_option maxHeartbeats 1000000 in
theorem try_end(B:Nat)(c:Cel)(ov iv cv:Value)(inp:List Int)(l:List Ins)(w:World)(hw:Work w B c ov iv Wnt.zero inp)(hv:Code_ w cv l)(h0:0≤c.at_)(h1:c.at_≤20)(hl:l.length≤c.at_)(hl2:l.length≤20):
  Calls Tryz.prog 138 #[.pointer (some ⟨B,0,none⟩),cv] w (Tried w B iv inp ({c with end_:=2},Wnt.zero)):=by
 have hmf:∀(fn:Fn) (first cap:Array Value) (w:World),(Instr.makeFunc fn first cap).run Tryz.prog w=.ok (.func fn first cap) w:=fun _ _ _ _=>rfl
 have hblk:=hw.blk
 have hwf:=hw.wf
 have c0:w.cell? ⟨B,0,none⟩=some (.int .i64 c.at_):=(hblk.cell 0).trans work_at
 have hlt:=hblk.lt
 obtain⟨A,cc,rfl⟩:=hv.form rfl
 generalize l.length=m at*
 have HW:=hide hw
 clear hw hblk hwf hv
 go_enter_defers Tryz.func138,Tryz.ntmps138
 go_wp2_with fail
 have HW2:=HW.out.alloc (.cells #[.pointer (some ⟨B,0,none⟩)] 225)
 refine leaves_cons (f:=172) (args:=#[.pointer (some ⟨w.heap.size,0,none⟩)]) Si (by simp[go_sem]) ?_
 refine(catch_fault ⟨w.heap.size,0,none⟩ B c.end_ [] _ (by simp[go_sem]) ((HW2.blk.cell _).trans (work_end HW2.wf)) (HW2.blk.frozen _)).mono ?_
 rintro e u' w'' ⟨rfl,rfl,rfl⟩
 simp[Leaves,settle,results,Tryz.results138,go_sem]
 exact⟨rfl,Below.set_ (Below.alloc_ (Below.alloc_ (Below.refl _ _) (Nat.le_of_lt hlt) _) (by simp;omega) _) (Nat.le_refl _) _,ov,(HW2.alloc _).setEnd 2⟩
set_option maxRecDepth 100000 in
set_option maxHeartbeats 1000000 in
theorem try_did(B:Nat)(c:Cel)(ov iv cv:Value)(inp:List Int)(l:List Ins)(w:World)(hw:Work w B c ov iv Wnt.zero inp)(hv:Code_ w cv l)(hck:∀i∈l,chkIns i=0)(h0:0≤c.at_)(h1:c.at_≤20)(hl:c.at_<l.length)
  (hr0:0≤c.read) (hr1:c.read≤inp.length) (hr2:c.read≤12):
  Calls Tryz.prog 138 #[.pointer (some ⟨B,0,none⟩),cv] w (Tried w B iv inp (match l[c.at_.toNat]? with
   |none=>({c with end_:=2},Wnt.zero)
   |some i=>match doOf i c inp with
    |none=>({c with end_:=2},Wnt.zero)
    |some r=>r)):=by
 have hmf:∀(fn:Fn) (first cap:Array Value) (w:World),(Instr.makeFunc fn first cap).run Tryz.prog w=.ok (.func fn first cap) w:=fun _ _ _ _=>rfl
 have hblk:=hw.blk
 have hwf:=hw.wf
 have c0:w.cell? ⟨B,0,none⟩=some (.int .i64 c.at_):=(hblk.cell 0).trans work_at
 have hlt:=hblk.lt
 obtain⟨A,cc,rfl,hcc,hm,hr⟩:=hv
 obtain⟨a,ha⟩:=Int.eq_ofNat_of_zero_le h0
 rw[ha] at c0 h1 hl
 have hal:a<l.length:=by omega
 have hi:l[c.at_.toNat]?=some l[a]:=by rw[ha];simp[hal]
 obtain⟨ad,rfl,hcell0,hcell⟩:=flat_at Ins.cells_len hr hal
 have hd:chkIns l[a]=0:=hck _ (List.getElem_mem hal)
 generalize l[a]=i at*
 have i0:=cell_alloc (o:=.cells #[.pointer (some ⟨B,0,none⟩)] 225) (hcell0 _ rfl)
 have i1:=cell_alloc (o:=.cells #[.pointer (some ⟨B,0,none⟩)] 225) (hcell 0 _ rfl)
 have i2:=cell_alloc (o:=.cells #[.pointer (some ⟨B,0,none⟩)] 225) (hcell 1 _ rfl)
 have i3:=cell_alloc (o:=.cells #[.pointer (some ⟨B,0,none⟩)] 225) (hcell 2 _ rfl)
 have HA:=hide ha
 have HI:=hide hi
 have HW:=hide hw
 have HDO:=hide (fun W (hW:Work W B c ov iv Wnt.zero inp)=>do_any i hd B c ov iv inp W hW h0 Om hr0 hr1 hr2)
 generalize l.length=m at*
 have a0:(0:Int)≤(a:Int):=by omega
 have al:(a:Int)<(m:Int):=by omega
 have dd:decide ((m:Int)≤(a:Int))=false:=by simp<;>omega
 clear hw hblk hwf hr hcell0 hcell hd hck ha hi h0 hr0 hr1 hr2 hcc
 cases hdo:doOf i c inp with
 |some r=>
  obtain⟨c',k'⟩:=r
  rw[hdo] at HDO
  have HT:=hide (show(match l[c.at_.toNat]? with
   |none=>(({c with end_:=2},Wnt.zero):Cel×Wnt)
   |some i=>match doOf i c inp with
    |none=>({c with end_:=2},Wnt.zero)
    |some r=>r)=(c',k') by rw[HI.out];dsimp only;rw[hdo])
  rw[HT.out]
  clear hdo HT
  go_enter_defers Tryz.func138,Tryz.ntmps138
  go_wp2_with fail
  refine Code.wp_mono (Q:=fun e a' w'=>match e with
   | .normal=>a'.defers=[{target:=.fn (.func 172) #[.pointer (some ⟨w.heap.size,0,none⟩)],args:=#[]}]∧Below B w w'∧B<w'.heap.size∧∃ov',Work w' B c' ov' iv k' inp
   |_=>False) ?_ ?_
  ·intro e a' w' h
   cases e<;>simp only at h
   obtain⟨hd,hb,hz,ov',hW⟩:=h
   change Leaves Tryz.prog Tryz.f138 a'.tmps _ a'.defers .returning w'
   rw[hd]
   refine leaves_cons (f:=172) (args:=#[.pointer (some ⟨w.heap.size,0,none⟩)]) Si (by simp[go_sem]) ?_
   refine(catch_idle _ _).mono ?_
   rintro e u' w'' ⟨rfl,rfl,rfl⟩
   simp[Leaves,settle,results,Tryz.results138]
   exact⟨rfl,Below.alloc_ hb (Nat.le_of_lt hz) _,ov',hW.alloc _⟩
  go_region_with (go_at_call 173;refine(HDO.out _ (by exact(HW.out.alloc _).drewN 1)).mono ?_;rintro e w1 ⟨hb1,rfl,ov',hW1⟩)
  all_goals
   refine⟨rfl,?_,hW1.blk.lt,ov',hW1⟩
   exact Below.trans (below_drewN (Below.alloc_ (Below.refl _ _) (Nat.le_of_lt hlt) _) 1) hb1
 |none=>
  rw[hdo] at HDO
  have HT:=hide (show(match l[c.at_.toNat]? with
   |none=>(({c with end_:=2},Wnt.zero):Cel×Wnt)
   |some i=>match doOf i c inp with
    |none=>({c with end_:=2},Wnt.zero)
    |some r=>r)=({c with end_:=2},Wnt.zero) by rw[HI.out];dsimp only;rw[hdo])
  rw[HT.out]
  clear hdo HT
  go_enter_defers Tryz.func138,Tryz.ntmps138
  go_wp2_with fail
  refine Code.wp_mono (Q:=fun e a' w'=>match e with
   | .panic ch=>a'.defers=[{target:=.fn (.func 172) #[.pointer (some ⟨w.heap.size,0,none⟩)],args:=#[]}]∧ch=[{v:=.iface 259 (.agg #[]),recovered:=false}]∧Below B w w'∧B<w'.heap.size∧Work w' B c ov iv Wnt.zero inp∧w'.cell? ⟨w.heap.size,0,none⟩=some (.pointer (some ⟨B,0,none⟩))
   |_=>False) ?_ ?_
  ·intro e a' w' h
   cases e<;>simp only at h
   obtain⟨hd,rfl,hb,hz,hW,hp⟩:=h
   change Leaves Tryz.prog Tryz.f138 a'.tmps _ a'.defers (.panicking _) w'
   rw[hd]
   refine leaves_cons (f:=172) (args:=#[.pointer (some ⟨w.heap.size,0,none⟩)]) Si (by simp[go_sem]) ?_
   refine(catch_fault ⟨w.heap.size,0,none⟩ B c.end_ [] _ hp ((hW.blk.cell _).trans (work_end hW.wf)) (hW.blk.frozen _)).mono ?_
   rintro e u' w'' ⟨rfl,rfl,rfl⟩
   simp[Leaves,settle,results,Tryz.results138,go_sem]
   exact⟨rfl,Below.set_ (Below.alloc_ hb (Nat.le_of_lt hz) _) (Nat.le_refl _) _,ov,(hW.alloc _).setEnd 2⟩
  go_region_dies
  all_goals
   go_wp2_with (go_at_call 173;refine(HDO.out _ (by exact(HW.out.alloc _).drewN 1)).mono ?_;rintro e w1 ⟨hb1,rfl,hW1,hk1⟩)
   refine⟨?_,hW1.blk.lt,?_⟩
   ·exact Below.trans (below_drewN (Below.alloc_ (Below.refl _ _) (Nat.le_of_lt hlt) _) 1) hb1
   ·exact cell_below hk1 (cell_drewN (Free.new w #[.pointer (some ⟨B,0,none⟩)] _ 0 _ rfl).1)
theorem firstErr_zero{l:List Ins}(h:firstErr l=0):∀i∈l,chkIns i=0:=by
 induction l with
 |nil=>simp
 |cons x r ih=>
  unfold firstErr at h
  split at h
  ·rename_i hx
   intro i hi
   rcases List.mem_cons.1 hi with rfl|hi
   ·exact hx
   ·exact ih h i hi
  ·rename_i hx
   exact absurd h hx
theorem try_any(B:Nat)(c:Cel)(ov iv cv:Value)(inp:List Int)(l:List Ins)(w:World)(hw:Work w B c ov iv Wnt.zero inp)(hv:Code_ w cv l)(hck:chkCode l=0)(hf:cellFine c=true)(hr1:c.read≤inp.length)(he:c.end_=0):
  Calls Tryz.prog 138 #[.pointer (some ⟨B,0,none⟩),cv] w (Tried w B iv inp (stepOf ⟨l,inp⟩ c)):=by
 have hl:¬(l.length<1∨20<l.length):=fun h=>by unfold chkCode at hck;rw[if_pos h] at hck;omega
 have hfe:firstErr l=0:=by unfold chkCode at hck;rwa [if_neg hl] at hck
 unfold cellFine at hf
 simp only[decide_eq_true_eq] at hf
 unfold stepOf
 rw[if_neg (by rw[he];simp)]
 dsimp only
 by_cases h:c.at_<l.length
 ·exact try_did B c ov iv cv inp l w hw hv (firstErr_zero hfe) hf.1 hf.2.1 h hf.2.2.1 hr1 hf.2.2.2.1
 ·rw[List.getElem?_eq_none Om]
  exact try_end B c ov iv cv inp l w hw hv hf.1 hf.2.1 Om Om
end
section
open Go.RowKit
def celV(c:Cel)(ov:Value):Value:=.agg (cellL c ov).toArray
def wntV(k:Wnt):Value:=.agg (wantL k).toArray
theorem celV_eq(at_ r0 r1 r2 r3 m0 m1 m2 m3 m4 m5 m6 m7 rd en:Int)(out:List Int)(ov:Value):celV ⟨at_,[r0,r1,r2,r3],[m0,m1,m2,m3,m4,m5,m6,m7],rd,out,en⟩ ov=.agg #[.int .i64 at_,.int .i64 r0,.int .i64 r1,.int .i64 r2,.int .i64 r3,.int .i64 m0,.int .i64 m1,.int .i64 m2,.int .i64 m3,.int .i64 m4,.int .i64 m5,.int .i64 m6,.int .i64 m7,.int .i64 rd,ov,.int .i64 en]:=rfl
set_option maxRecDepth 100000 in
set_option maxHeartbeats 1000000 in
theorem cellCheck_any(c:Cel)(ov:Value)(hwf:c.wf)(w:World)(ho:Ints w ov c.out):
  Calls Tryz.prog 137 #[celV c ov] w fun e w'=>e=.returned (.int .i64 (cellErr c))∧Below w.heap.size w w':=by
 obtain⟨at_,regs,mem,rd,out,en⟩:=c
 obtain⟨r0,r1,r2,r3,hregs⟩:=len_four hwf.1
 obtain⟨m0,m1,m2,m3,m4,m5,m6,m7,hmem⟩:=len_eight hwf.2
 dsimp only at hregs hmem
 subst hregs hmem
 clear hwf
 obtain⟨m,hm⟩:∃m,out.length=m:=⟨_,rfl⟩
 obtain⟨A,cc,rfl⟩:=ho.form hm
 rw[celV_eq]
 clear ho
 cases d0:decide (at_<0)
 ·skip
  cases d1:decide (20<at_)
  ·skip
   cases d2:decide (rd<0)
   ·skip
    cases d3:decide (12<rd)
    ·skip
     cases d4:decide (en<0)
     ·skip
      cases d5:decide (2<en)
      ·skip
       cases d6:decide (16<(m:Int))
       ·skip
        have HE:=hide (show cellErr ⟨at_,[r0,r1,r2,r3],[m0,m1,m2,m3,m4,m5,m6,m7],rd,out,en⟩=0 by simp only[decide_eq_false_iff_not] at*;unfold cellErr cellFine;rw[if_pos];simp only[decide_eq_true_eq];omega)
        clear hm
        go_enter Tryz.func137,Tryz.ntmps137
        go_wp2_with fail
        go_ret
        exact⟨by rw[HE.out];rfl,Bl⟩
       ·have HE:=hide (show cellErr ⟨at_,[r0,r1,r2,r3],[m0,m1,m2,m3,m4,m5,m6,m7],rd,out,en⟩=1 by simp only[decide_eq_true_eq] at d6;unfold cellErr cellFine;rw[if_neg];simp only[decide_eq_true_eq];omega)
        clear hm
        go_enter Tryz.func137,Tryz.ntmps137
        go_wp2_with fail
        go_ret
        exact⟨by rw[HE.out];rfl,Bl⟩
      ·have HE:=hide (show cellErr ⟨at_,[r0,r1,r2,r3],[m0,m1,m2,m3,m4,m5,m6,m7],rd,out,en⟩=1 by simp only[decide_eq_true_eq] at d5;unfold cellErr cellFine;rw[if_neg];simp only[decide_eq_true_eq];omega)
       clear hm
       go_enter Tryz.func137,Tryz.ntmps137
       go_wp2_with fail
       go_ret
       exact⟨by rw[HE.out];rfl,Bl⟩
     ·have HE:=hide (show cellErr ⟨at_,[r0,r1,r2,r3],[m0,m1,m2,m3,m4,m5,m6,m7],rd,out,en⟩=1 by simp only[decide_eq_true_eq] at d4;unfold cellErr cellFine;rw[if_neg];simp only[decide_eq_true_eq];omega)
      clear hm
      go_enter Tryz.func137,Tryz.ntmps137
      go_wp2_with fail
      go_ret
      exact⟨by rw[HE.out];rfl,Bl⟩
    ·have HE:=hide (show cellErr ⟨at_,[r0,r1,r2,r3],[m0,m1,m2,m3,m4,m5,m6,m7],rd,out,en⟩=1 by simp only[decide_eq_true_eq] at d3;unfold cellErr cellFine;rw[if_neg];simp only[decide_eq_true_eq];omega)
     clear hm
     go_enter Tryz.func137,Tryz.ntmps137
     go_wp2_with fail
     go_ret
     exact⟨by rw[HE.out];rfl,Bl⟩
   ·have HE:=hide (show cellErr ⟨at_,[r0,r1,r2,r3],[m0,m1,m2,m3,m4,m5,m6,m7],rd,out,en⟩=1 by simp only[decide_eq_true_eq] at d2;unfold cellErr cellFine;rw[if_neg];simp only[decide_eq_true_eq];omega)
    clear hm
    go_enter Tryz.func137,Tryz.ntmps137
    go_wp2_with fail
    go_ret
    exact⟨by rw[HE.out];rfl,Bl⟩
  ·have HE:=hide (show cellErr ⟨at_,[r0,r1,r2,r3],[m0,m1,m2,m3,m4,m5,m6,m7],rd,out,en⟩=1 by simp only[decide_eq_true_eq] at d1;unfold cellErr cellFine;rw[if_neg];simp only[decide_eq_true_eq];omega)
   clear hm
   go_enter Tryz.func137,Tryz.ntmps137
   go_wp2_with fail
   go_ret
   exact⟨by rw[HE.out];rfl,Bl⟩
 ·have HE:=hide (show cellErr ⟨at_,[r0,r1,r2,r3],[m0,m1,m2,m3,m4,m5,m6,m7],rd,out,en⟩=1 by simp only[decide_eq_true_eq] at d0;unfold cellErr cellFine;rw[if_neg];simp only[decide_eq_true_eq];omega)
  clear hm
  go_enter Tryz.func137,Tryz.ntmps137
  go_wp2_with fail
  go_ret
  exact⟨by rw[HE.out];rfl,Bl⟩
end
section
open Go.RowKit
def CelErrBack(w0:World)(c:Cel)(x:Int)(e:Ending)(w':World):Prop:=
 ∃ov,e=.returned (.tuple #[celV c ov,.int .i64 x])∧c.wf∧OwnAs 3 w' w0.heap.size ov c.out∧Below w0.heap.size w0 w'
end
end Go.Proofs.YtndcjmopebcdgaaGreatDoor
