/- What a partition does by itself, said by plain functions. No program is named. -/
import Derived.Test.YtndcjmopebcdgaaGreatBase
set_option linter.unusedSimpArgs false
set_option linter.unusedVariables false
namespace Go.Proofs.YtndcjmopebcdgaaGreat
open Go.RowKit
structure Cel where
 at_:Int
 regs:List Int
 mem:List Int
 read:Int
 out:List Int
 end_:Int
structure Wnt where
 kind:Int
 chan:Int
 reg:Int
 flag:Int
 val:Int
structure Prt where
 code:List Ins
 inp:List Int
def Cel.wf(c:Cel):Prop:=c.regs.length=4∧c.mem.length=8
def Cel.zero:Cel:=⟨0,[0,0,0,0],[0,0,0,0,0,0,0,0],0,[],0⟩
def Wnt.zero:Wnt:=⟨0,0,0,0,0⟩
instance :DecidableEq Wnt:=fun x y=>decidable_of_iff (x.kind=y.kind∧x.chan=y.chan∧x.reg=y.reg∧x.flag=y.flag∧x.val=y.val)
 ⟨fun h=>by cases x;cases y;simp_all,fun h=>by subst h;exact⟨rfl,rfl,rfl,rfl,rfl⟩⟩
instance :DecidableEq Cel:=fun x y=>decidable_of_iff (x.at_=y.at_∧x.regs=y.regs∧x.mem=y.mem∧x.read=y.read∧x.out=y.out∧x.end_=y.end_)
 ⟨fun h=>by cases x;cases y;simp_all,fun h=>by subst h;exact⟨rfl,rfl,rfl,rfl,rfl,rfl⟩⟩
def cellL(c:Cel)(ov:Value):List Value:=.int .i64 c.at_::(c.regs.map (.int .i64)++(c.mem.map (.int .i64)++[.int .i64 c.read,ov,.int .i64 c.end_]))
def wantL(k:Wnt):List Value:=[.int .i64 k.kind,.int .i64 k.chan,.int .i64 k.reg,.int .i64 k.flag,.int .i64 k.val]
def workL(c:Cel)(ov iv:Value)(k:Wnt):List Value:=cellL c ov++(iv::wantL k)
theorem len_four{l:List Int}(h:l.length=4):∃a b c d,l=[a,b,c,d]:=by
 match l,h with
 |[a,b,c,d],_=>exact⟨a,b,c,d,rfl⟩
theorem len_eight{l:List Int}(h:l.length=8):∃a b c d e f g i,l=[a,b,c,d,e,f,g,i]:=by
 match l,h with
 |[a,b,c,d,e,f,g,i],_=>exact⟨a,b,c,d,e,f,g,i,rfl⟩
section
variable {c:Cel} {ov iv:Value} {k:Wnt}
theorem work_at:(workL c ov iv k)[0]?=some (.int .i64 c.at_):=rfl
theorem work_reg(h:c.wf){a:Nat}(ha:a<4):(workL c ov iv k)[1+a]?=some (.int .i64 (c.regs.getD a 0)):=by
 obtain⟨at_,regs,mem,read,out,end_⟩:=c
 obtain⟨a0,a1,a2,a3,hr⟩:=len_four h.1
 simp only at hr
 subst hr
 match a,ha with
 |0,_=>rfl
 |1,_=>rfl
 |2,_=>rfl
 |3,_=>rfl
theorem work_mem(h:c.wf){a:Nat}(ha:a<8):(workL c ov iv k)[5+a]?=some (.int .i64 (c.mem.getD a 0)):=by
 obtain⟨at_,regs,mem,read,out,end_⟩:=c
 obtain⟨a0,a1,a2,a3,hr⟩:=len_four h.1
 obtain⟨m0,m1,m2,m3,m4,m5,m6,m7,hm⟩:=len_eight h.2
 simp only at hr hm
 subst hr hm
 match a,ha with
 |0,_=>rfl
 |1,_=>rfl
 |2,_=>rfl
 |3,_=>rfl
 |4,_=>rfl
 |5,_=>rfl
 |6,_=>rfl
 |7,_=>rfl
theorem work_read(h:c.wf):(workL c ov iv k)[13]?=some (.int .i64 c.read):=by
 obtain⟨at_,regs,mem,read,out,end_⟩:=c
 obtain⟨a0,a1,a2,a3,hr⟩:=len_four h.1
 obtain⟨m0,m1,m2,m3,m4,m5,m6,m7,hm⟩:=len_eight h.2
 simp only at hr hm
 subst hr hm
 rfl
theorem work_out(h:c.wf):(workL c ov iv k)[14]?=some ov:=by
 obtain⟨at_,regs,mem,read,out,end_⟩:=c
 obtain⟨a0,a1,a2,a3,hr⟩:=len_four h.1
 obtain⟨m0,m1,m2,m3,m4,m5,m6,m7,hm⟩:=len_eight h.2
 simp only at hr hm
 subst hr hm
 rfl
theorem work_in(h:c.wf):(workL c ov iv k)[16]?=some iv:=by
 obtain⟨at_,regs,mem,read,out,end_⟩:=c
 obtain⟨a0,a1,a2,a3,hr⟩:=len_four h.1
 obtain⟨m0,m1,m2,m3,m4,m5,m6,m7,hm⟩:=len_eight h.2
 simp only at hr hm
 subst hr hm
 rfl
theorem work_end(h:c.wf):(workL c ov iv k)[15]?=some (.int .i64 c.end_):=by
 obtain⟨at_,regs,mem,read,out,end_⟩:=c
 obtain⟨a0,a1,a2,a3,hr⟩:=len_four h.1
 obtain⟨m0,m1,m2,m3,m4,m5,m6,m7,hm⟩:=len_eight h.2
 simp only at hr hm
 subst hr hm
 rfl
theorem work_want(h:c.wf)(j:Nat):(workL c ov iv k)[17+j]?=(wantL k)[j]?:=by
 obtain⟨at_,regs,mem,read,out,end_⟩:=c
 obtain⟨a0,a1,a2,a3,hr⟩:=len_four h.1
 obtain⟨m0,m1,m2,m3,m4,m5,m6,m7,hm⟩:=len_eight h.2
 simp only at hr hm
 subst hr hm
 unfold workL
 rw[List.getElem?_append_right (by simp[cellL];omega)]
 simp[cellL,show 17+j - 16=j+1 by omega]
theorem set_at(v:Int):(workL c ov iv k).set 0 (.int .i64 v)=workL {c with at_:=v} ov iv k:=rfl
theorem set_reg(h:c.wf){a:Nat}(ha:a<4)(v:Int):(workL c ov iv k).set (1+a) (.int .i64 v)=workL {c with regs:=c.regs.set a v} ov iv k:=by
 obtain⟨at_,regs,mem,read,out,end_⟩:=c
 obtain⟨a0,a1,a2,a3,hr⟩:=len_four h.1
 simp only at hr
 subst hr
 match a,ha with
 |0,_=>rfl
 |1,_=>rfl
 |2,_=>rfl
 |3,_=>rfl
theorem set_mem(h:c.wf){a:Nat}(ha:a<8)(v:Int):(workL c ov iv k).set (5+a) (.int .i64 v)=workL {c with mem:=c.mem.set a v} ov iv k:=by
 obtain⟨at_,regs,mem,read,out,end_⟩:=c
 obtain⟨a0,a1,a2,a3,hr⟩:=len_four h.1
 obtain⟨m0,m1,m2,m3,m4,m5,m6,m7,hm⟩:=len_eight h.2
 simp only at hr hm
 subst hr hm
 match a,ha with
 |0,_=>rfl
 |1,_=>rfl
 |2,_=>rfl
 |3,_=>rfl
 |4,_=>rfl
 |5,_=>rfl
 |6,_=>rfl
 |7,_=>rfl
theorem set_read(h:c.wf)(v:Int):(workL c ov iv k).set 13 (.int .i64 v)=workL {c with read:=v} ov iv k:=by
 obtain⟨at_,regs,mem,read,out,end_⟩:=c
 obtain⟨a0,a1,a2,a3,hr⟩:=len_four h.1
 obtain⟨m0,m1,m2,m3,m4,m5,m6,m7,hm⟩:=len_eight h.2
 simp only at hr hm
 subst hr hm
 rfl
theorem set_end(h:c.wf)(v:Int):(workL c ov iv k).set 15 (.int .i64 v)=workL {c with end_:=v} ov iv k:=by
 obtain⟨at_,regs,mem,read,out,end_⟩:=c
 obtain⟨a0,a1,a2,a3,hr⟩:=len_four h.1
 obtain⟨m0,m1,m2,m3,m4,m5,m6,m7,hm⟩:=len_eight h.2
 simp only at hr hm
 subst hr hm
 rfl
theorem set_out(h:c.wf)(o:List Int)(u:Value):(workL c ov iv k).set 14 u=workL {c with out:=o} u iv k:=by
 obtain⟨at_,regs,mem,read,out,end_⟩:=c
 obtain⟨a0,a1,a2,a3,hr⟩:=len_four h.1
 obtain⟨m0,m1,m2,m3,m4,m5,m6,m7,hm⟩:=len_eight h.2
 simp only at hr hm
 subst hr hm
 rfl
theorem set_want(h:c.wf)(a b d e f:Int):(((((workL c ov iv k).set 17 (.int .i64 a)).set 18 (.int .i64 b)).set 19 (.int .i64 d)).set 20 (.int .i64 e)).set 21 (.int .i64 f)=workL c ov iv ⟨a,b,d,e,f⟩:=by
 obtain⟨at_,regs,mem,read,out,end_⟩:=c
 obtain⟨a0,a1,a2,a3,hr⟩:=len_four h.1
 obtain⟨m0,m1,m2,m3,m4,m5,m6,m7,hm⟩:=len_eight h.2
 simp only at hr hm
 subst hr hm
 rfl
end
def bitI(b:Bool):Int:=if b then 1 else 0
def doOf(i:Ins)(c:Cel)(inp:List Int):Option (Cel×Wnt):=
 let a:=i.a.toNat
 let ra:=c.regs.getD i.a.toNat 0
 let rb:=c.regs.getD i.b.toNat 0
 let put (v:Int):Cel:={c with regs:=c.regs.set a v,at_:=c.at_+1}
 let go (n:Int):Cel:={c with at_:=n}
 match i.op.toNat with
 |1=>some (put i.n,Wnt.zero)
 |2=>some (put rb,Wnt.zero)
 |3=>some (put (wrap64 (ra+rb)),Wnt.zero)
 |4=>some (put (wrap64 (ra - rb)),Wnt.zero)
 |5=>some (put (bitI (decide (ra<rb))),Wnt.zero)
 |6=>if 0≤rb∧rb<8 then some (put (c.mem.getD rb.toNat 0),Wnt.zero) else none
 |7=>if 0≤rb∧rb<8 then some ({c with mem:=c.mem.set rb.toNat ra,at_:=c.at_+1},Wnt.zero) else none
 |8=>some (go i.n,Wnt.zero)
 |9=>some (go (if ra=0 then i.n else c.at_+1),Wnt.zero)
 |10=>if c.read<inp.length then some ({c with regs:=c.regs.set a (inp.getD c.read.toNat 0),read:=c.read+1,at_:=c.at_+1},Wnt.zero) else some (put 0,Wnt.zero)
 |11=>some ({c with out:=(if c.out.length<16 then c.out++[ra] else c.out),at_:=c.at_+1},Wnt.zero)
 |12=>some (go (c.at_+1),⟨12,i.n,i.a,0,ra⟩)
 |13=>some (go (c.at_+1),⟨13,i.n,i.a,i.b,0⟩)
 |15=>some ({c with end_:=1},Wnt.zero)
 |_=>some (go (c.at_+1),Wnt.zero)
def stepOf(p:Prt)(c:Cel):Cel×Wnt:=
 if c.end_≠0 then(c,Wnt.zero)
 else match p.code[c.at_.toNat]? with
  |none=>({c with end_:=2},Wnt.zero)
  |some i=>match doOf i c p.inp with
   |none=>({c with end_:=2},Wnt.zero)
   |some r=>r
def cellFine(c:Cel):Bool:=decide (0≤c.at_∧c.at_≤20∧0≤c.read∧c.read≤12∧0≤c.end_∧c.end_≤2∧c.out.length≤16)
def cellErr(c:Cel):Int:=if cellFine c then 0 else 1
def replyOf(c:Cel)(w:Wnt)(kind val:Int)(is:Bool):Cel:=
 if w.kind=12 then(if kind=2 then {c with regs:=c.regs.set w.reg.toNat (bitI is)} else c)
 else {c with regs:=(if is then c.regs.set w.reg.toNat val else c.regs).set w.flag.toNat (bitI is)}
end Go.Proofs.YtndcjmopebcdgaaGreat
