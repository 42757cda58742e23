/- Plain: an instruction's text, numerals, and what a text says. isa.Show and the reference's InstrText give an instruction's text. isa.Read reads what a text says. The reference's InstrFrom finds what a text says. Plain: the numbers that a run has are of 64 bits. -/
import Derived.Test.YtndcjmopebcdgaaGreatDoorLibS
import Derived.Test.YtndcjmopebcdgaaGreatDoorIsaB
import Derived.Lib.ItoaNum
import Derived.Test.YtndcjmopebcdgaaGreatDoorTys
import Derived.Test.YtndcjmopebcdgaaGreatDoorSkC
import Derived.Test.YtndcjmopebcdgaaGreatDoorSkH
import Derived.Test.YtndcjmopebcdgaaGreatDoorImgP
set_option linter.unusedSimpArgs false
set_option linter.unusedVariables false
namespace Go.Proofs.YtndcjmopebcdgaaGreatDoor
section
open Go.RowKit
def In64(n:Int):Prop:= -9223372036854775808≤n∧n≤9223372036854775807
theorem dec_digit:∀(u:Nat) (c:UInt8),c∈Lib.decDigits u→48≤c.toNat∧c.toNat≤57
 |u,c,hc=>by
  rw[Lib.decDigits] at hc
  split at hc
  ·rw[List.mem_singleton.1 hc]
   rw[UInt8.toNat_ofNat']
   omega
  ·rcases List.mem_append.1 hc with h|h
   ·exact dec_digit (u/10) c h
   ·rw[List.mem_singleton.1 h,UInt8.toNat_ofNat']
    omega
theorem dec_ne(u:Nat):Lib.decDigits u≠[]:=by
 rw[Lib.decDigits]
 split<;>simp
theorem itoa_chars{n:Int}{c:UInt8}(hc:c∈Lib.itoa n):c=45∨48≤c.toNat∧c.toNat≤57:=by
 unfold Lib.itoa at hc
 split at hc
 ·rcases List.mem_cons.1 hc with h|h
  ·exact .inl h
  ·exact .inr (dec_digit _ _ h)
 ·exact .inr (dec_digit _ _ hc)
theorem itoa_no(n:Int):(32:UInt8)∉Lib.itoa n:=by
 intro h
 rcases itoa_chars h with h|h
 ·cases h
 ·exact absurd h.1 Dc
theorem parse_dec:∀(u:Nat) (r:List UInt8),u<18446744073709551616→Lib.parseUint10 0 (Lib.decDigits u++r)=Lib.parseUint10 u r
 |u,r,hu=>by
  rw[Lib.decDigits]
  split
  ·rename_i h
   have e:(UInt8.ofNat (48+u)).toNat=48+u:=by rw[UInt8.toNat_ofNat'];omega
   rw[List.cons_append,List.nil_append,Lib.parseUint10,e,if_pos Om,if_neg Om,if_neg Om]
   congr 1
   omega
  ·rename_i h
   have e:(UInt8.ofNat (48+u%10)).toNat=48+u%10:=by rw[UInt8.toNat_ofNat'];omega
   rw[List.append_assoc,parse_dec (u/10) _ Om,List.cons_append,List.nil_append,Lib.parseUint10,e,if_pos Om,if_neg Om,if_neg Om]
   congr 1
   omega
theorem mag_dec(u:Nat)(hu:u<18446744073709551616):Lib.parseMag (Lib.decDigits u)=.ok u:=by
 have h:=parse_dec u [] hu
 rw[List.append_nil] at h
 rw[Lib.parseMag,if_neg (dec_ne u),h]
 rfl
theorem atoi_itoa{n:Int}(h:In64 n):Lib.atoiAll (Lib.itoa n)=.ok n:=by
 unfold In64 at h
 unfold Lib.itoa
 split
 ·rw[Lib.atoiAll_minus,mag_dec _ Om]
  unfold Lib.signed
  simp only
  rw[if_neg Om]
  congr 1
  omega
 ·cases hd:Lib.decDigits n.toNat with
  |nil=>exact absurd hd (dec_ne _)
  |cons c r=>
   have hc:=dec_digit n.toNat c (by rw[hd];exact List.mem_cons_self)
   rw[Lib.atoiAll_plain c r Om Om,←hd,mag_dec _ Om]
   unfold Lib.signless
   simp only
   rw[if_neg Om]
   congr 1
   omega
theorem itoa_inj{m n:Int}(hm:In64 m)(hn:In64 n)(h:Lib.itoa m=Lib.itoa n):m=n:=by
 have h1:=atoi_itoa hm
 rw[h,atoi_itoa hn] at h1
 injection h1 with h1
 exact h1.symm
theorem nDigits_le:∀(k u:Nat),u<10 ^(k+1)→Lib.nDigits u≤k+1
 |k,u,h=>by
  rw[Lib.nDigits]
  split
  ·omega
  ·rename_i h1
   cases k with
   |zero=>exact absurd h Om
   |succ k=>
    have:=nDigits_le k (u/10) (by rw[Nat.div_lt_iff_lt_mul Dc];rwa [Nat.pow_succ] at h)
    omega
theorem itoa_len{n:Int}(h:In64 n):(Lib.itoa n).length≤20:=by
 unfold In64 at h
 unfold Lib.itoa
 split
 ·rw[List.length_cons,Lib.decDigits_length]
  have:=nDigits_le 18 n.natAbs Om
  omega
 ·rw[Lib.decDigits_length]
  have:=nDigits_le 18 n.toNat Om
  omega
theorem splitC_join{c:UInt8}:∀(r:List (List UInt8)) (p:List UInt8),c∉p→(∀x∈r,c∉x)→splitC c (p++Lib.joinTail [c] r)=p::r
 |[],p,hp,_=>by
  rw[show Lib.joinTail [c] []=[] from rfl,List.append_nil,splitC_none hp]
 |q::r,p,hp,hr=>by
  rw[show Lib.joinTail [c] (q::r)=c::(q++Lib.joinTail [c] r) by simp[Lib.joinTail],splitC_app _ hp,splitC_join r q (hr q List.mem_cons_self) fun x hx=>hr x (List.mem_cons_of_mem _ hx)]
end
section
open Go.ChangeShapes Go.WideShapes Go.ChangeAt Go.RowKit
set_option maxRecDepth 100000
end
section
open Go.ChangeShapes Go.WideShapes Go.ChangeAt Go.RowKit
set_option maxRecDepth 100000
theorem piece_len{c:UInt8}:∀(l:List UInt8) (p:List UInt8),p∈splitC c l→p.length≤l.length
 |[],p,h=>by
  rw[splitC,List.mem_singleton] at h
  rw[h]
  exact Nat.le_refl _
 |b::l,p,h=>by
  have ih:=piece_len (c:=c) l
  unfold splitC at h
  split at h
  ·rcases List.mem_cons.1 h with h|h
   ·rw[h];exact Nat.zero_le _
   ·have:=ih p h
    simp only[List.length_cons]
    omega
  ·split at h
   ·rw[List.mem_singleton.1 h];simp
   ·rename_i q r e
    rw[e] at ih
    rcases List.mem_cons.1 h with h|h
    ·rw[h]
     have:=ih q List.mem_cons_self
     simp only[List.length_cons]
     omega
    ·have:=ih p (List.mem_cons_of_mem _ h)
     simp only[List.length_cons]
     omega
theorem piece_at(l:List UInt8){k:Nat}(hk:k<(splitC 32 l).length):((splitC 32 l).map fun x=>Value.string (bstr x))[k]?=some (.string (bstr ((splitC 32 l).getD k []))):=by
 rw[List.getElem?_map,List.getElem?_eq_getElem hk,List.getD,List.getElem?_eq_getElem hk]
 rfl
theorem piece_lenD(l:List UInt8)(k:Nat):((splitC 32 l).getD k []).length≤l.length:=by
 by_cases hk:k<(splitC 32 l).length
 ·rw[List.getD,List.getElem?_eq_getElem hk]
  exact piece_len l _ (List.getElem_mem hk)
 ·rw[List.getD,List.getElem?_eq_none Om]
  exact Nat.zero_le _
end
section
open Go.ChangeShapes Go.WideShapes Go.ChangeAt Go.RowKit
set_option maxRecDepth 100000
section
variable {w0 w:World} {X:Nat→Prop} {es:List Asn}
end
end
section
open Go.ChangeShapes Go.WideShapes Go.ChangeAt Go.RowKit
set_option maxRecDepth 100000
def NumIn(l:List Int):Prop:=∀n,n∈l→In64 n
structure CelIn(c:Cel):Prop where
 regs:NumIn c.regs
 mem:NumIn c.mem
 out:NumIn c.out
def PrtIn(p:Prt):Prop:=(∀i,i∈p.code→In64 i.n)∧NumIn p.inp
def SysIn(s:Sys):Prop:=∀p,p∈s.parts→PrtIn p
structure WrlIn(w:Wrl):Prop where
 cells:∀c,c∈w.cells→CelIn c
 lines:∀l,l∈w.lines→NumIn l
theorem zero_in:In64 0:=⟨by decide,by decide⟩
theorem bit_in(b:Bool):In64 (bitI b):=by cases b<;>exact⟨by decide,by decide⟩
theorem wr_in(n:Int):In64 (RowKit.wrap64 n):=by
 unfold RowKit.wrap64 In64
 omega
theorem NumIn.nil:NumIn []:=fun _ h=>by cases h
theorem NumIn.get{l:List Int}(h:NumIn l)(k:Nat):In64 (l.getD k 0):=by
 by_cases hk:k<l.length
 ·exact h _ (mem_getD 0 hk)
 ·rw[List.getD,List.getElem?_eq_none Om]
  exact zero_in
theorem NumIn.set{l:List Int}(h:NumIn l){n:Int}(hn:In64 n)(k:Nat):NumIn (l.set k n):=fun m hm=>by
 rcases List.mem_or_eq_of_mem_set hm with h1|h1
 ·exact h m h1
 ·rw[h1];exact hn
theorem NumIn.snoc{l:List Int}(h:NumIn l){n:Int}(hn:In64 n):NumIn (l++[n]):=fun m hm=>by
 rcases List.mem_append.1 hm with h1|h1
 ·exact h m h1
 ·rw[List.mem_singleton.1 h1];exact hn
theorem CelIn.put{c:Cel}(h:CelIn c){n:Int}(hn:In64 n)(k:Nat)(a b e:Int):CelIn ⟨a,c.regs.set k n,c.mem,b,c.out,e⟩:=⟨h.regs.set hn k,h.mem,h.out⟩
theorem doOf_in{i:Ins}{c c':Cel}{inp:List Int}{k:Wnt}(h:CelIn c)(hi:In64 i.n)(hp:NumIn inp)(hd:doOf i c inp=some (c',k)):CelIn c'∧In64 k.val:=by
 have ra:=h.regs.get i.a.toNat
 have rb:=h.regs.get i.b.toNat
 have z:=zero_in
 unfold doOf at hd
 dsimp only at hd
 split at hd
 all_goals(try(split at hd))
 all_goals first
  |(cases hd;done)
  |(simp only[Option.some.injEq,Prod.mk.injEq] at hd;obtain⟨rfl,rfl⟩:=hd;first|exact⟨h.put hi _ _ _ _,z⟩|exact⟨h.put rb _ _ _ _,z⟩|exact⟨h.put (wr_in _) _ _ _ _,z⟩|exact⟨h.put (bit_in _) _ _ _ _,z⟩|exact⟨h.put (h.mem.get _) _ _ _ _,z⟩|exact⟨h.put (hp.get _) _ _ _ _,z⟩|exact⟨h.put z _ _ _ _,z⟩|exact⟨⟨h.regs,h.mem.set ra _,h.out⟩,z⟩|exact⟨⟨h.regs,h.mem,h.out.snoc ra⟩,z⟩|exact⟨⟨h.regs,h.mem,h.out⟩,z⟩|exact⟨⟨h.regs,h.mem,h.out⟩,ra⟩)
theorem stepOf_in{p:Prt}{c:Cel}(h:CelIn c)(hp:PrtIn p):CelIn (stepOf p c).1∧In64 (stepOf p c).2.val:=by
 unfold stepOf
 split
 ·exact⟨h,zero_in⟩
 ·split
  ·exact⟨⟨h.regs,h.mem,h.out⟩,zero_in⟩
  ·rename_i i hi
   cases hd:doOf i c p.inp with
   |none=>exact⟨⟨h.regs,h.mem,h.out⟩,zero_in⟩
   |some r=>exact doOf_in (c':=r.1) (k:=r.2) h (hp.1 i (List.mem_of_getElem? hi)) hp.2 hd
theorem replyOf_in{c:Cel}{k:Wnt}{kind val:Int}{is:Bool}(h:CelIn c)(hv:In64 val):CelIn (replyOf c k kind val is):=by
 unfold replyOf
 split
 ·split
  ·exact⟨h.regs.set (bit_in _) _,h.mem,h.out⟩
  ·exact h
 ·refine⟨?_,h.mem,h.out⟩
  dsimp only
  split
  ·exact(h.regs.set hv _).set (bit_in _) _
  ·exact h.regs.set (bit_in _) _
theorem putOf_in{k x:Int}{l:List Int}(h:NumIn l)(hx:In64 x):NumIn (putOf k l x).1:=by
 unfold putOf
 split
 ·split
  ·exact NumIn.nil.snoc hx
  ·split
   ·exact h.snoc hx
   ·exact h
 ·exact NumIn.nil
theorem getOf_in{k:Int}{l:List Int}(h:NumIn l):NumIn (getOf k l).1∧In64 (getOf k l).2.1:=by
 cases l with
 |nil=>
  unfold getOf
  split<;>exact⟨NumIn.nil,zero_in⟩
 |cons x r=>
  unfold getOf
  split
  ·refine⟨?_,h x List.mem_cons_self⟩
   dsimp only
   split
   ·exact fun n hn=>h n (List.mem_cons_of_mem _ hn)
   ·exact h
  ·exact⟨NumIn.nil,zero_in⟩
theorem chanOf_in{kind:Int}{k:Wnt}{c:Cel}{l:List Int}(h:CelIn c)(hl:NumIn l)(hv:In64 k.val):CelIn (chanOf kind k c l).1∧NumIn (chanOf kind k c l).2:=by
 unfold chanOf
 split
 ·exact⟨replyOf_in h zero_in,putOf_in hl hv⟩
 ·exact⟨replyOf_in h (getOf_in hl).2,(getOf_in hl).1⟩
theorem all_set{α:Type}{Q:α→Prop}{l:List α}{x:α}{k:Nat}(h:∀y,y∈l→Q y)(hx:Q x):∀y,y∈l.set k x→Q y:=fun y hy=>by
 rcases List.mem_or_eq_of_mem_set hy with h1|h1
 ·exact h y h1
 ·rw[h1];exact hx
theorem all_get{α:Type}{Q:α→Prop}{l:List α}{d:α}(h:∀y,y∈l→Q y)(hd:Q d)(k:Nat):Q (l.getD k d):=by
 by_cases hk:k<l.length
 ·exact h _ (mem_getD d hk)
 ·rw[List.getD,List.getElem?_eq_none Om]
  exact hd
theorem cel_zero_in:CelIn Cel.zero:=by
 refine⟨fun n hn=>?_,fun n hn=>?_,fun n hn=>?_⟩<;>(simp[Cel.zero] at hn;try(rw[hn];exact zero_in))
theorem stepW_in{s:Sys}{w:Wrl}(hs:SysIn s)(h:WrlIn w):WrlIn (stepW s w):=by
 unfold stepW stepP
 have h1:=stepOf_in (all_get h.cells cel_zero_in (whoOf s.slots w.tick).toNat) (all_get (Q:=PrtIn) hs (d:=Pt0) ⟨fun _ hi=>(by cases hi),NumIn.nil⟩ (whoOf s.slots w.tick).toNat)
 dsimp only
 split
 ·exact⟨all_set h.cells h1.1,h.lines⟩
 ·have h2:=chanOf_in (kind:=(s.chans.getD (stepOf (s.parts.getD (whoOf s.slots w.tick).toNat Pt0) (w.cells.getD (whoOf s.slots w.tick).toNat Cel.zero)).2.chan.toNat C0).kind) h1.1 (all_get (Q:=NumIn) h.lines NumIn.nil (stepOf (s.parts.getD (whoOf s.slots w.tick).toNat Pt0) (w.cells.getD (whoOf s.slots w.tick).toNat Cel.zero)).2.chan.toNat) h1.2
  exact⟨all_set h.cells h2.1,all_set h.lines h2.2⟩
theorem runW_in{s:Sys}(hs:SysIn s):∀n,WrlIn (runW s n)
 |0=>⟨fun c hc=>by rw[List.eq_of_mem_replicate hc];exact cel_zero_in,fun l hl=>by rw[List.eq_of_mem_replicate hl];exact NumIn.nil⟩
 |n+1=>stepW_in hs (runW_in hs n)
theorem readL_in{l:List UInt8}{s:Sys}(h:readL l=some s):SysIn s∧chkSys s=0:=by
 unfold readL at h
 cases hq:sysP l with
 |none=>rw[hq] at h;cases h
 |some q=>
  obtain⟨t,r⟩:=q
  rw[hq,Option.bind_some] at h
  split at h
  ·rename_i hc
   injection h with h
   subst h
   exact⟨fun p hp=>⟨fun i hi=>((((sysP_inv hq).2.part p hp).2.1 i hi).2.2.2),((sysP_inv hq).2.part p hp).2.2⟩,hc.2⟩
  ·cases h
theorem run_short{s:Sys}(hk:chkSys s=0)(n:Nat)(hn:n≤300):∀c,c∈(runW s n).cells→c.out.length≤16∧0≤c.end_∧c.end_≤2:=fun c hc=>by
 have h:=(runW_right hk n hn).1
 obtain⟨k,hk1,rfl⟩:=List.getElem_of_mem hc
 have:=(h.cell k hk1).1
 rw[List.getD,List.getElem?_eq_getElem hk1,Option.getD_some] at this
 unfold cellFine at this
 have:=of_decide_eq_true this
 omega
end
end Go.Proofs.YtndcjmopebcdgaaGreatDoor
