/- The engine, part eight: memory that is lent to a call; made slices; elements of own blocks. No program is named. The engine, part ten: bunches of assertions; slices of ints that begin anywhere in a block of the call's own, and are appended to. No program is named. -/
import Derived.Test.YtndcjmopebcdgaaGreatDoorEng
import Derived.Laws.OwnMore
import Derived.Deep.AppendSrc
import Derived.Deep.Upon
set_option linter.unusedSimpArgs false
set_option linter.unusedVariables false
namespace Go.Proofs.YtndcjmopebcdgaaGreatDoor
section
open Go.ChangeShapes Go.WideShapes Go.ChangeAt Go.RowKit
section
variable {w0 w w' u:World} {X X0:Nat→Prop} {es E E':List Asn}
theorem Own.split{w:World}:∀(E:List Asn) (G:Nat→Prop) {es:List Asn},Own w G (E++es)→∃Y:Nat→Prop,(∀k,Y k→¬G k∧k<w.heap.size)∧Own w (fun k=>k<w.heap.size∧¬Y k) E∧Own w (fun k=>G k∨Y k) es
 |[],G,es,h=>⟨fun _=>False,fun _ hk=>hk.elim,trivial,Own.mono (Nat.le_refl _) es _ _ (fun k _ hn=>⟨fun hor=>hor.elim hn id,rfl⟩) h⟩
 |A::r,G,es,⟨F,hA,hF,hr⟩=>by
  obtain⟨Y,h1,h2,h3⟩:=Own.split r _ hr
  refine⟨fun k=>F k∨Y k,fun k hk=>hk.elim (hF k) fun hy=>⟨fun hg=>(h1 k hy).1 (.inl hg),(h1 k hy).2⟩,⟨F,hA,fun k hk=>⟨fun h=>h.2 (.inl hk),(hF k hk).2⟩,?_⟩,Own.mono (Nat.le_refl _) es _ _ (fun k _ hn=>⟨fun hor=>hn ?_,rfl⟩) h3⟩
  ·refine Own.mono (Nat.le_refl _) r _ _ (fun k hk hn=>⟨fun hor=>hn ?_,rfl⟩) h2
   rcases hor with⟨a,b⟩|hf
   ·exact⟨a,fun hy=>b (.inr hy)⟩
   ·exact⟨(hF k hf).2,fun hy=>(h1 k hy).1 (.inr hf)⟩
  ·rcases hor with h|h|h
   ·exact .inl (.inl h)
   ·exact .inl (.inr h)
   ·exact .inr h
theorem Own.combX{Y Hes:Nat→Prop}(hs:w.heap.size≤w'.heap.size)(hsame:∀k,k<w.heap.size→¬Y k→w'.heap[k]?=w.heap[k]?)(hY:∀k,Y k→Hes k):∀(E':List Asn) (H G':Nat→Prop) {es:List Asn},Own w' H E'→(∀k,G' k→H k)→(∀k,k<w.heap.size→G' k→Hes k)→(∀k,k<w.heap.size→¬H k→Hes k)→Own w Hes es→Own w' G' (E'++es)
 |[],_,_,es,_,_,h2,_,ho=>Own.mono hs es _ _ (fun k hk hn=>⟨fun hg=>hn (h2 k hk hg),hsame k hk fun hy=>hn (hY k hy)⟩) ho
 |B::r,H,G',es,⟨F,hB,hF,hr⟩,h1,h2,h3,ho=>
  ⟨F,hB,fun k hk=>⟨fun hg=>(hF k hk).1 (h1 k hg),(hF k hk).2⟩,
   Own.combX hs hsame hY r _ _ hr (fun k hk=>hk.elim (fun h=>.inl (h1 k h)) .inr) (fun k hk hor=>hor.elim (h2 k hk) fun hf=>h3 k hk (hF k hf).1) (fun k hk hn=>h3 k hk fun h=>hn (.inl h)) ho⟩
theorem Wd.lend(E:List Asn)(hW:Wd w0 NoB (E++es) w):∃X:Nat→Prop,Wd w X E w∧(∀u,Chg X w u→Below w0.heap.size w0 u)∧∀w' E',Wd w X E' w'→Wd w0 NoB (E'++es) w':=by
 obtain⟨Y,h1,h2,h3⟩:=Own.split E _ hW.own
 have hz:=hW.size
 have hbl:∀u,Chg Y w u→Below w0.heap.size w0 u:=fun u hc=>by
  refine⟨hc.os.trans hW.chg.os,hc.tape.trans hW.chg.tape,hc.output.trans hW.chg.output,Nat.le_trans hz hc.size,fun k hk=>?_⟩
  exact(hc.block k Om fun hy=>(h1 k hy).1 ⟨hk,id⟩).trans (hW.chg.block k hk id)
 refine⟨Y,⟨Chg.refl _ _,h2⟩,hbl,fun w' E' hN=>⟨Chg.of_below (hbl w' hN.chg),?_⟩⟩
 refine Own.combX hN.chg.size (fun k hk hy=>hN.chg.block k hk hy) (fun k hy=>.inr hy) E' _ _ hN.own (fun k hk=>⟨by omega,fun hy=>(h1 k hy).1 hk⟩) (fun k _ hk=>.inl hk) (fun k hk hn=>?_) h3
 by_cases hy:Y k
 ·exact .inr hy
 ·exact absurd ⟨hk,hy⟩ hn
end
def RFK(w:World)(X:Nat→Prop)(A:Option Addr)(n size:Nat)(f:Nat→List Value):Prop:=∀u,Chg X w u→RF u A n size f
theorem RFK.wd{w u:World}{X:Nat→Prop}{A:Option Addr}{n size:Nat}{f:Nat→List Value}{es:List Asn}(h:RFK w X A n size f)(hW:Wd w X es u):RF u A n size f:=h u hW.chg
theorem made_list{zl:List Value}{z:Array Value}(hz:z.toList=zl)(n:Nat):(madeCells z (n*zl.length)).toList=(List.replicate n zl).flatten:=by
 subst hz
 have hL:z.toList.length=z.size:=by simp
 have key:(madeCells z (n*z.toList.length)).toList=(List.range (n*z.toList.length)).map (fun i=>z[i%z.size]!):=by simp[madeCells]
 rw[key]
 clear key
 induction n with
 |zero=>simp
 |succ m ih=>
  rw[Nat.succ_mul,List.range_add,List.map_append,ih,List.replicate_succ',List.flatten_append,List.flatten_singleton,List.map_map]
  congr 1
  apply List.ext_getElem
  ·simp
  ·intro i h1 h2
   simp only[List.getElem_map,List.getElem_range,Function.comp,hL]
   have hi:i<z.size:=by simpa using h2
   rw[show(m*z.size+i)%z.size=i by rw[Nat.mul_comm,Nat.mul_add_mod,Nat.mod_eq_of_lt hi]]
   simp[hi]
section
variable {P:Program} {w0 w:World} {X:Nat→Prop} {es:List Asn} {a:Act} {ds:List Deferred} {N:Nat} {env:List (Nat×Value)} {ty:TypeId} {ps:String} {af:Array Edge} {gd:Option (Nat×Bool)} {K:Act→World→Prop} {Q:Exit→Act→World→Prop} {d:Tmp} {t T:TypeId} {x y:Operand}
theorem e_makeSlice{size bytes n:Nat}{z:Value}{zl:List Value}(hF:Fr ds N env a)(hW:Wd w0 X es w)(hx:ev env x=some (.int .i64 (n:Int)))(hy:ev env y=some (.int .i64 (n:Int)))(ht:P.underlying t=some (.slice T))(hinf:(P.info? T).map (fun i=>(i.zero,i.size,i.bytes))=some (some z,size,bytes))(hzl:z.cells.toList=zl)(hs:zl.length=size)
  (hb:bytes*n≤281474976710656) (h63:n≤maxLen) (hd:Nat.blt d N=true) (hf:fresh env d=true)
  (k:∀b a w,Fr ds N ((d,.slice (some ⟨b,0,none⟩) n n)::env) a→Wd w0 X (.blk b T ((List.replicate n zl).flatten)::es) w→K a w):(⟨some d,.makeSlice t x y,ty,ps,af,gd⟩:Oper).wp P a w K Q:=by
 obtain⟨i0,hi0,hz0,hz1,hz2⟩:=info_parts hinf
 have hb':(i0.bytes:Int)*(n:Int)≤281474976710656:=by
  have h:((i0.bytes*n:Nat):Int)≤281474976710656:=by rw[hz2];omega
  rwa [Int.natCast_mul] at h
 have h63':(n:Int)≤9223372036854775807:=by
  have h:=h63
  simp[maxLen] at h
  omega
 have hr:=run_make (P:=P) w t T i0 z ht hi0 hz0 .i64 .i64 n n Om (Int.le_refl _) hb' h63'
 simp only[Int.toNat_natCast] at hr
 have hrun:(execOp a.eval ⟨some d,.makeSlice t x y,ty,ps,af,gd⟩).run P w=.ok (.value (.slice (some ⟨w.heap.size,0,none⟩) n n)) (w.alloc (.cells (madeCells z.cells (n*i0.size)) T)):=by
  simp[execOp,hF.ev hx,hF.ev hy,hr]
 exact e_of_new rfl hF hW (by rw[hz1,←hs];exact made_list hzl n) (fun p=>.slice (some p) n n) hrun hd hf k
end
theorem flat_elem{α:Type}{enc:α→List Value}{size n p:Nat}(hs:∀q,(enc q).length=size)(d:α){xs:List α}{l:List Value}(hl:l.take (n*size)=xs.flatMap enc)(hn:n=xs.length)(hp:p<n):(l.drop (p*size)).take size=enc (xs.getD p d):=by
 subst hn
 have h1:(p+1)*size≤xs.length*size:=Nat.mul_le_mul_right _ hp
 rw[Nat.succ_mul] at h1
 have e:(l.drop (p*size)).take size=((l.take (xs.length*size)).drop (p*size)).take size:=by
  rw[List.drop_take,List.take_take,Nat.min_eq_left Om]
 rw[e,hl]
 apply List.ext_getElem?
 intro j
 rw[List.getElem?_take]
 split
 ·rename_i hj
  rw[List.getElem?_drop,flat_get hs p j hp hj,List.getD,List.getElem?_eq_getElem hp]
  rfl
 ·rw[List.getElem?_eq_none (by rw[hs];omega)]
end
section
open Go.ChangeShapes Go.WideShapes Go.ChangeAt Go.RowKit
section
variable {w0 w w':World} {X:Nat→Prop} {es:List Asn}
theorem Own.keep{w w':World}:∀(es:List Asn) (G G':Nat→Prop),(∀k,k<w.heap.size→¬G k→¬G' k∧w'.heap[k]?=w.heap[k]?)→Own w G es→Own w' G' es
 |[],_,_,_,_=>trivial
 |A::r,G,G',h,⟨F,hA,hF,hr⟩=>
  ⟨F,A.loc _ _ F hA fun k hk=>(h k (hF k hk).2 (hF k hk).1).2,fun k hk=>⟨(h k (hF k hk).2 (hF k hk).1).1,by
    have h1:=(h k (hF k hk).2 (hF k hk).1).2
    rw[Array.getElem?_eq_getElem (hF k hk).2] at h1
    exact(Array.getElem?_eq_some_iff.1 h1).1⟩,
   Own.keep r _ _ (fun k hk hn=>⟨fun hor=>hor.elim (h k hk fun hg=>hn (.inl hg)).1 fun hf=>hn (.inr hf),(h k hk fun hg=>hn (.inl hg)).2⟩) hr⟩
def Asn.bunch(Es:List Asn):Asn where
 holds w F:=Own w (fun k=>¬F k) Es
 loc:=fun _ _ _ h hk=>Own.keep Es _ _ (fun k _ hn=>⟨hn,hk k (Classical.not_not.1 hn)⟩) h
theorem Wd.unbunch{Es:List Asn}(hW:Wd w0 X (.bunch Es::es) w):Wd w0 X (Es++es) w:=by
 obtain⟨hc,F,hB,hF,hr⟩:=hW
 exact⟨hc,Own.combX (w':=w) (Y:=F) (Nat.le_refl _) (fun _ _ _=>rfl) (fun k hk=>.inr hk) Es _ _ hB (fun k hg hf=>(hF k hf).1 hg) (fun k _ hg=>.inl hg) (fun k _ hn=>.inr (Classical.not_not.1 hn)) hr⟩
theorem Wd.bunch(Es:List Asn)(hW:Wd w0 X (Es++es) w):Wd w0 X (.bunch Es::es) w:=by
 obtain⟨Y,h1,h2,h3⟩:=Own.split Es _ hW.own
 exact⟨hW.chg,Y,Own.mono (Nat.le_refl _) Es _ _ (fun k hk hn=>⟨fun h=>hn ⟨hk,h⟩,rfl⟩) h2,h1,h3⟩
theorem Own.swap{A B:Asn}{G:Nat→Prop}(h:Own w G (A::B::es)):Own w G (B::A::es):=Own.front (A::B::es) G 1 B h rfl
theorem Own.back{A:Asn}:∀(l1:List Asn) (G:Nat→Prop) {l2:List Asn},Own w G (A::(l1++l2))→Own w G (l1++A::l2)
 |[],_,_,h=>h
 |_::r,_,_,h=>by
  obtain⟨F,hB,hF,h2⟩:=Own.swap h
  exact⟨F,hB,hF,Own.back r _ h2⟩
theorem Own.fwd{A:Asn}:∀(l1:List Asn) (G:Nat→Prop) {l2:List Asn},Own w G (l1++A::l2)→Own w G (A::(l1++l2))
 |[],_,_,h=>h
 |_::r,_,_,⟨F,hB,hF,h2⟩=>Own.swap ⟨F,hB,hF,Own.fwd r _ h2⟩
theorem Wd.back{A:Asn}{l1 l2:List Asn}(hW:Wd w0 X (A::(l1++l2)) w):Wd w0 X (l1++A::l2) w:=⟨hW.chg,hW.own.back l1 _⟩
theorem Wd.fwd{A:Asn}{l1 l2:List Asn}(hW:Wd w0 X (l1++A::l2) w):Wd w0 X (A::(l1++l2)) w:=⟨hW.chg,hW.own.fwd l1 _⟩
theorem Wd.bunch_res{α:Type}{f:α→Asn}{R:α→World→Prop}(hf:∀q w F,(f q).holds w F→∀u,(∀k,F k→u.heap[k]?=w.heap[k]?)→R q u):∀(qs:List α) {es:List Asn} {w:World},Wd w0 X (.bunch (qs.map f)::es) w→Wd w0 X (.res (fun u=>∀q,q∈qs→R q u)::es) w:=by
 intro qs es w hW
 obtain⟨hc,F,hB,hF,hr⟩:=hW
 refine⟨hc,F,fun u hk=>?_,hF,hr⟩
 have key:∀(qs:List α) (G:Nat→Prop),Own w G (qs.map f)→(∀k,¬G k→F k)→∀q,q∈qs→R q u:=by
  intro qs
  induction qs with
  |nil=>intro _ _ _ q h;cases h
  |cons x r ih=>
   rintro G ⟨F1,h1,h2,h3⟩ hG q hq
   rcases List.mem_cons.1 hq with rfl|hq
   ·exact hf q w F1 h1 u fun k hk'=>hk k (hG k (h2 k hk').1)
   ·exact ih _ h3 (fun k hn=>hG k fun hg=>hn (.inl hg)) q hq
 exact key qs _ hB fun k hn=>Classical.not_not.1 hn
def Asn.seg(T:TypeId)(v:Value)(l:List Int):Asn where
 holds w F:=∃A c,v=.slice A l.length c∧l.length≤c∧c≤maxLen∧(0<c→∃b o L,A=some ⟨b,o,none⟩∧F b∧Blk w b T L∧o+c≤L.length∧(L.drop o).take l.length=l.map (.int .i64))
 loc:=fun w w' F h hk=>by
  obtain⟨A,c,e,h1,h2,h3⟩:=h
  refine⟨A,c,e,h1,h2,fun h0=>?_⟩
  obtain⟨b,o,L,e2,hF,hB,r⟩:=h3 h0
  exact⟨b,o,L,e2,hF,(hk b hF).trans hB,r⟩
variable {T:TypeId} {v:Value} {l:List Int} {A:Option Addr} {n c:Nat}
theorem Wd.segR(hW:Wd w0 X es w)(i:Nat)(hi:es[i]?=some (.seg T (.slice A n c) l)):RF w A n 1 (fun k=>[.int .i64 (l.getD k 0)]):=fun hn=>by
 obtain⟨F,⟨A',c',e,h1,h2,h3⟩,_⟩:=Own.get es _ i _ hW.own hi
 simp only[Value.slice.injEq] at e
 obtain⟨rfl,rfl,rfl⟩:=e
 obtain⟨b,o,L,rfl,-,hB,hL,ht⟩:=h3 Om
 refine⟨rfl,fun k hk o' u hu=>?_⟩
 obtain rfl:o'=0:=by
  have:=(List.getElem?_eq_some_iff.1 hu).1
  simp at this
  omega
 simp only[List.getElem?_cons_zero,Option.some.injEq] at hu
 show w.cell? ((⟨b,o,none⟩:Addr).add (k*1+0))=some u
 rw[add_own,Nat.mul_one,Nat.add_zero,hB.cell]
 have h4:=congrArg (fun r=>r[k]?) ht
 simp only[List.getElem?_take,if_pos hk,List.getElem?_drop,List.getElem?_map,List.getElem?_eq_getElem hk] at h4
 rw[h4,←hu]
 simp[List.getD,List.getElem?_eq_getElem hk]
theorem Wd.seg_tail(hW:Wd w0 X es w)(i:Nat)(hi:es[i]?=some (.seg T (.slice A n c) l))(hl:0<n):Wd w0 X (es.set i (.seg T (.slice (if c=1 then A else A.map (·.add (1*1))) (n - 1) (c - 1)) l.tail)) w:=
 hW.upd i hi fun F hF=>by
  obtain⟨A',c',e,h1,h2,h3⟩:=hF
  simp only[Value.slice.injEq] at e
  obtain⟨rfl,rfl,rfl⟩:=e
  obtain⟨b,o,L,rfl,hFb,hB,hL,ht⟩:=h3 Om
  refine⟨Chg.refl _ _,(· =b),⟨_,c - 1,by rw[List.length_tail],by rw[List.length_tail];omega,by omega,fun h0=>⟨b,o+1,L,?_,rfl,hB,by omega,?_⟩⟩,fun k hk=>by subst hk;exact⟨hB.lt,.inl hFb⟩⟩
  ·rw[if_neg Om]
   show some ((⟨b,o,none⟩:Addr).add (1*1))=_
   rw[add_own]
  ·have h4:=congrArg List.tail ht
   rw[List.length_tail,←List.drop_drop,List.map_tail,←h4,←List.drop_one,List.drop_take]
theorem Wd.blk_seg(hW:Wd w0 X es w)(i:Nat){b:Nat}{L:List Value}(l:List Int)(hi:es[i]?=some (.blk b T L))(hL:L=l.map (.int .i64))(hm:l.length≤maxLen):Wd w0 X (es.set i (.seg T (.slice (some ⟨b,0,none⟩) l.length l.length) l)) w:=
 hW.upd i hi fun F hF=>⟨Chg.refl _ _,(· =b),⟨_,l.length,rfl,Nat.le_refl _,hm,fun _=>⟨b,0,L,rfl,rfl,hF.2.2,by simp[hL],by rw[hL,List.drop_zero,List.take_of_length_le Si]⟩⟩,fun k hk=>by subst hk;exact⟨hF.2.2.lt,.inl hF.1⟩⟩
end
section
variable {P:Program} {w0 w:World} {X:Nat→Prop} {es:List Asn} {a:Act} {ds:List Deferred} {N:Nat} {env:List (Nat×Value)} {ty:TypeId} {ps:String} {af:Array Edge} {gd:Option (Nat×Bool)} {K:Act→World→Prop} {Q:Exit→Act→World→Prop} {d:Tmp} {t:TypeId} {x y:Operand}
theorem e_appendSeg{T:TypeId}{bytes:Nat}{z:Value}{m c2:Nat}{A2:Option Addr}{v:Value}{l news l':List Int}(hF:Fr ds N env a)(hW:Wd w0 X es w)(i:Nat)(hi:es[i]?=some (.seg T v l))
  (hx:ev env x=some v) (hy:ev env y=some (.slice A2 m c2)) (ht:P.underlying t=some (.slice T)) (hinf:(P.info? T).map (fun i=>(i.zero,i.size,i.bytes))=some (some z,1,bytes)) (hzs:z.cells.size=1)
  (hr:RowAt w 1 A2 m (news.map (.int .i64))) (hl':l++news=l') (hb:l'.length*bytes≤140737488355328) (h63:l'.length≤maxLen) (hd:Nat.blt d N=true) (hf:fresh env d=true)
  (k:∀A' c' a w,Fr ds N ((d,.slice A' l'.length c')::env) a→Wd w0 X (es.set i (.seg T (.slice A' l'.length c') l')) w→K a w):(⟨some d,.call ⟨.builtin .append,#[x,y],#[t,t]⟩,ty,ps,af,gd⟩:Oper).wp P a w K Q:=by
 subst hl'
 obtain⟨i0,hi0,hz0,hz1,hz2⟩:=info_parts hinf
 obtain⟨F,⟨A,c,rfl,h1,h2,h3⟩,hFo⟩:=Own.get es _ i _ hW.own hi
 have hm:news.length=m:=by have:=hr.1;simpa using this
 have hsrc:Src P i0.size t (.slice A2 m c2) m (news.map (.int .i64)) w:=by
  rw[hz1]
  rcases A2 with _|ad
  ·have h0:m=0:=by
    rcases Nat.eq_zero_or_pos m with h0|h0
    ·exact h0
    ·obtain⟨ad,h,_⟩:=hr.2 h0
     cases h
   subst h0
   obtain rfl:=List.eq_nil_of_length_eq_zero hm
   exact Src.ofNil _ ht c2
  ·refine Src.ofSlice _ ht ad m c2 _ hr.1 (fun j u hj=>?_) (fun u hu=>?_)
   ·have h0:0<m:=by
     have:=(List.getElem?_eq_some_iff.1 hj).1
     simp at this
     omega
    obtain⟨ad',e,hc⟩:=hr.2 h0
    injection e with e
    subst e
    exact hc j u hj
   ·obtain⟨q,_,rfl⟩:=List.mem_map.1 hu
    rfl
 have fin:∀(v':Value) (w':World),(Builtin.append_ #[t,t] ty #[.slice A l.length c,.slice A2 m c2]).run P w=.ok v' w'→(∃A' c',v'=.slice A' (l++news).length c'∧Wd w0 X (es.set i (.seg T (.slice A' (l++news).length c') (l++news))) w')→(⟨some d,.call ⟨.builtin .append,#[x,y],#[t,t]⟩,ty,ps,af,gd⟩:Oper).wp P a w K Q:=by
  rintro v' w' hrun ⟨A',c',rfl,hW'⟩
  have hrun':(execOp a.eval ⟨some d,.call ⟨.builtin .append,#[x,y],#[t,t]⟩,ty,ps,af,gd⟩).run P w=.ok (.value (.slice A' (l++news).length c')) w':=by
   simp[execOp,resolve,invoke,builtin,hF.ev hx,hF.ev hy,hrun]
  unfold Oper.wp
  rw[hrun']
  exact k A' c' _ w' (hF.put _ hd hf) hW'
 rcases Nat.eq_zero_or_pos m with h0|h0
 ·subst h0
  obtain rfl:=List.eq_nil_of_length_eq_zero hm
  refine fin _ w (run_append_nothing w t t ty T i0 ht hi0 A l.length c h1 _ hsrc) ⟨A,c,by simp,?_⟩
  rw[List.append_nil]
  have hself:es.set i (.seg T (.slice A l.length c) l)=es:=by
   apply List.ext_getElem?
   intro j
   rw[List.getElem?_set]
   split
   ·rename_i h
    subst h
    rw[if_pos (List.getElem?_eq_some_iff.1 hi).1,hi]
   ·rfl
  rw[hself]
  exact hW
 ·by_cases hroom:l.length+m≤c
  ·obtain⟨b,o,L,rfl,hFb,hB,hL,htk⟩:=h3 Om
   have hcell:∀j,j<(news.map (Value.int .i64)).length→(w.cell? ⟨b,o+l.length*i0.size+j,none⟩).isSome=true:=fun j hj=>by
    rw[hB.cell,hz1,Nat.mul_one]
    simp only[List.length_map] at hj
    rw[List.getElem?_eq_getElem Om]
    rfl
   have hrun:=run_append_room_src w t t ty T i0 ht hi0 b o l.length c _ m _ hsrc hroom hcell (fun j _=>hB.frozen _)
   obtain⟨hB',hO'⟩:=setCells_blk (news.map (Value.int .i64)) w L (o+l.length*i0.size) hB
   refine fin _ _ hrun ⟨some ⟨b,o,none⟩,c,by rw[List.length_append,hm],?_⟩
   refine hW.upd i hi fun F2 hF2=>?_
   obtain⟨A2',c2',e2,_,_,h3'⟩:=hF2
   simp only[Value.slice.injEq] at e2
   obtain⟨rfl,-,rfl⟩:=e2
   obtain⟨b2,o2,L2,e3,hFb2,-,-,-⟩:=h3' Om
   simp only[Option.some.injEq,Addr.mk.injEq,and_true] at e3
   obtain⟨rfl,rfl⟩:=e3
   refine⟨(Chg.of_only hO').mono fun k _ hk=>hk▸hFb2,(· =b),⟨_,c,rfl,by rw[List.length_append,hm];exact hroom,h2,fun _=>⟨b,o,_,rfl,rfl,hB',by rw[splice_len];exact hL,?_⟩⟩,fun k hk=>by subst hk;exact⟨hB'.lt,.inl hFb2⟩⟩
   rw[hz1,Nat.mul_one,splice_eq _ _ _ (by rw[List.length_map];omega),List.length_append,List.map_append,←htk]
   have e1:(L.take (o+l.length)).length=o+l.length:=by rw[List.length_take];omega
   rw[List.drop_append_of_le_length Om,List.drop_take,Nat.add_sub_cancel_left,←List.append_assoc]
   exact List.take_left' (by simp;omega)
  ·have hold:(Builtin.firstCells i0.size l.length (.slice A l.length c)).run P w.drew=.ok (l.map (Value.int .i64)).toArray w.drew:=by
    rcases Nat.eq_zero_or_pos c with hc0|hc0
    ·have hl0:l.length=0:=by omega
     obtain rfl:=List.eq_nil_of_length_eq_zero hl0
     rcases A with _|ad
     ·exact run_firstCells_none _ _ _ _ _
     ·exact run_firstCells_some _ _ _ _ _ _ _ Si Si
    ·obtain⟨b,o,L,rfl,hFb,hB,hL,htk⟩:=h3 hc0
     refine run_firstCells_some _ _ _ _ _ _ _ (by rw[hz1];simp) fun j u hj=>?_
     show w.cell? _=_
     rw[add_own,hB.cell,←hj,←htk,List.getElem?_take,List.getElem?_drop,if_pos (by have:=(List.getElem?_eq_some_iff.1 hj).1;simpa using this)]
   have hlen:(l++news).length=l.length+m:=by rw[List.length_append,hm]
   have hrun:=run_append_grow_src w t t ty T i0 z ht hi0 hz0 A l.length c _ hold _ m _ hsrc Om (by unfold maxLen at h63;omega) (by rw[hz2];exact growslice_fits Om (by rw[←hlen];exact hb))
   have hge:=grownCap_ge w (l.length+m) c T
   have hcm:grownCap w (l.length+m) c T≤maxLen:=grownCap_le_maxLen w (l.length+m) c T (by rw[←hlen];exact h63)
   refine fin _ _ hrun ⟨_,_,by rw[hlen],?_⟩
   refine hW.upd i hi fun F2 hF2=>⟨⟨rfl,rfl,rfl,by simp,fun k hk _=>heap_alloc_old w.drew _ hk⟩,(· =w.heap.size),⟨_,_,rfl,by rw[hlen];exact hge,hcm,fun _=>⟨w.heap.size,0,_,rfl,rfl,Blk.new w.drew _ _,?_,?_⟩⟩,fun k hk=>⟨by subst hk;simp,.inr (Nat.le_of_eq hk.symm)⟩⟩
   ·simp[size_zeroCells,hzs,hm]
    omega
   ·simp only[List.drop_zero,Array.toList_append,List.map_append]
    rw[←List.map_append,List.take_left' Si]
end
end
end Go.Proofs.YtndcjmopebcdgaaGreatDoor
