/- The engine, part eight: memory that is lent to a call; made slices; elements of own blocks. No program is named. -/
import Derived.Test.YtndcjmopebcdgaaGreatEng
import Derived.Laws.OwnMore
set_option linter.unusedSimpArgs false
set_option linter.unusedVariables false
namespace Go.Proofs.YtndcjmopebcdgaaGreat
open Go.ChangeShapes Go.WideShapes Go.ChangeAt Go.RowKit
section
variable {w0 w w' u:World} {X X0:Nat→Prop} {es E E':List Asn}
theorem Own.split{w:World}:∀(E:List Asn) (G:Nat→Prop) {es:List Asn},Own w G (E++es)→∃Y:Nat→Prop,(∀k,Y k→¬G k∧k<w.heap.size)∧Own w (fun k=>k<w.heap.size∧¬Y k) E∧Own w (fun k=>G k∨Y k) es
 |[],G,es,h=>⟨fun _=>False,fun _ hk=>hk.elim,trivial,Own.mono (Nat.le_refl _) es _ _ (fun k _ hn=>⟨fun hor=>hor.elim hn id,rfl⟩) h⟩
 |A::r,G,es,⟨F,hA,hF,hr⟩=>by
  obtain⟨Y,h1,h2,h3⟩:=Own.split r _ hr
  refine⟨fun k=>F k∨Y k,fun k hk=>hk.elim (hF k) fun hy=>⟨fun hg=>(h1 k hy).1 (.inl hg),(h1 k hy).2⟩,⟨F,hA,fun k hk=>⟨fun h=>h.2 (.inl hk),(hF k hk).2⟩,?_⟩,Own.mono (Nat.le_refl _) es _ _ (fun k _ hn=>⟨fun hor=>hn ?_,rfl⟩) h3⟩
  ·refine Own.mono (Nat.le_refl _) r _ _ (fun k hk hn=>⟨fun hor=>hn ?_,rfl⟩) h2
   rcases hor with⟨a,b⟩|hf
   ·exact⟨a,fun hy=>b (.inr hy)⟩
   ·exact⟨(hF k hf).2,fun hy=>(h1 k hy).1 (.inr hf)⟩
  ·rcases hor with h|h|h
   ·exact .inl (.inl h)
   ·exact .inl (.inr h)
   ·exact .inr h
theorem Own.combX{Y Hes:Nat→Prop}(hs:w.heap.size≤w'.heap.size)(hsame:∀k,k<w.heap.size→¬Y k→w'.heap[k]?=w.heap[k]?)(hY:∀k,Y k→Hes k):∀(E':List Asn) (H G':Nat→Prop) {es:List Asn},Own w' H E'→(∀k,G' k→H k)→(∀k,k<w.heap.size→G' k→Hes k)→(∀k,k<w.heap.size→¬H k→Hes k)→Own w Hes es→Own w' G' (E'++es)
 |[],_,_,es,_,_,h2,_,ho=>Own.mono hs es _ _ (fun k hk hn=>⟨fun hg=>hn (h2 k hk hg),hsame k hk fun hy=>hn (hY k hy)⟩) ho
 |B::r,H,G',es,⟨F,hB,hF,hr⟩,h1,h2,h3,ho=>
  ⟨F,hB,fun k hk=>⟨fun hg=>(hF k hk).1 (h1 k hg),(hF k hk).2⟩,
   Own.combX hs hsame hY r _ _ hr (fun k hk=>hk.elim (fun h=>.inl (h1 k h)) .inr) (fun k hk hor=>hor.elim (h2 k hk) fun hf=>h3 k hk (hF k hf).1) (fun k hk hn=>h3 k hk fun h=>hn (.inl h)) ho⟩
theorem Wd.lend(E:List Asn)(hW:Wd w0 NoB (E++es) w):∃X:Nat→Prop,Wd w X E w∧(∀u,Chg X w u→Below w0.heap.size w0 u)∧∀w' E',Wd w X E' w'→Wd w0 NoB (E'++es) w':=by
 obtain⟨Y,h1,h2,h3⟩:=Own.split E _ hW.own
 have hz:=hW.size
 have hbl:∀u,Chg Y w u→Below w0.heap.size w0 u:=fun u hc=>by
  refine⟨hc.os.trans hW.chg.os,hc.tape.trans hW.chg.tape,hc.output.trans hW.chg.output,Nat.le_trans hz hc.size,fun k hk=>?_⟩
  exact(hc.block k Om fun hy=>(h1 k hy).1 ⟨hk,id⟩).trans (hW.chg.block k hk id)
 refine⟨Y,⟨Chg.refl _ _,h2⟩,hbl,fun w' E' hN=>⟨Chg.of_below (hbl w' hN.chg),?_⟩⟩
 refine Own.combX hN.chg.size (fun k hk hy=>hN.chg.block k hk hy) (fun k hy=>.inr hy) E' _ _ hN.own (fun k hk=>⟨by omega,fun hy=>(h1 k hy).1 hk⟩) (fun k _ hk=>.inl hk) (fun k hk hn=>?_) h3
 by_cases hy:Y k
 ·exact .inr hy
 ·exact absurd ⟨hk,hy⟩ hn
end
def RFK(w:World)(X:Nat→Prop)(A:Option Addr)(n size:Nat)(f:Nat→List Value):Prop:=∀u,Chg X w u→RF u A n size f
theorem RFK.wd{w u:World}{X:Nat→Prop}{A:Option Addr}{n size:Nat}{f:Nat→List Value}{es:List Asn}(h:RFK w X A n size f)(hW:Wd w X es u):RF u A n size f:=h u hW.chg
theorem made_list{zl:List Value}{z:Array Value}(hz:z.toList=zl)(n:Nat):(madeCells z (n*zl.length)).toList=(List.replicate n zl).flatten:=by
 subst hz
 have hL:z.toList.length=z.size:=by simp
 have key:(madeCells z (n*z.toList.length)).toList=(List.range (n*z.toList.length)).map (fun i=>z[i%z.size]!):=by simp[madeCells]
 rw[key]
 clear key
 induction n with
 |zero=>simp
 |succ m ih=>
  rw[Nat.succ_mul,List.range_add,List.map_append,ih,List.replicate_succ',List.flatten_append,List.flatten_singleton,List.map_map]
  congr 1
  apply List.ext_getElem
  ·simp
  ·intro i h1 h2
   simp only[List.getElem_map,List.getElem_range,Function.comp,hL]
   have hi:i<z.size:=by simpa using h2
   rw[show(m*z.size+i)%z.size=i by rw[Nat.mul_comm,Nat.mul_add_mod,Nat.mod_eq_of_lt hi]]
   simp[hi]
section
variable {P:Program} {w0 w:World} {X:Nat→Prop} {es:List Asn} {a:Act} {ds:List Deferred} {N:Nat} {env:List (Nat×Value)} {ty:TypeId} {ps:String} {af:Array Edge} {gd:Option (Nat×Bool)} {K:Act→World→Prop} {Q:Exit→Act→World→Prop} {d:Tmp} {t T:TypeId} {x y:Operand}
theorem e_makeSlice{size bytes n:Nat}{z:Value}{zl:List Value}(hF:Fr ds N env a)(hW:Wd w0 X es w)(hx:ev env x=some (.int .i64 (n:Int)))(hy:ev env y=some (.int .i64 (n:Int)))(ht:P.underlying t=some (.slice T))(hinf:(P.info? T).map (fun i=>(i.zero,i.size,i.bytes))=some (some z,size,bytes))(hzl:z.cells.toList=zl)(hs:zl.length=size)
  (hb:bytes*n≤281474976710656) (h63:n≤maxLen) (hd:Nat.blt d N=true) (hf:fresh env d=true)
  (k:∀b a w,Fr ds N ((d,.slice (some ⟨b,0,none⟩) n n)::env) a→Wd w0 X (.blk b T ((List.replicate n zl).flatten)::es) w→K a w):(⟨some d,.makeSlice t x y,ty,ps,af,gd⟩:Oper).wp P a w K Q:=by
 obtain⟨i0,hi0,hz0,hz1,hz2⟩:=info_parts hinf
 have hb':(i0.bytes:Int)*(n:Int)≤281474976710656:=by
  have h:((i0.bytes*n:Nat):Int)≤281474976710656:=by rw[hz2];omega
  rwa [Int.natCast_mul] at h
 have h63':(n:Int)≤9223372036854775807:=by
  have h:=h63
  simp[maxLen] at h
  omega
 have hr:=run_make (P:=P) w t T i0 z ht hi0 hz0 .i64 .i64 n n Om (Int.le_refl _) hb' h63'
 simp only[Int.toNat_natCast] at hr
 have hrun:(execOp a.eval ⟨some d,.makeSlice t x y,ty,ps,af,gd⟩).run P w=.ok (.value (.slice (some ⟨w.heap.size,0,none⟩) n n)) (w.alloc (.cells (madeCells z.cells (n*i0.size)) T)):=by
  simp[execOp,hF.ev hx,hF.ev hy,hr]
 exact e_of_new rfl hF hW (by rw[hz1,←hs];exact made_list hzl n) (fun p=>.slice (some p) n n) hrun hd hf k
end
theorem flat_elem{α:Type}{enc:α→List Value}{size n p:Nat}(hs:∀q,(enc q).length=size)(d:α){xs:List α}{l:List Value}(hl:l.take (n*size)=xs.flatMap enc)(hn:n=xs.length)(hp:p<n):(l.drop (p*size)).take size=enc (xs.getD p d):=by
 subst hn
 have h1:(p+1)*size≤xs.length*size:=Nat.mul_le_mul_right _ hp
 rw[Nat.succ_mul] at h1
 have e:(l.drop (p*size)).take size=((l.take (xs.length*size)).drop (p*size)).take size:=by
  rw[List.drop_take,List.take_take,Nat.min_eq_left Om]
 rw[e,hl]
 apply List.ext_getElem?
 intro j
 rw[List.getElem?_take]
 split
 ·rename_i hj
  rw[List.getElem?_drop,flat_get hs p j hp hj,List.getD,List.getElem?_eq_getElem hp]
  rfl
 ·rw[List.getElem?_eq_none (by rw[hs];omega)]
end Go.Proofs.YtndcjmopebcdgaaGreat
