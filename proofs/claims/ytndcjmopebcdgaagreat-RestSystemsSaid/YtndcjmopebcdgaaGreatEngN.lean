/- The engine: rows that a call gave and that are written over: of each it is known that it is still so long and unfrozen, and that its cells are ints. No program is named. -/
import Derived.Test.YtndcjmopebcdgaaGreatEngU
set_option linter.unusedSimpArgs false
set_option linter.unusedVariables false
namespace Go.Proofs.YtndcjmopebcdgaaGreat
open Go.ChangeShapes Go.WideShapes Go.ChangeAt Go.RowKit
def SoftAt(w:World)(A:Option Addr)(m:Nat)(F:Nat→Prop):Prop:=0<m→∃b T l,A=some ⟨b,0,none⟩∧F b∧Blk w b T l∧m≤l.length∧∀j,j<m→∃x,l[j]?=some (Value.int .i64 x)
def Asn.soft(rs:List (Option Addr×Nat)):Asn where
 holds w F:=∀r,r∈rs→SoftAt w r.1 r.2 F
 loc:=fun w w' F h hk r hr h0=>by
  obtain⟨b,T,l,e,hF,hB,h1,h2⟩:=h r hr h0
  exact⟨b,T,l,e,hF,(hk b hF).trans hB,h1,h2⟩
theorem soft_of_own{u:World}{T:TypeId}{size n n' c:Nat}{A:Option Addr}{cs:List Value}(h:u.ownsRow 0 T size (.slice A n' c) n cs)(hi:∀x∈cs,∃y,x=.int .i64 y):SoftAt u A (n*size) (fun _=>True):=fun h0=>by
 rcases h.2 with⟨_,hn⟩|⟨g,cap,cur,hv,_,hg,h1,h2,h3,h4⟩
 ·subst hn;simp at h0
 ·simp only[Value.slice.injEq] at hv
  have hlen:=h.1
  refine⟨g,T,cur.toList,hv.1,trivial,by simpa[Blk] using hg,by rw[Array.length_toList,h3];exact Nat.mul_le_mul_right _ h1,fun j hj=>?_⟩
  have hj':j<cs.length:=by omega
  obtain⟨y,hy⟩:=hi cs[j] (List.getElem_mem hj')
  refine⟨y,?_⟩
  have h5:(cur.toList.take (n*size))[j]?=some cs[j]:=by rw[h4];exact List.getElem?_eq_getElem hj'
  rw[List.getElem?_take,if_pos hj] at h5
  rw[h5,hy]
theorem soft_ints{u:World}{A:Option Addr}{n c:Nat}{l:List Int}(h:OwnInts u 0 (.slice A n c) l):SoftAt u A l.length (fun _=>True):=by
 obtain⟨T,h⟩:=h
 have:=soft_of_own h fun x hx=>by
  obtain⟨y,-,rfl⟩:=List.mem_map.1 hx
  exact⟨y,rfl⟩
 rwa [Nat.mul_one] at this
section
variable {w0 w w':World} {X:Nat→Prop} {es:List Asn} {rs:List (Option Addr×Nat)}
theorem Wd.soften{R:World→Prop}(hW:Wd w0 X (.res R::es) w)(rs:List (Option Addr×Nat))(h:∀u,R u→∀r,r∈rs→SoftAt u r.1 r.2 (fun _=>True)):Wd w0 X (.soft rs::es) w:=
 hW.upd 0 rfl fun F hF=>by
  refine⟨Chg.refl _ _,fun k=>F k∧k<w.heap.size,fun r hr h0=>?_,fun k hk=>⟨hk.2,.inl hk.1⟩⟩
  obtain⟨b,T,l,e,_,hB,h1,h2⟩:=h w (hF w fun _ _=>rfl) r hr h0
  refine⟨b,T,l,e,⟨?_,hB.lt⟩,hB,h1,h2⟩
  refine Classical.byContradiction fun hn=>?_
  have hR:=hF {w with heap:=w.heap.setIfInBounds b (.pending #[] 0)} fun k hk=>by
   have hkb:¬b=k:=fun e=>hn (e▸hk)
   simp[Array.getElem?_setIfInBounds,hkb]
  obtain⟨b',T',l',e',_,hB',_⟩:=h _ hR r hr h0
  rw[e] at e'
  simp only[Option.some.injEq,Addr.mk.injEq,and_true] at e'
  subst e'
  unfold Blk at hB'
  simp[hB.lt] at hB'
theorem Wd.soft_addr(hW:Wd w0 X es w)(i:Nat)(hi:es[i]?=some (.soft rs)){A:Option Addr}{m:Nat}(hm:(A,m)∈rs)(h0:0<m):∃b,A=some ⟨b,0,none⟩:=by
 obtain⟨F,hA,_⟩:=Own.get es _ i _ hW.own hi
 obtain⟨b,_,_,e,_⟩:=hA _ hm h0
 exact⟨b,e⟩
theorem Wd.soft_blk(hW:Wd w0 X es w)(i:Nat)(hi:es[i]?=some (.soft rs)){b m:Nat}(hm:(some ⟨b,0,none⟩,m)∈rs)(h0:0<m):∃T l,Blk w b T l∧m≤l.length∧
  ∀(w':World) (l':List Value),Only b w w'→Blk w' b T l'→l'.length=l.length→(∀j:Nat,(∃x:Int,l[j]?=some (Value.int .i64 x))→∃x,l'[j]?=some (Value.int .i64 x))→Wd w0 X (es.set i (.soft rs)) w':=by
 obtain⟨F,hA,_⟩:=Own.get es _ i _ hW.own hi
 obtain⟨b',T,l,e,_,hB,h1,h2⟩:=hA _ hm h0
 simp only[Option.some.injEq,Addr.mk.injEq,and_true] at e
 subst e
 refine⟨T,l,hB,h1,fun w' l' ho hB' hl hj=>hW.upd i hi fun F hF=>?_⟩
 have hFb:F b:=by
  obtain⟨b',_,_,e,hF',_⟩:=hF _ hm h0
  simp only[Option.some.injEq,Addr.mk.injEq,and_true] at e
  exact e▸hF'
 refine⟨(Chg.of_only ho).mono fun k _ hk=>hk▸hFb,fun k=>F k∧k<w'.heap.size,fun r hr h0=>?_,fun k hk=>⟨hk.2,.inl hk.1⟩⟩
 obtain⟨c,T',m',e,hF',hBc,h3,h4⟩:=hF r hr h0
 by_cases hcb:c=b
 ·subst hcb
  unfold Blk at hB hBc
  rw[hB] at hBc
  simp only[Option.some.injEq,Obj.cells.injEq,and_true] at hBc
  obtain⟨e1,rfl⟩:=hBc
  have e2:l=m':=by simpa using congrArg Array.toList e1
  subst e2
  exact⟨c,T,l',e,⟨hF',hB'.lt⟩,hB',by omega,fun j hj'=>hj j (h4 j hj')⟩
 ·exact⟨c,T',m',e,⟨hF',by have:=hBc.lt;have:=ho.size;omega⟩,(ho.block c hcb).trans hBc,h3,h4⟩
end
section
variable {P:Program} {w0 w w':World} {X:Nat→Prop} {es:List Asn} {a:Act} {ds:List Deferred} {N:Nat} {env:List (Nat×Value)} {ty t:TypeId} {ps:String} {af:Array Edge} {gd:Option (Nat×Bool)} {x y:Operand} {K:Act→World→Prop} {Q:Exit→Act→World→Prop}
theorem y_indexSoft(hF:Fr ds N env a){dst:Option Tmp}{e z:TypeId}{A:Option Addr}{i n c m:Nat}{kk:IntKind}{rs:List (Option Addr×Nat)}(hx:ev env x=some (.slice A n c))(hy:ev env y=some (.int kk (i:Int)))(hi:i<n)(hu:P.underlying t=some (.slice e))(hz:(P.info? e).map (·.size)=some z)
  (j:Nat) (hj:es[j]?=some (.soft rs)) (hm:(A,m)∈rs) (h0:0<m):Yv P w0 X es a ⟨dst,.indexAddr t x y,ty,ps,af,gd⟩ (.pointer (some ((adr A).add (i*z+0)))):=fun w hw=>by
 obtain⟨b,rfl⟩:=hw.soft_addr j hj hm h0
 cases hie:P.info? e with
 |none=>rw[hie] at hz;cases hz
 |some j=>
  rw[hie] at hz
  have hz':j.size=z:=by simpa using hz
  have hx':=hF.ev hx
  have h1:(0:Int)≤(i:Int)∧(i:Int)<(n:Int):=by omega
  simp[execOp,hx',hF.ev hy,Instr.indexAt,asIntOf,run_underlying hu,sizeOf,typeInfo,hie,hz',hi,adr]
theorem e_storeSoft{dst:Option Tmp}(hdst:dst=none)(hF:Fr ds N env a)(hW:Wd w0 X es w){A:Option Addr}{o m:Nat}{z:Int}{rs:List (Option Addr×Nat)}(hx:ev env x=some (.pointer (some ((adr A).add o))))(hy:ev env y=some (.int .i64 z))(i:Nat)(hi:es[i]?=some (.soft rs))
  (hm:(A,m)∈rs) (ho:o<m) (hz:(P.info? t).map (·.size)=some 1)
  (k:∀w,Wd w0 X (es.set i (.soft rs)) w→K a w):(⟨dst,.store t x y,ty,ps,af,gd⟩:Oper).wp P a w K Q:=by
 subst hdst
 obtain⟨b,rfl⟩:=hW.soft_addr i hi hm Om
 obtain⟨T,l,hB,hl,hk⟩:=hW.soft_blk i hi hm Om
 have hx':ev env x=some (.pointer (some ⟨b,o,none⟩)):=by rw[hx];show some (Value.pointer (some ((⟨b,0,none⟩:Addr).add o)))=_;rw[add_own,Nat.zero_add]
 have hc:(Value.int .i64 z).cells=#[.int .i64 z]:=rfl
 cases hie:P.info? t with
 |none=>rw[hie] at hz;cases hz
 |some j=>
  rw[hie] at hz
  have hz':j.size=1:=by simpa using hz
  obtain⟨u,hu⟩:∃u,l[o]?=some u:=⟨l[o]'Om,List.getElem?_eq_getElem Om⟩
  have hcell:w.cell? ⟨b,o,none⟩=some u:=(hB.cell o).trans hu
  have hfz:=hB.frozen o
  have hst:(store ⟨b,o,none⟩ (.int .i64 z)).run P w=.ok () (w.setCell ⟨b,o,none⟩ (.int .i64 z)):=by simp[store,Sem.run,hcell,hfz]
  have hadd:(⟨b,o,none⟩:Addr).add 0=⟨b,o,none⟩:=rfl
  have hrun:(execOp a.eval ⟨none,.store t x y,ty,ps,af,gd⟩).run P w=.ok .skip (w.setCell ⟨b,o,none⟩ (.int .i64 z)):=by
   simp[execOp,hF.ev hx',hF.ev hy,Instr.storeAt,Instr.sureAddr,storeVar,hc,sizeOf,typeInfo,hie,hz',storeCells,hadd,hst]
  unfold Oper.wp
  rw[hrun]
  refine k _ (hk _ _ (Only.set w b o _) (hB.set o _) Si fun j ⟨x,hx⟩=>?_)
  rw[List.getElem?_set]
  by_cases hoj:o=j
  ·subst hoj;rw[if_pos rfl,if_pos Om];exact⟨z,rfl⟩
  ·rw[if_neg hoj];exact⟨x,hx⟩
theorem e_storeSoftN{dst:Option Tmp}(hdst:dst=none)(hF:Fr ds N env a)(hW:Wd w0 X es w){A:Option Addr}{o m:Nat}{cs:Array Value}{rs:List (Option Addr×Nat)}(hx:ev env x=some (.pointer (some ((adr A).add o))))(hy:ev env y=some (.agg cs))(i:Nat)(hi:es[i]?=some (.soft rs))
  (hm:(A,m)∈rs) (hs:0<cs.size) (ho:o+cs.size≤m) (hint:∀v∈cs.toList,∃x,v=.int .i64 x) (h1:cs.all (·.oneCell')=true) (hz:(P.info? t).map (·.size)=some cs.size)
  (k:∀w,Wd w0 X (es.set i (.soft rs)) w→K a w):(⟨dst,.store t x y,ty,ps,af,gd⟩:Oper).wp P a w K Q:=by
 subst hdst
 obtain⟨b,rfl⟩:=hW.soft_addr i hi hm Om
 obtain⟨T,l,hB,hl,hk⟩:=hW.soft_blk i hi hm Om
 have hx':ev env x=some (.pointer (some ⟨b,o,none⟩)):=by rw[hx];show some (Value.pointer (some ((⟨b,0,none⟩:Addr).add o)))=_;rw[add_own,Nat.zero_add]
 have hst:=setCells_blk cs.toList w l o hB
 have hsp:∀(vs l:List Value) (o:Nat),o+vs.length≤l.length→(∀v∈vs,∃x,v=Value.int .i64 x)→(splice l o vs).length=l.length∧∀j:Nat,(∃x:Int,l[j]?=some (Value.int .i64 x))→∃x,(splice l o vs)[j]?=some (Value.int .i64 x):=by
  intro vs
  induction vs with
  |nil=>intro l o _ _;exact⟨rfl,fun _ h=>h⟩
  |cons v r ih=>
   intro l o hlen hv
   rw[List.length_cons] at hlen
   obtain⟨z,rfl⟩:=hv v (List.mem_cons_self ..)
   obtain⟨h1,h2⟩:=ih (l.set o (.int .i64 z)) (o+1) (by simp;omega) fun v hv'=>hv v (List.mem_cons_of_mem _ hv')
   refine⟨by rw[splice,h1];simp,fun j hj=>?_⟩
   rw[splice]
   refine h2 j ?_
   rw[List.getElem?_set]
   by_cases hoj:o=j
   ·subst hoj;rw[if_pos rfl,if_pos Om];exact⟨z,rfl⟩
   ·rw[if_neg hoj];exact hj
 obtain⟨e1,e2⟩:=hsp cs.toList l o (by rw[Array.length_toList];omega) hint
 exact wp_store_mid t x y rfl b o cs (hF.ev hx') (hF.ev hy) (hB.there Om) hz h1 (k _ (hk _ _ hst.2 hst.1 e1 e2))
theorem e_storeRow{dst:Option Tmp}(hdst:dst=none)(hF:Fr ds N env a)(hW:Wd w0 X es w){A:Option Addr}{j n n' c size:Nat}{T:TypeId}{cs:Array Value}{xs:List Value}(hx:ev env x=some (.pointer (some ((adr A).add (j*size+0)))))(hy:ev env y=some (.agg cs))(i:Nat)(hi:es[i]?=some (.row T size (.slice A n' c) n xs))
  (xs':List Value) (hj:j<n) (hs:cs.size=size) (h1:cs.all (·.oneCell')=true) (hz:(P.info? t).map (·.size)=some cs.size) (hxs:xs.take (j*size)++cs.toList++xs.drop (j*size+size)=xs')
  (k:∀w,Wd w0 X (es.set i (.row T size (.slice A n' c) n xs')) w→K a w):(⟨dst,.store t x y,ty,ps,af,gd⟩:Oper).wp P a w K Q:=by
 subst hdst hs
 have hrow:=hW.row i hi
 have hlen:=hrow.1
 have hle:(j+1)*cs.size≤n*cs.size:=Nat.mul_le_mul_right _ hj
 rw[Nat.succ_mul] at hle
 rcases hrow.2 with⟨_,h0⟩|⟨g,cap,cur,hv,_,hg,h2,h3,h4,h5⟩
 ·omega
 ·simp only[Value.slice.injEq] at hv
  obtain⟨rfl,rfl,rfl⟩:=hv
  have hB:Blk w g T cur.toList:=by simpa[Blk] using hg
  have hst:=setCells_blk cs.toList w cur.toList (j*cs.size) hB
  have hx':ev env x=some (.pointer (some ⟨g,j*cs.size,none⟩)):=by rw[hx];show some (Value.pointer (some ((⟨g,0,none⟩:Addr).add (j*cs.size+0))))=_;rw[add_own,Nat.zero_add,Nat.add_zero]
  have hnc:n'*cs.size≤c*cs.size:=Nat.mul_le_mul_right _ h2
  have hcl:cur.toList.length=c*cs.size:=by simpa using h4
  refine wp_store_mid t x y rfl g (j*cs.size) cs (hF.ev hx') (hF.ev hy) (hB.there Om) hz h1 (k _ (hW.upd i hi fun F hF=>?_))
  have hFg:F g:=hF.2 g rfl
  refine⟨(Chg.of_only hst.2).mono fun k _ hk=>hk▸hFg,(· =g),⟨⟨?_,.inr ⟨g,c,(splice cur.toList (j*cs.size) cs.toList).toArray,rfl,Nat.zero_le _,hst.1,h2,h3,?_,?_⟩⟩,fun k hk=>by simp[Value.ownBlock] at hk;exact hk.symm⟩,fun k hk=>⟨by subst hk;exact hst.1.lt,.inl (hk▸hFg)⟩⟩
  ·rw[←hxs,←hlen]
   simp only[List.length_append,List.length_take,List.length_drop,Array.length_toList]
   omega
  ·simp[splice_len,hcl]
  ·rw[List.toList_toArray,splice_eq _ _ _ (by rw[Array.length_toList,hcl];omega),←hxs,←h5]
   have e1:(cur.toList.take (j*cs.size)).length=j*cs.size:=by rw[List.length_take];omega
   rw[List.take_append,List.take_append,e1,List.take_take,List.take_take,List.drop_take,Nat.min_eq_right Om,Nat.min_eq_left Om,List.take_of_length_le (l:=cs.toList) (by rw[Array.length_toList];omega),Array.length_toList,Nat.sub_sub,List.append_assoc]
theorem y_neb(hF:Fr ds N env a){dst:Option Tmp}{t':TypeId}{b c:Bool}(hx:ev env x=some (.bool b))(hy:ev env y=some (.bool c))(hu:P.underlying t=some .bool):Yv P w0 X es a ⟨dst,.binOp .neq t x y t',ty,ps,af,gd⟩ (.bool (!(b==c))):=
 y_bin hF hx hy fun w=>by
  have h:∀d:Nat,(Op.equalIn (d+1) t (.bool b) (.bool c)).run P w=.ok (b==c) w:=fun d=>by simp[Op.equalIn,run_underlying hu]
  have h2:(binOp .neq t (.bool b) (.bool c)).run P w=.ok (.bool (!(b==c))) w:=by
   simp only[binOp]
   simp[Op.equal,Op.maxDepth,h 9999]
  simp[eqGuard,h2]
end
theorem soft_mem{α:Type}{f:α→Option Addr×Nat}{l:List α}{d:α}{k:Nat}(h:k<l.length):f (l.getD k d)∈l.map f:=List.mem_map_of_mem (by rw[List.getD,List.getElem?_eq_getElem h];exact List.getElem_mem h)
theorem row_set{α:Type}{enc:α→List Value}{size j:Nat}(hs:∀q,(enc q).length=size){L:List α}{q:α}{cs:List Value}(hj:j<L.length)(hc:cs=enc q):(L.flatMap enc).take (j*size)++cs++(L.flatMap enc).drop (j*size+size)=(L.set j q).flatMap enc:=by
 rw[flatMap_set hs _ _ _ hj,hc]
end Go.Proofs.YtndcjmopebcdgaaGreat
