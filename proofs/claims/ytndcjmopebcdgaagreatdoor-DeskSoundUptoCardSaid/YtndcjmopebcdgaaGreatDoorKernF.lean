/- A step of the kernel on a world of one's own. -/
import Derived.Test.YtndcjmopebcdgaaGreatDoorSkH
set_option linter.unusedSimpArgs false
set_option linter.unusedVariables false
namespace Go.Proofs.YtndcjmopebcdgaaGreatDoor
open Go.ChangeShapes Go.WideShapes Go.ChangeAt Go.RowKit
set_option maxRecDepth 100000
theorem putZ{k x:Int}{l m:List Int}{b:Bool}{v:Value}{w:World}(hv:Ints w v l)(h:putOf k l x=(m,b,0)):
  Calls Tryz.prog 104 #[.int .i64 k,.agg #[v],.int .i64 x] w fun e w'=>∃A n,e=.returned (.tuple #[.agg #[.slice A m.length n],.bool b,.int .i64 0])∧OwnRes w w' (fun u=>OwnInts u 0 (.slice A m.length n) m)∧Below w.heap.size w w':=by
 have:=put_any k x v l w hv
 rw[h] at this
 refine this.mono fun e w' ⟨v',he,hown,hb⟩=>?_
 have hr:=OwnRes.ownB hown
 obtain⟨A,n,rfl⟩:=hr.now.form rfl
 exact⟨A,n,he,hr,hb⟩
theorem getZ{k x:Int}{l m:List Int}{b:Bool}{v:Value}{w:World}(hv:Ints w v l)(h:getOf k l=(m,x,b,0)):
  Calls Tryz.prog 105 #[.int .i64 k,.agg #[v]] w fun e w'=>∃A n,e=.returned (.tuple #[.agg #[.slice A m.length n],.int .i64 x,.bool b,.int .i64 0])∧OwnRes w w' (fun u=>OwnInts u 0 (.slice A m.length n) m)∧Below w.heap.size w w':=by
 have:=get_any k v l w hv
 rw[h] at this
 refine this.mono fun e w' ⟨v',he,hown,hb⟩=>?_
 have hr:=OwnRes.ownB hown
 obtain⟨A,n,rfl⟩:=hr.now.form rfl
 exact⟨A,n,he,hr,hb⟩
theorem set_map{α β:Type}(f:α→β)(l:List α)(p:Nat)(q:α):(l.set p q).map f=(l.map f).set p (f q):=by simp
theorem rest_cell{cells:List CD}{lines:List LD}{p:Nat}{q:CD}{u:World}(h:(∀q,q∈cells→q.Own u)∧∀q,q∈lines→q.Own u)(hq:q.Own u):(∀z,z∈cells.set p q→z.Own u)∧∀z,z∈lines→z.Own u:=
 ⟨fun z hz=>(List.mem_or_eq_of_mem_set hz).elim (h.1 z) fun e=>e▸hq,h.2⟩
theorem rest_line{cells:List CD}{lines:List LD}{p:Nat}{q:LD}{u:World}(h:(∀q,q∈cells→q.Own u)∧∀q,q∈lines→q.Own u)(hq:q.Own u):(∀z,z∈cells→z.Own u)∧∀z,z∈lines.set p q→z.Own u:=
 ⟨h.1,fun z hz=>(List.mem_or_eq_of_mem_set hz).elim (h.2 z) fun e=>e▸hq⟩
theorem step_endZ{w w':World}{X:Nat→Prop}{b bc cc p n:Nat}{t:Int}{cells:List CD}{lines:List LD}{la:Option Addr}{lcap:Nat}{lc l1 lb:List Value}{T:TypeId}{q:CD}
  (hW:Wd w X [.res (WD.Rest ⟨t,cells,some ⟨bc,0,none⟩,cc,lines,la,lcap⟩),.res q.Own,.blk b T lb,.blk bc 75 (splice lc (p*16) l1),.row 195 1 (.slice la lines.length lcap) lines.length (lines.flatMap encL)] w')
  (hl1:l1=encC q) (hn:n=cells.length) (hp:p<n) (htk:lc.take (n*16)=cells.flatMap encC) (hll:lc.length=cc*16) (hnc:n≤cc) (hcm:cc≤maxLen) (hb:lb=[.int .i64 t,.slice (some ⟨bc,0,none⟩) cells.length cc,.slice la lines.length lcap]):
  ∃y':WD,y'=⟨t,cells.set p q,some ⟨bc,0,none⟩,cc,lines,la,lcap⟩∧Wd w X [.blk b T [.int .i64 y'.tick,.slice y'.ca y'.cells.length y'.cc,.slice y'.la y'.lines.length y'.lc],y'.rowC,y'.rowL,.res y'.Rest] w':=by
 subst hl1 hb hn
 have h1:=(Wd.res2 hW (R:=WD.Rest ⟨t,cells.set p q,some ⟨bc,0,none⟩,cc,lines,la,lcap⟩) fun u h1 h2=>rest_cell h1 h2).blk_rowC 2 rfl 16 cells.length cc (by rw[splice_len,hll]) hnc hcm (flat_splice encC_len htk rfl hp Om q)
 have h2:=((h1.front 3 rfl rfl).front 3 rfl rfl).front 3 rfl rfl
 refine⟨_,rfl,?_⟩
 simp only[WD.rowC,WD.rowL,List.length_set]
 exact h2
theorem step_endL{w w':World}{X:Nat→Prop}{b bc bl cc p k n m:Nat}{t:Int}{cells:List CD}{lines:List LD}{lcap:Nat}{lc l1 ll l2 lb:List Value}{T:TypeId}{q:CD}{z:LD}
  (hW:Wd w X [.res (WD.Rest ⟨t,cells,some ⟨bc,0,none⟩,cc,lines,some ⟨bl,0,none⟩,lcap⟩),.res q.Own,.res z.Own,.blk b T lb,.blk bc 75 (splice lc (p*16) l1),.blk bl 195 (splice ll (k*1) l2)] w')
  (hl1:l1=encC q) (hl2:l2=encL z) (hn:n=cells.length) (hm:m=lines.length) (hp:p<n) (hk:k<m) (htk:lc.take (n*16)=cells.flatMap encC) (hll:lc.length=cc*16) (hnc:n≤cc) (hcm:cc≤maxLen)
  (htk2:ll.take (m*1)=lines.flatMap encL) (hll2:ll.length=lcap*1) (hnc2:m≤lcap) (hcm2:lcap≤maxLen) (hb:lb=[.int .i64 t,.slice (some ⟨bc,0,none⟩) cells.length cc,.slice (some ⟨bl,0,none⟩) lines.length lcap]):
  ∃y':WD,y'=⟨t,cells.set p q,some ⟨bc,0,none⟩,cc,lines.set k z,some ⟨bl,0,none⟩,lcap⟩∧Wd w X [.blk b T [.int .i64 y'.tick,.slice y'.ca y'.cells.length y'.cc,.slice y'.la y'.lines.length y'.lc],y'.rowC,y'.rowL,.res y'.Rest] w':=by
 subst hl1 hl2 hb hn hm
 have h1:=((Wd.res3 hW (R:=WD.Rest ⟨t,cells.set p q,some ⟨bc,0,none⟩,cc,lines.set k z,some ⟨bl,0,none⟩,lcap⟩) fun u h1 h2 h3=>rest_line (rest_cell h1 h2) h3).blk_rowC 2 rfl 16 cells.length cc (by rw[splice_len,hll]) hnc hcm (flat_splice encC_len htk rfl hp Om q)).blk_rowC 3 rfl 1 lines.length lcap (by rw[splice_len,hll2]) hnc2 hcm2 (flat_splice encL_len htk2 rfl hk Om z)
 have h2:=((h1.front 3 rfl rfl).front 3 rfl rfl).front 3 rfl rfl
 refine⟨_,rfl,?_⟩
 simp only[WD.rowC,WD.rowL,List.length_set]
 exact h2
theorem getD_mapP{x:SysD}(p:Nat):x.sys.parts.getD p Pt0=(x.parts.getD p P0).1:=getD_map Prod.fst p P0
theorem getD_mapC{y:WD}(p:Nat):y.wrl.cells.getD p Cel.zero=(y.cells.getD p CD0).c:=getD_map CD.c p CD0
theorem getD_mapL{y:WD}(p:Nat):y.wrl.lines.getD p []=(y.lines.getD p LD0).vals:=getD_map LD.vals p LD0
set_option maxHeartbeats 8000000 in
theorem kernStepIn_any{x:SysD}{y:WD}{w:World}{X:Nat→Prop}{b:Nat}(hx:∀u,Chg X w u→x.At u)(hW:Wd w X [.blk b 61 [.int .i64 y.tick,.slice y.ca y.cells.length y.cc,.slice y.la y.lines.length y.lc],y.rowC,y.rowL,.res y.Rest] w)(hk:chkSys x.sys=0)(hr:RightD x y)(ht:y.tick<300):
  Calls Tryz.prog 63 #[x.val,.pointer (some ⟨b,0,none⟩)] w fun e w'=>∃y':WD,e=.returned (.tuple #[])∧y'.wrl=stepW x.sys y.wrl∧
   Wd w X [.blk b 61 [.int .i64 y'.tick,.slice y'.ca y'.cells.length y'.cc,.slice y'.la y'.lines.length y'.lc],y'.rowC,y'.rowL,.res y'.Rest] w':=by
 have hR:=rightD_iff.2 hr
 obtain⟨p,hp,hpl⟩:=who_part hk hR.t0
 have herr:=right_err hk hR hpl
 have hwant:=stepOf_want (c:=y.wrl.cells.getD p Cel.zero) hk hpl
 have hstW:stepW x.sys y.wrl=stepP x.sys p y.wrl:=by unfold stepW;rw[hp,Int.toNat_natCast]
 have hwf1:=stepOf_wf (p:=x.sys.parts.getD p Pt0) (c:=y.wrl.cells.getD p Cel.zero) (by rw[getD_mapC];exact(y.cells.getD p CD0).wf)
 have hgoes:=(stepOf_goes herr).1
 have hpl':p<x.parts.length:=by simpa[SysD.sys] using hpl
 have hpc:p<y.cells.length:=by have:=hr.cl;omega
 have h0t:=hr.t0
 have hxp:RFK w X x.pa x.parts.length 2 (fun k=>encP (x.parts.getD k P0)):=fun u hc=>(hx u hc).partsR
 have hxc:RFK w X x.ha x.chans.length 3 (fun k=>Chn.cells (x.chans.getD k C0)):=fun u hc=>(hx u hc).chansR
 have hwho:∀u,Chg X w u→Calls Tryz.prog 102 #[x.val,.int .i64 y.tick] u fun e w'=>e=.returned (.tuple #[.int .i64 (p:Int),.int .i64 0])∧Below u.heap.size u w':=fun u hc=>by
  have:=who_val (hx u hc) hk h0t
  rwa [show whoOf x.slots y.tick=p from hp] at this
 obtain⟨⟨c1,k1⟩,hst⟩:∃q,stepOf (x.sys.parts.getD p Pt0) (y.wrl.cells.getD p Cel.zero)=q:=⟨_,rfl⟩
 have hstP:=@stepP_0 x.sys p y.wrl c1 k1 hst
 have hstQ:=fun q=>@stepP_1 x.sys p y.wrl c1 k1 q hst
 rw[←hstW] at hstP
 simp only[←hstW] at hstQ
 rw[hst] at hwant hwf1 hgoes
 dsimp only at hwant hwf1
 rw[getD_mapP,getD_mapC] at hst herr
 have hfine:=hgoes.fine
 dsimp only at hfine
 clear hgoes hstW hp
 obtain⟨bc,cc,lc,hcv,hnc,hcm,hll,htk,hW'⟩:=hW.row_whole 1 rfl Om
 clear hW
 have hW:=hW'
 clear hW'
 have hlr:=hr.line
 have hlen:=hr.ll
 clear hR hr
 obtain⟨tk,cells,ca,cc0,lines,la,lcap⟩:=y
 dsimp only at*
 simp only[Value.slice.injEq] at hcv
 obtain⟨rfl,-,rfl⟩:=hcv
 have hqm:=mem_getD CD0 hpc
 obtain⟨q,hq⟩:∃q,cells.getD p CD0=q:=⟨_,rfl⟩
 rw[hq] at hqm hst herr
 obtain⟨⟨at_,regs,mem,rd,out,en⟩,hwf,qa,qk⟩:=q
 obtain⟨an,rn,mn,dn,on,en1⟩:=c1
 have hstep:∀u,Chg X w u→CD.At ⟨⟨at_,regs,mem,rd,out,en⟩,hwf,qa,qk⟩ u→Calls Tryz.prog 103 #[.agg (encP (x.parts.getD p P0)).toArray,celV ⟨at_,regs,mem,rd,out,en⟩ (.slice qa out.length qk)] u fun e w'=>∃A n,e=.returned (.tuple #[celV ⟨an,rn,mn,dn,on,en1⟩ (.slice A on.length n),wntV k1,.int .i64 0])∧OwnRes u w' (fun u=>OwnInts u 0 (.slice A on.length n) on)∧Below u.heap.size u w':=fun u hc ho=>
  stepO ((hx u hc).part hpl').code ((hx u hc).part hpl').inp ho hwf herr hst
 have hrep:=fun(kind val:Int) (is:Bool) (h0:replyErr ⟨an,rn,mn,dn,on,en1⟩ k1 kind=0) (A:Option Addr) (n:Nat) (c2:Cel) (h2:replyOf ⟨an,rn,mn,dn,on,en1⟩ k1 kind val is=c2) (u:World) (ho:OwnInts u 0 (.slice A on.length n) on)=>replyO (w:=u) (ov:=.slice A on.length n) (c:=⟨an,rn,mn,dn,on,en1⟩) ho.ints hwf1 h0 h2
 clear herr hst
 obtain⟨r0,r1,r2,r3,hregs⟩:=len_four hwf.1
 obtain⟨m0,m1,m2,m3,m4,m5,m6,m7,hmem⟩:=len_eight hwf.2
 obtain⟨p0,p1,p2,p3,hregs1⟩:=len_four hwf1.1
 obtain⟨q0,q1,q2,q3,q4,q5,q6,q7,hmem1⟩:=len_eight hwf1.2
 dsimp only at hregs hmem hregs1 hmem1
 subst hregs hmem hregs1 hmem1
 rw[x.val_eq] at*
 rcases hwant with rfl|hw
 ·simp only[celV_eq] at hstep
  refine enter Tryz.func63 rfl Tryz.ntmps63 rfl fun a hF=>c_sr<|pe<|e_box hF hW rfl rfl rfl rfl fun b1 a wc hF hW=>l_nil<|t_n<|c_sd mixed_ok hW (hW) ?_
  clear hW;intro wc hW hS
  refine dv 0 rfl hF hS (y_loadAll hF rfl 0 rfl Tryz.underlying39 rfl sz_39) fun a hF=>dq 3 [1,2,3] hF hS rfl fun a hF=>dv 4 rfl hF hS (y_loadOwn hF rfl 1 rfl rfl Tryz.underlying3 rfl) fun a hF=>d_1 5 Kr<|d_op rfl rfl<|e_callK hF hW rfl rfl en_102 Rl (hwho _ hW.chg) fun a w1 hW hF=>ai hW fun hS=>dq 5 [6,7,8,9,10] hF hS rfl fun a hF=>?_;clear hS;refine d_nil Kr<|t_n ?_;refine c_cut (G:=Nat×Nat×Option Addr×Nat) (fun⟨b6,b7,A1,n1⟩=>[(6,.pointer (some ⟨b6,0,none⟩)),(7,.pointer (some ⟨b7,0,none⟩))]) (fun⟨b6,b7,A1,n1⟩=>[.res (fun u=>OwnInts u 0 (.slice A1 on.length n1) on),.blk b6 75 [.int .i64 an,.int .i64 p0,.int .i64 p1,.int .i64 p2,.int .i64 p3,.int .i64 q0,.int .i64 q1,.int .i64 q2,.int .i64 q3,.int .i64 q4,.int .i64 q5,.int .i64 q6,.int .i64 q7,.int .i64 dn,.slice A1 on.length n1,.int .i64 en1],.blk b7 191 [.int .i64 0,.int .i64 0,.int .i64 0,.int .i64 0,.int .i64 0]]) (fun⟨b6,b7,A1,n1⟩=>True) (hF.ks [0,1,2,4] rfl) hW ?_ ?_;refine c_d mixed_ok hW (hW) ?_
  clear hW;intro wc hW hS
  refine dq 1 [0] hF hS rfl fun a hF=>dv 1 rfl hF hS (y_loadOwn hF rfl 0 rfl rfl Tryz.underlying35 rfl) fun a hF=>dq 1 [2] hF hS rfl fun a hF=>dv 3 rfl hF hS (y_indexS hF rfl rfl Od Tryz.underlying35 sz_43 (fun w h=>(hxp).wd h)) fun a hF=>dv 4 rfl hF hS (y_loadRowW hF rfl (fun w h=>(hxp).wd h) Od Tryz.underlying43 rfl sz_43) fun a hF=>dq 3 [5,6,7] hF hS rfl fun a hF=>dv 8 rfl hF hS (y_loadOwn hF rfl 1 rfl rfl Tryz.underlying58 rfl) fun a hF=>dq 1 [9] hF hS rfl fun a hF=>dv 10 rfl hF hS (y_indexOwnS hF rfl rfl Od Tryz.underlying58 sz_75) fun a hF=>dv 11 rfl hF hS (y_loadN hF rfl 2 rfl Tryz.underlying75 rfl sz_75 (by exact Nat.ble_eq_true_of_le Om)) fun a hF=>?_;replace hF:=Fr.cast (v':=.agg #[.int .i64 at_,.int .i64 r0,.int .i64 r1,.int .i64 r2,.int .i64 r3,.int .i64 m0,.int .i64 m1,.int .i64 m2,.int .i64 m3,.int .i64 m4,.int .i64 m5,.int .i64 m6,.int .i64 m7,.int .i64 rd,.slice qa out.length qk,.int .i64 en]) (by rw[flat_elem encC_len CD0 htk rfl hpc,hq];rfl) hF;refine d_3 12 17 18 Kr ?_ ?_ ?_;refine d_op rfl rfl (e_callA hF rfl rfl en_103 Rl (hstep _ hW.chg (OwnInts.ints ((hW.res 4 rfl).1 _ hqm))) ?_);rintro e w1 ⟨A1,n1,rfl,hr1,hb⟩;replace hW:=hW.gotR hb hr1;refine⟨_,rfl,fun a hF=>?_⟩;refine ai (hW.del 0 rfl) fun hS=>dq 4 [13,14,15,16] hF hS rfl fun a hF=>?_;refine d_2 17 18 Kr ?_ ?_;refine d_op rfl rfl<|e_alloc hF hW ze_75 rfl rfl rfl fun b2 a wc hF hW=>ai (hW.ds [0,0] rfl) fun hS=>d_1 18 Kr<|d_op rfl rfl<|e_alloc hF hW ze_191 rfl rfl rfl fun b3 a wc hF hW=>ai (hW.ds [0,0,0] rfl) fun hS=>d_1 19 Kr<|d_op rfl rfl<|e_storeAll rfl hF hW rfl rfl 1 rfl rfl rfl Kr sz_75 fun wc hW=>ai (hW.ds [0,0,0] rfl) fun hS=>d_1 20 Kr<|d_op rfl rfl<|e_storeAll rfl hF hW rfl rfl 0 rfl rfl rfl Kr sz_191 fun wc hW=>ai (hW.ds [0,0,0] rfl) fun hS=>dq 1 [21] hF hS rfl fun a hF=>?_;clear hS;refine d_nil Kr ?_;replace hF:=hF.ks [0,1,2,4,6,7] rfl;replace hW:=hW.fs [7,7,7,7,7,5,6,7] rfl;refine t_n ?_;refine⟨(b2,b3,A1,n1),?_,?_,?_⟩
  exact hF.a2 rfl rfl rfl
  exact hW
  trivial
  refine d_op rfl rfl<|e_alloc hF hW ze_191 rfl rfl rfl fun b4 a wc hF hW=>ai (hW.ds [0,0] rfl) fun hS=>d_1 17 Kr<|d_op rfl rfl<|e_alloc hF hW ze_75 rfl rfl rfl fun b5 a wc hF hW=>ai (hW.ds [0,0,0] rfl) fun hS=>d_1 19 Kr<|d_op rfl rfl<|e_storeAll rfl hF hW rfl rfl 0 rfl rfl rfl Kr sz_75 fun wc hW=>ai (hW.ds [0,0,0] rfl) fun hS=>d_1 20 Kr<|d_op rfl rfl<|e_storeAll rfl hF hW rfl rfl 1 rfl rfl rfl Kr sz_191 fun wc hW=>ai (hW.ds [0,0,0] rfl) fun hS=>dq 1 [21] hF hS rfl fun a hF=>?_;clear hS;refine d_nil Kr ?_;replace hF:=hF.ks [0,1,2,4,6,7] rfl;replace hW:=hW.fs [7,7,7,7,7,6,6,7] rfl;refine t_n ?_;refine⟨(b5,b4,A1,n1),?_,?_,?_⟩
  exact hF.a2 rfl rfl rfl
  exact hW
  trivial
  refine d_op rfl rfl<|e_alloc hF hW ze_75 rfl rfl rfl fun b6 a wc hF hW=>ai (hW.del 0 rfl) fun hS=>?_;refine d_2 12 18 Kr ?_ ?_;refine d_op rfl rfl (e_callA hF rfl rfl en_103 Rl (hstep _ hW.chg (OwnInts.ints ((hW.res 5 rfl).1 _ hqm))) ?_);rintro e w1 ⟨A1,n1,rfl,hr1,hb⟩;replace hW:=hW.gotR hb hr1;refine⟨_,rfl,fun a hF=>?_⟩;refine ai (hW.ds [0,0] rfl) fun hS=>dq 4 [13,14,15,16] hF hS rfl fun a hF=>d_1 18 Kr<|d_op rfl rfl<|e_alloc hF hW ze_191 rfl rfl rfl fun b7 a wc hF hW=>ai (hW.ds [0,0,0] rfl) fun hS=>d_1 19 Kr<|d_op rfl rfl<|e_storeAll rfl hF hW rfl rfl 2 rfl rfl rfl Kr sz_75 fun wc hW=>ai (hW.ds [0,0,0] rfl) fun hS=>d_1 20 Kr<|d_op rfl rfl<|e_storeAll rfl hF hW rfl rfl 0 rfl rfl rfl Kr sz_191 fun wc hW=>ai (hW.ds [0,0,0] rfl) fun hS=>dq 1 [21] hF hS rfl fun a hF=>?_;clear hS;refine d_nil Kr ?_;replace hF:=hF.ks [0,1,2,4,6,7] rfl;replace hW:=hW.fs [7,7,7,7,7,5,7,7] rfl;refine t_n ?_;refine⟨(b6,b7,A1,n1),?_,?_,?_⟩
  exact hF.a2 rfl rfl rfl
  exact hW
  trivial
  refine d_op rfl rfl<|e_alloc hF hW ze_191 rfl rfl rfl fun b8 a wc hF hW=>ai (hW.ds [0,0] rfl) fun hS=>d_1 12 Kr ?_;refine d_op rfl rfl (e_callA hF rfl rfl en_103 Rl (hstep _ hW.chg (OwnInts.ints ((hW.res 6 rfl).1 _ hqm))) ?_);rintro e w1 ⟨A1,n1,rfl,hr1,hb⟩;replace hW:=hW.gotR hb hr1;refine⟨_,rfl,fun a hF=>?_⟩;refine ai (hW.ds [0,0,0] rfl) fun hS=>dq 4 [13,14,15,16] hF hS rfl fun a hF=>d_1 19 Kr<|d_op rfl rfl<|e_storeAll rfl hF hW rfl rfl 2 rfl rfl rfl Kr sz_75 fun wc hW=>ai (hW.ds [0,0,0] rfl) fun hS=>d_1 20 Kr<|d_op rfl rfl<|e_storeAll rfl hF hW rfl rfl 1 rfl rfl rfl Kr sz_191 fun wc hW=>ai (hW.ds [0,0,0] rfl) fun hS=>dq 1 [21] hF hS rfl fun a hF=>?_;clear hS;refine d_nil Kr ?_;replace hF:=hF.ks [0,1,2,4,6,7] rfl;replace hW:=hW.fs [7,7,7,7,7,6,7,7] rfl;refine t_n ?_;refine⟨(b6,b8,A1,n1),?_,?_,?_⟩
  exact hF.a2 rfl rfl rfl
  exact hW
  trivial
  refine d_op rfl rfl<|e_alloc hF hW ze_191 rfl rfl rfl fun b9 a wc hF hW=>ai (hW.del 0 rfl) fun hS=>?_;refine d_2 12 17 Kr ?_ ?_;refine d_op rfl rfl (e_callA hF rfl rfl en_103 Rl (hstep _ hW.chg (OwnInts.ints ((hW.res 5 rfl).1 _ hqm))) ?_);rintro e w1 ⟨A1,n1,rfl,hr1,hb⟩;replace hW:=hW.gotR hb hr1;refine⟨_,rfl,fun a hF=>?_⟩;refine ai (hW.ds [0,0] rfl) fun hS=>dq 4 [13,14,15,16] hF hS rfl fun a hF=>d_1 17 Kr<|d_op rfl rfl<|e_alloc hF hW ze_75 rfl rfl rfl fun b10 a wc hF hW=>ai (hW.ds [0,0,0] rfl) fun hS=>d_1 19 Kr<|d_op rfl rfl<|e_storeAll rfl hF hW rfl rfl 0 rfl rfl rfl Kr sz_75 fun wc hW=>ai (hW.ds [0,0,0] rfl) fun hS=>d_1 20 Kr<|d_op rfl rfl<|e_storeAll rfl hF hW rfl rfl 2 rfl rfl rfl Kr sz_191 fun wc hW=>ai (hW.ds [0,0,0] rfl) fun hS=>dq 1 [21] hF hS rfl fun a hF=>?_;clear hS;refine d_nil Kr ?_;replace hF:=hF.ks [0,1,2,4,6,7] rfl;replace hW:=hW.fs [7,7,7,7,7,7,6,7] rfl;refine t_n ?_;refine⟨(b10,b9,A1,n1),?_,?_,?_⟩
  exact hF.a2 rfl rfl rfl
  exact hW
  trivial
  refine d_op rfl rfl<|e_alloc hF hW ze_75 rfl rfl rfl fun b11 a wc hF hW=>ai (hW.ds [0,0] rfl) fun hS=>d_1 12 Kr ?_;refine d_op rfl rfl (e_callA hF rfl rfl en_103 Rl (hstep _ hW.chg (OwnInts.ints ((hW.res 6 rfl).1 _ hqm))) ?_);rintro e w1 ⟨A1,n1,rfl,hr1,hb⟩;replace hW:=hW.gotR hb hr1;refine⟨_,rfl,fun a hF=>?_⟩;refine ai (hW.ds [0,0,0] rfl) fun hS=>dq 4 [13,14,15,16] hF hS rfl fun a hF=>d_1 19 Kr<|d_op rfl rfl<|e_storeAll rfl hF hW rfl rfl 1 rfl rfl rfl Kr sz_75 fun wc hW=>ai (hW.ds [0,0,0] rfl) fun hS=>d_1 20 Kr<|d_op rfl rfl<|e_storeAll rfl hF hW rfl rfl 2 rfl rfl rfl Kr sz_191 fun wc hW=>ai (hW.ds [0,0,0] rfl) fun hS=>dq 1 [21] hF hS rfl fun a hF=>?_;clear hS;refine d_nil Kr ?_;replace hF:=hF.ks [0,1,2,4,6,7] rfl;refine t_n ?_;refine⟨(b11,b9,A1,n1),?_,?_,?_⟩
  exact hF.a2 rfl rfl rfl
  exact hW
  trivial
  clear hF hW
  try clear a
  intro gq a wc hC hF hW
  obtain⟨b6,b7,A1,n1⟩:=gq
  dsimp only at hC
  clear hC;refine c_sr<|pq 3 hF rfl fun a hF=>pv hF hW (y_loadOwn hF rfl 4 rfl rfl Tryz.underlying3 rfl) fun a hF=>pv hF hW (y_add hF rfl rfl (IntWalk.i64_in _ Om)) fun a hF=>pq 2 hF rfl fun a hF=>pe<|e_store rfl hF hW rfl rfl 4 rfl rfl rfl sz_3 fun wc hW=>l_nil<|t_n<|c_s<|c_sr<|pq 1 hF rfl fun a hF=>pv hF hW (y_loadOwn hF rfl 2 rfl rfl Tryz.underlying3 rfl) fun a hF=>pq 1 hF rfl fun a hF=>?_;replace hF:=hF.ff;refine l_nil<|t_n<|c_f hF rfl<|wp_skip<|t_n<|c_d mixed_ok hW ((hW.del 5 rfl)) ?_
  clear hW;intro wc hW hS
  refine dq 3 [0,1,2] hF hS rfl fun a hF=>dv 3 rfl hF hS (y_loadOwn hF rfl 4 rfl rfl Tryz.underlying58 rfl) fun a hF=>dq 1 [4] hF hS rfl fun a hF=>dv 5 rfl hF hS (y_loadAll hF rfl 1 rfl Tryz.underlying75 rfl sz_75) fun a hF=>dv 6 rfl hF hS (y_indexOwnS hF rfl rfl Od Tryz.underlying58 sz_75) fun a hF=>d_1 7 Kr<|d_op rfl rfl<|e_storeMid rfl hF hW rfl rfl 5 rfl (by show _+16≤_;omega) Kr sz_75 fun wc hW=>ai (hW.del 5 rfl) fun hS=>?_;clear hS;refine d_nil Kr ?_;replace hF:=hF.ks [0,1,2,4,6,7,48] rfl;refine end0 Tryz.results63 hF ?_;replace hW:=hW.ds [1,1,1] rfl;replace hW:=hW.fs [3,3,3,3,4] rfl
  obtain⟨y',hy',hWy⟩:=step_endZ (q:=CD.mk _ hwf1 A1 n1) (t:=tk+1) hW rfl rfl hpc htk hll hnc hcm rfl;subst hy';exact⟨_,rfl,by(rw[hstP rfl];simp only[WD.wrl,set_map]),hWy⟩
 ·obtain⟨kk,ch,rg,fl,vl⟩:=k1
  have hc0:=hw.c0
  have hc1:=hw.c1
  have hkk:=hw.kind
  dsimp only at hc0 hc1 hkk
  obtain⟨ch,rfl⟩:=Int.eq_ofNat_of_zero_le hc0
  have hch:ch<x.chans.length:=by simpa[SysD.sys] using hc1
  have hchl:ch<lines.length:=by omega
  obtain⟨bl,lcap2,ll,hlv,hnl,hlm,hlll,hltk,hW'⟩:=hW.row_whole 2 rfl (show 0<lines.length by omega)
  clear hW
  have hW:=hW'
  clear hW'
  simp only[Value.slice.injEq] at hlv
  obtain⟨rfl,-,rfl⟩:=hlv
  dsimp only at hnl hlll hltk
  have hkd:(x.chans.getD ch C0).kind=1∨(x.chans.getD ch C0).kind=2:=kind_ok hk (k:=ch) (by simpa[SysD.sys] using hch)
  have hl0:=hlr ch hchl
  have hlm2:=mem_getD LD0 hchl
  obtain⟨z,hlz⟩:∃q,lines.getD ch LD0=q:=⟨_,rfl⟩
  rw[hlz] at hlm2 hl0
  obtain⟨lv,lqa,lqk⟩:=z
  dsimp only at hl0
  have hr0:=replyErr_ok hfine hw hkd
  simp only[Int.toNat_natCast,SysD.sys,getD_mapL,hlz] at hstQ
  rcases hkk with⟨rfl,rfl⟩|⟨rfl,rfl⟩
  ·obtain⟨l2,pb,hput,-⟩:=putOf_ok (x:=vl) hl0
   obtain⟨kw,hkw⟩:∃k:Wnt,⟨12,ch,rg,0,vl⟩=k:=⟨_,rfl⟩
   obtain⟨vw,hvw⟩:∃v:Int,0=v:=⟨_,rfl⟩
   have hwf2:=replyOf_wf (k:=kw) (kind:=(x.chans.getD ch C0).kind) (val:=vw) (is:=pb) hwf1
   obtain⟨c2,hc2⟩:∃c,replyOf ⟨an,[p0,p1,p2,p3],[q0,q1,q2,q3,q4,q5,q6,q7],dn,on,en1⟩ kw (x.chans.getD ch C0).kind vw pb=c:=⟨_,rfl⟩
   have hrepc:=fun A n=>hrep (x.chans.getD ch C0).kind vw pb hr0 A n c2 (hkw▸hc2)
   rw[hc2] at hwf2
   obtain⟨ae,rm,mm,de,oe,ee⟩:=c2
   obtain⟨u0,u1,u2,u3,hregs⟩:=len_four hwf2.1
   obtain⟨v0,v1,v2,v3,v4,v5,v6,v7,hmem⟩:=len_eight hwf2.2
   dsimp only at hregs hmem
   subst hregs hmem
   simp only[celV_eq] at hstep hrepc
   subst hkw hvw
   have hputc:=fun u (h:LD.Own ⟨lv,lqa,lqk⟩ u)=>putZ (OwnInts.ints h) hput
   have hq2:=hstQ (⟨ae,[u0,u1,u2,u3],[v0,v1,v2,v3,v4,v5,v6,v7],de,oe,ee⟩,l2) Dc (by unfold chanOf;rw[if_pos rfl,hput,hc2])
   refine enter Tryz.func63 rfl Tryz.ntmps63 rfl fun a hF=>c_sr<|pe<|e_box hF hW rfl rfl rfl rfl fun b1 a wc hF hW=>l_nil<|t_n<|c_sd mixed_ok hW (hW) ?_
   clear hW;intro wc hW hS
   refine dv 0 rfl hF hS (y_loadAll hF rfl 0 rfl Tryz.underlying39 rfl sz_39) fun a hF=>dq 3 [1,2,3] hF hS rfl fun a hF=>dv 4 rfl hF hS (y_loadOwn hF rfl 1 rfl rfl Tryz.underlying3 rfl) fun a hF=>d_1 5 Kr<|d_op rfl rfl<|e_callK hF hW rfl rfl en_102 Rl (hwho _ hW.chg) fun a w1 hW hF=>ai hW fun hS=>dq 5 [6,7,8,9,10] hF hS rfl fun a hF=>?_;clear hS;refine d_nil Kr<|t_n ?_;refine c_cut (G:=Nat×Nat×Option Addr×Nat) (fun⟨b6,b7,A1,n1⟩=>[(6,.pointer (some ⟨b6,0,none⟩)),(7,.pointer (some ⟨b7,0,none⟩))]) (fun⟨b6,b7,A1,n1⟩=>[.res (fun u=>OwnInts u 0 (.slice A1 on.length n1) on),.blk b6 75 [.int .i64 an,.int .i64 p0,.int .i64 p1,.int .i64 p2,.int .i64 p3,.int .i64 q0,.int .i64 q1,.int .i64 q2,.int .i64 q3,.int .i64 q4,.int .i64 q5,.int .i64 q6,.int .i64 q7,.int .i64 dn,.slice A1 on.length n1,.int .i64 en1],.blk b7 191 [.int .i64 12,.int .i64 (ch:Int),.int .i64 rg,.int .i64 0,.int .i64 vl]]) (fun⟨b6,b7,A1,n1⟩=>True) (hF.ks [0,1,2,4] rfl) hW ?_ ?_;refine c_d mixed_ok hW (hW) ?_
   clear hW;intro wc hW hS
   refine dq 1 [0] hF hS rfl fun a hF=>dv 1 rfl hF hS (y_loadOwn hF rfl 0 rfl rfl Tryz.underlying35 rfl) fun a hF=>dq 1 [2] hF hS rfl fun a hF=>dv 3 rfl hF hS (y_indexS hF rfl rfl Od Tryz.underlying35 sz_43 (fun w h=>(hxp).wd h)) fun a hF=>dv 4 rfl hF hS (y_loadRowW hF rfl (fun w h=>(hxp).wd h) Od Tryz.underlying43 rfl sz_43) fun a hF=>dq 3 [5,6,7] hF hS rfl fun a hF=>dv 8 rfl hF hS (y_loadOwn hF rfl 1 rfl rfl Tryz.underlying58 rfl) fun a hF=>dq 1 [9] hF hS rfl fun a hF=>dv 10 rfl hF hS (y_indexOwnS hF rfl rfl Od Tryz.underlying58 sz_75) fun a hF=>dv 11 rfl hF hS (y_loadN hF rfl 2 rfl Tryz.underlying75 rfl sz_75 (by exact Nat.ble_eq_true_of_le Om)) fun a hF=>?_;replace hF:=Fr.cast (v':=.agg #[.int .i64 at_,.int .i64 r0,.int .i64 r1,.int .i64 r2,.int .i64 r3,.int .i64 m0,.int .i64 m1,.int .i64 m2,.int .i64 m3,.int .i64 m4,.int .i64 m5,.int .i64 m6,.int .i64 m7,.int .i64 rd,.slice qa out.length qk,.int .i64 en]) (by rw[flat_elem encC_len CD0 htk rfl hpc,hq];rfl) hF;refine d_3 12 17 18 Kr ?_ ?_ ?_;refine d_op rfl rfl (e_callA hF rfl rfl en_103 Rl (hstep _ hW.chg (OwnInts.ints ((hW.res 4 rfl).1 _ hqm))) ?_);rintro e w1 ⟨A1,n1,rfl,hr1,hb⟩;replace hW:=hW.gotR hb hr1;refine⟨_,rfl,fun a hF=>?_⟩;refine ai (hW.del 0 rfl) fun hS=>dq 4 [13,14,15,16] hF hS rfl fun a hF=>?_;refine d_2 17 18 Kr ?_ ?_;refine d_op rfl rfl<|e_alloc hF hW ze_75 rfl rfl rfl fun b2 a wc hF hW=>ai (hW.ds [0,0] rfl) fun hS=>d_1 18 Kr<|d_op rfl rfl<|e_alloc hF hW ze_191 rfl rfl rfl fun b3 a wc hF hW=>ai (hW.ds [0,0,0] rfl) fun hS=>d_1 19 Kr<|d_op rfl rfl<|e_storeAll rfl hF hW rfl rfl 1 rfl rfl rfl Kr sz_75 fun wc hW=>ai (hW.ds [0,0,0] rfl) fun hS=>d_1 20 Kr<|d_op rfl rfl<|e_storeAll rfl hF hW rfl rfl 0 rfl rfl rfl Kr sz_191 fun wc hW=>ai (hW.ds [0,0,0] rfl) fun hS=>dq 1 [21] hF hS rfl fun a hF=>?_;clear hS;refine d_nil Kr ?_;replace hF:=hF.ks [0,1,2,4,6,7] rfl;replace hW:=hW.fs [7,7,7,7,7,5,6,7] rfl;refine t_n ?_;refine⟨(b2,b3,A1,n1),?_,?_,?_⟩
   exact hF.a2 rfl rfl rfl
   exact hW
   trivial
   refine d_op rfl rfl<|e_alloc hF hW ze_191 rfl rfl rfl fun b4 a wc hF hW=>ai (hW.ds [0,0] rfl) fun hS=>d_1 17 Kr<|d_op rfl rfl<|e_alloc hF hW ze_75 rfl rfl rfl fun b5 a wc hF hW=>ai (hW.ds [0,0,0] rfl) fun hS=>d_1 19 Kr<|d_op rfl rfl<|e_storeAll rfl hF hW rfl rfl 0 rfl rfl rfl Kr sz_75 fun wc hW=>ai (hW.ds [0,0,0] rfl) fun hS=>d_1 20 Kr<|d_op rfl rfl<|e_storeAll rfl hF hW rfl rfl 1 rfl rfl rfl Kr sz_191 fun wc hW=>ai (hW.ds [0,0,0] rfl) fun hS=>dq 1 [21] hF hS rfl fun a hF=>?_;clear hS;refine d_nil Kr ?_;replace hF:=hF.ks [0,1,2,4,6,7] rfl;replace hW:=hW.fs [7,7,7,7,7,6,6,7] rfl;refine t_n ?_;refine⟨(b5,b4,A1,n1),?_,?_,?_⟩
   exact hF.a2 rfl rfl rfl
   exact hW
   trivial
   refine d_op rfl rfl<|e_alloc hF hW ze_75 rfl rfl rfl fun b6 a wc hF hW=>ai (hW.del 0 rfl) fun hS=>?_;refine d_2 12 18 Kr ?_ ?_;refine d_op rfl rfl (e_callA hF rfl rfl en_103 Rl (hstep _ hW.chg (OwnInts.ints ((hW.res 5 rfl).1 _ hqm))) ?_);rintro e w1 ⟨A1,n1,rfl,hr1,hb⟩;replace hW:=hW.gotR hb hr1;refine⟨_,rfl,fun a hF=>?_⟩;refine ai (hW.ds [0,0] rfl) fun hS=>dq 4 [13,14,15,16] hF hS rfl fun a hF=>d_1 18 Kr<|d_op rfl rfl<|e_alloc hF hW ze_191 rfl rfl rfl fun b7 a wc hF hW=>ai (hW.ds [0,0,0] rfl) fun hS=>d_1 19 Kr<|d_op rfl rfl<|e_storeAll rfl hF hW rfl rfl 2 rfl rfl rfl Kr sz_75 fun wc hW=>ai (hW.ds [0,0,0] rfl) fun hS=>d_1 20 Kr<|d_op rfl rfl<|e_storeAll rfl hF hW rfl rfl 0 rfl rfl rfl Kr sz_191 fun wc hW=>ai (hW.ds [0,0,0] rfl) fun hS=>dq 1 [21] hF hS rfl fun a hF=>?_;clear hS;refine d_nil Kr ?_;replace hF:=hF.ks [0,1,2,4,6,7] rfl;replace hW:=hW.fs [7,7,7,7,7,5,7,7] rfl;refine t_n ?_;refine⟨(b6,b7,A1,n1),?_,?_,?_⟩
   exact hF.a2 rfl rfl rfl
   exact hW
   trivial
   refine d_op rfl rfl<|e_alloc hF hW ze_191 rfl rfl rfl fun b8 a wc hF hW=>ai (hW.ds [0,0] rfl) fun hS=>d_1 12 Kr ?_;refine d_op rfl rfl (e_callA hF rfl rfl en_103 Rl (hstep _ hW.chg (OwnInts.ints ((hW.res 6 rfl).1 _ hqm))) ?_);rintro e w1 ⟨A1,n1,rfl,hr1,hb⟩;replace hW:=hW.gotR hb hr1;refine⟨_,rfl,fun a hF=>?_⟩;refine ai (hW.ds [0,0,0] rfl) fun hS=>dq 4 [13,14,15,16] hF hS rfl fun a hF=>d_1 19 Kr<|d_op rfl rfl<|e_storeAll rfl hF hW rfl rfl 2 rfl rfl rfl Kr sz_75 fun wc hW=>ai (hW.ds [0,0,0] rfl) fun hS=>d_1 20 Kr<|d_op rfl rfl<|e_storeAll rfl hF hW rfl rfl 1 rfl rfl rfl Kr sz_191 fun wc hW=>ai (hW.ds [0,0,0] rfl) fun hS=>dq 1 [21] hF hS rfl fun a hF=>?_;clear hS;refine d_nil Kr ?_;replace hF:=hF.ks [0,1,2,4,6,7] rfl;replace hW:=hW.fs [7,7,7,7,7,6,7,7] rfl;refine t_n ?_;refine⟨(b6,b8,A1,n1),?_,?_,?_⟩
   exact hF.a2 rfl rfl rfl
   exact hW
   trivial
   refine d_op rfl rfl<|e_alloc hF hW ze_191 rfl rfl rfl fun b9 a wc hF hW=>ai (hW.del 0 rfl) fun hS=>?_;refine d_2 12 17 Kr ?_ ?_;refine d_op rfl rfl (e_callA hF rfl rfl en_103 Rl (hstep _ hW.chg (OwnInts.ints ((hW.res 5 rfl).1 _ hqm))) ?_);rintro e w1 ⟨A1,n1,rfl,hr1,hb⟩;replace hW:=hW.gotR hb hr1;refine⟨_,rfl,fun a hF=>?_⟩;refine ai (hW.ds [0,0] rfl) fun hS=>dq 4 [13,14,15,16] hF hS rfl fun a hF=>d_1 17 Kr<|d_op rfl rfl<|e_alloc hF hW ze_75 rfl rfl rfl fun b10 a wc hF hW=>ai (hW.ds [0,0,0] rfl) fun hS=>d_1 19 Kr<|d_op rfl rfl<|e_storeAll rfl hF hW rfl rfl 0 rfl rfl rfl Kr sz_75 fun wc hW=>ai (hW.ds [0,0,0] rfl) fun hS=>d_1 20 Kr<|d_op rfl rfl<|e_storeAll rfl hF hW rfl rfl 2 rfl rfl rfl Kr sz_191 fun wc hW=>ai (hW.ds [0,0,0] rfl) fun hS=>dq 1 [21] hF hS rfl fun a hF=>?_;clear hS;refine d_nil Kr ?_;replace hF:=hF.ks [0,1,2,4,6,7] rfl;replace hW:=hW.fs [7,7,7,7,7,7,6,7] rfl;refine t_n ?_;refine⟨(b10,b9,A1,n1),?_,?_,?_⟩
   exact hF.a2 rfl rfl rfl
   exact hW
   trivial
   refine d_op rfl rfl<|e_alloc hF hW ze_75 rfl rfl rfl fun b11 a wc hF hW=>ai (hW.ds [0,0] rfl) fun hS=>d_1 12 Kr ?_;refine d_op rfl rfl (e_callA hF rfl rfl en_103 Rl (hstep _ hW.chg (OwnInts.ints ((hW.res 6 rfl).1 _ hqm))) ?_);rintro e w1 ⟨A1,n1,rfl,hr1,hb⟩;replace hW:=hW.gotR hb hr1;refine⟨_,rfl,fun a hF=>?_⟩;refine ai (hW.ds [0,0,0] rfl) fun hS=>dq 4 [13,14,15,16] hF hS rfl fun a hF=>d_1 19 Kr<|d_op rfl rfl<|e_storeAll rfl hF hW rfl rfl 1 rfl rfl rfl Kr sz_75 fun wc hW=>ai (hW.ds [0,0,0] rfl) fun hS=>d_1 20 Kr<|d_op rfl rfl<|e_storeAll rfl hF hW rfl rfl 2 rfl rfl rfl Kr sz_191 fun wc hW=>ai (hW.ds [0,0,0] rfl) fun hS=>dq 1 [21] hF hS rfl fun a hF=>?_;clear hS;refine d_nil Kr ?_;replace hF:=hF.ks [0,1,2,4,6,7] rfl;refine t_n ?_;refine⟨(b11,b9,A1,n1),?_,?_,?_⟩
   exact hF.a2 rfl rfl rfl
   exact hW
   trivial
   clear hF hW
   try clear a
   intro gq a wc hC hF hW
   obtain⟨b6,b7,A1,n1⟩:=gq
   dsimp only at hC
   clear hC;refine c_sr<|pq 3 hF rfl fun a hF=>pv hF hW (y_loadOwn hF rfl 4 rfl rfl Tryz.underlying3 rfl) fun a hF=>pv hF hW (y_add hF rfl rfl (IntWalk.i64_in _ Om)) fun a hF=>pq 2 hF rfl fun a hF=>pe<|e_store rfl hF hW rfl rfl 4 rfl rfl rfl sz_3 fun wc hW=>l_nil<|t_n<|c_s<|c_sr<|pq 1 hF rfl fun a hF=>pv hF hW (y_loadOwn hF rfl 2 rfl rfl Tryz.underlying3 rfl) fun a hF=>pq 1 hF rfl fun a hF=>?_;replace hF:=hF.tt;refine l_nil<|t_n<|c_t hF rfl<|c_sr<|pq 1 hF rfl fun a hF=>pv hF hW (y_loadOwn hF rfl 2 rfl rfl Tryz.underlying3 rfl) fun a hF=>pq 1 hF rfl fun a hF=>lts<|pq 1 hF rfl fun a hF=>pv hF hW (y_loadOwn hF rfl 3 rfl rfl Tryz.underlying36 rfl) fun a hF=>pq 1 hF rfl fun a hF=>pv hF hW (y_indexS hF rfl rfl Od Tryz.underlying36 sz_121 (fun w h=>(hxc).wd h)) fun a hF=>pv hF hW (y_fieldRow hF rfl fa_121_0) fun a hF=>pv hF hW (y_loadRow hF rfl (fun w h=>(hxc).wd h) Od rfl Tryz.underlying3 rfl) fun a hF=>pq 1 hF rfl fun a hF=>l_nil ?_;replace hF:=hF.ks [0,1,2,4,6,7,9,10,48] rfl;refine t_n<|c_sr<|pq 2 hF rfl fun a hF=>l_nil<|t_n<|c_s<|c_sr<|pq 1 hF rfl fun a hF=>pv hF hW (y_loadOwn hF rfl 2 rfl rfl Tryz.underlying3 rfl) fun a hF=>pq 1 hF rfl fun a hF=>?_;replace hF:=hF.tt;refine l_nil<|t_n<|c_t hF rfl<|c_d mixed_ok hW ((hW.del 6 rfl)) ?_
   clear hW;intro wc hW hS
   refine dq 3 [0,1,2] hF hS rfl fun a hF=>dv 3 rfl hF hS (y_loadOwn hF rfl 4 rfl rfl Tryz.underlying59 rfl) fun a hF=>dq 5 [4,5,6,7,8] hF hS rfl fun a hF=>dv 9 rfl hF hS (y_loadOwn hF rfl 4 rfl rfl Tryz.underlying59 rfl) fun a hF=>dq 1 [10] hF hS rfl fun a hF=>dv 11 rfl hF hS (y_indexOwnS hF rfl rfl Od Tryz.underlying59 sz_195) fun a hF=>dq 1 [13] hF hS rfl fun a hF=>dv 14 rfl hF hS (y_loadOwn hF rfl 2 rfl rfl Tryz.underlying3 rfl) fun a hF=>d_1 12 Kr<|d_opval rfl hF rfl hW (y_loadN hF rfl 6 rfl Tryz.underlying195 rfl sz_195 (by exact Nat.ble_eq_true_of_le Om)) rfl rfl fun a hF=>?_;replace hF:=Fr.cast (v':=.agg #[.slice lqa lv.length lqk]) (by rw[flat_elem encL_len LD0 hltk rfl hchl,hlz];rfl) hF;refine ai (hW.del 6 rfl) fun hS=>d_1 15 Kr ?_;refine d_op rfl rfl (e_callA hF rfl rfl en_104 Rl (hputc _ ((hW.res 7 rfl).2 _ hlm2)) ?_);rintro e w1 ⟨A3,n3,rfl,hr3,hb⟩;replace hW:=hW.gotR hb hr3;refine⟨_,rfl,fun a hF=>?_⟩;refine ai (hW.ds [0,6] rfl) fun hS=>dq 4 [16,17,18,19] hF hS rfl fun a hF=>dv 20 rfl hF hS (y_indexOwnS hF rfl rfl Od Tryz.underlying59 sz_195) fun a hF=>d_1 21 Kr<|d_op rfl rfl<|e_storeMid rfl hF hW rfl rfl 7 rfl (by show _+1≤_;omega) Kr sz_195 fun wc hW=>ai (hW.ds [0,6] rfl) fun hS=>dq 1 [22] hF hS rfl fun a hF=>?_;clear hS;refine d_nil Kr ?_;replace hF:=hF.ks [0,1,2,4,6,7,9,10,11,12,48,59] rfl;refine t_n<|c_r<|pv hF hW (y_loadAll hF rfl 2 rfl Tryz.underlying75 rfl sz_75) fun a hF=>pv hF hW (y_loadAll hF rfl 3 rfl Tryz.underlying191 rfl sz_191) fun a hF=>pq 3 hF rfl fun a hF=>?_;refine pe (e_callA hF rfl rfl en_106 Rl (hrepc _ _ _ (hW.res 1 rfl)) ?_);rintro e w1 ⟨A2,n2,rfl,hr2,hb⟩;replace hW:=hW.gotR hb hr2;refine⟨_,rfl,fun a hF=>?_⟩;refine pq 3 hF rfl fun a hF=>pe<|e_storeAll rfl hF hW rfl rfl 3 rfl rfl rfl Kr sz_75 fun wc hW=>l_nil<|t_n<|c_d mixed_ok hW ((hW.del 7 rfl)) ?_
   clear hW;intro wc hW hS
   refine dq 3 [0,1,2] hF hS rfl fun a hF=>dv 3 rfl hF hS (y_loadOwn hF rfl 6 rfl rfl Tryz.underlying58 rfl) fun a hF=>dq 1 [4] hF hS rfl fun a hF=>dv 5 rfl hF hS (y_loadAll hF rfl 3 rfl Tryz.underlying75 rfl sz_75) fun a hF=>dv 6 rfl hF hS (y_indexOwnS hF rfl rfl Od Tryz.underlying58 sz_75) fun a hF=>d_1 7 Kr<|d_op rfl rfl<|e_storeMid rfl hF hW rfl rfl 7 rfl (by show _+16≤_;omega) Kr sz_75 fun wc hW=>ai (hW.del 7 rfl) fun hS=>?_;clear hS;refine d_nil Kr ?_;replace hF:=hF.ks [0,1,2,4,6,7,9,10,11,12,48,59] rfl;refine end0 Tryz.results63 hF ?_;replace hW:=hW.ds [2,2,2,2] rfl;replace hW:=hW.fs [4,4,4,4,4,5] rfl
   obtain⟨y',hy',hWy⟩:=step_endL (q:=CD.mk _ hwf2 A2 n2) (z:=LD.mk l2 A3 n3) (t:=tk+1) hW rfl rfl rfl rfl hpc hchl htk hll hnc hcm hltk hlll hnl hlm rfl;subst hy';exact⟨_,rfl,by(refine Eq.trans ?_ hq2.symm;simp only[WD.wrl,set_map]),hWy⟩
  ·obtain⟨l2,vw,pb,hget,-⟩:=getOf_ok hl0
   obtain⟨kw,hkw⟩:∃k:Wnt,⟨13,ch,rg,fl,0⟩=k:=⟨_,rfl⟩
   have hwf2:=replyOf_wf (k:=kw) (kind:=(x.chans.getD ch C0).kind) (val:=vw) (is:=pb) hwf1
   obtain⟨c2,hc2⟩:∃c,replyOf ⟨an,[p0,p1,p2,p3],[q0,q1,q2,q3,q4,q5,q6,q7],dn,on,en1⟩ kw (x.chans.getD ch C0).kind vw pb=c:=⟨_,rfl⟩
   have hrepc:=fun A n=>hrep (x.chans.getD ch C0).kind vw pb hr0 A n c2 (hkw▸hc2)
   rw[hc2] at hwf2
   obtain⟨ae,rm,mm,de,oe,ee⟩:=c2
   obtain⟨u0,u1,u2,u3,hregs⟩:=len_four hwf2.1
   obtain⟨v0,v1,v2,v3,v4,v5,v6,v7,hmem⟩:=len_eight hwf2.2
   dsimp only at hregs hmem
   subst hregs hmem
   simp only[celV_eq] at hstep hrepc
   subst hkw
   have hgetc:=fun u (h:LD.Own ⟨lv,lqa,lqk⟩ u)=>getZ (OwnInts.ints h) hget
   have hq2:=hstQ (⟨ae,[u0,u1,u2,u3],[v0,v1,v2,v3,v4,v5,v6,v7],de,oe,ee⟩,l2) Dc (by unfold chanOf;rw[if_neg (by dsimp only;decide),hget,hc2])
   refine enter Tryz.func63 rfl Tryz.ntmps63 rfl fun a hF=>c_sr<|pe<|e_box hF hW rfl rfl rfl rfl fun b1 a wc hF hW=>l_nil<|t_n<|c_sd mixed_ok hW (hW) ?_
   clear hW;intro wc hW hS
   refine dv 0 rfl hF hS (y_loadAll hF rfl 0 rfl Tryz.underlying39 rfl sz_39) fun a hF=>dq 3 [1,2,3] hF hS rfl fun a hF=>dv 4 rfl hF hS (y_loadOwn hF rfl 1 rfl rfl Tryz.underlying3 rfl) fun a hF=>d_1 5 Kr<|d_op rfl rfl<|e_callK hF hW rfl rfl en_102 Rl (hwho _ hW.chg) fun a w1 hW hF=>ai hW fun hS=>dq 5 [6,7,8,9,10] hF hS rfl fun a hF=>?_;clear hS;refine d_nil Kr<|t_n ?_;refine c_cut (G:=Nat×Nat×Option Addr×Nat) (fun⟨b6,b7,A1,n1⟩=>[(6,.pointer (some ⟨b6,0,none⟩)),(7,.pointer (some ⟨b7,0,none⟩))]) (fun⟨b6,b7,A1,n1⟩=>[.res (fun u=>OwnInts u 0 (.slice A1 on.length n1) on),.blk b6 75 [.int .i64 an,.int .i64 p0,.int .i64 p1,.int .i64 p2,.int .i64 p3,.int .i64 q0,.int .i64 q1,.int .i64 q2,.int .i64 q3,.int .i64 q4,.int .i64 q5,.int .i64 q6,.int .i64 q7,.int .i64 dn,.slice A1 on.length n1,.int .i64 en1],.blk b7 191 [.int .i64 13,.int .i64 (ch:Int),.int .i64 rg,.int .i64 fl,.int .i64 0]]) (fun⟨b6,b7,A1,n1⟩=>True) (hF.ks [0,1,2,4] rfl) hW ?_ ?_;refine c_d mixed_ok hW (hW) ?_
   clear hW;intro wc hW hS
   refine dq 1 [0] hF hS rfl fun a hF=>dv 1 rfl hF hS (y_loadOwn hF rfl 0 rfl rfl Tryz.underlying35 rfl) fun a hF=>dq 1 [2] hF hS rfl fun a hF=>dv 3 rfl hF hS (y_indexS hF rfl rfl Od Tryz.underlying35 sz_43 (fun w h=>(hxp).wd h)) fun a hF=>dv 4 rfl hF hS (y_loadRowW hF rfl (fun w h=>(hxp).wd h) Od Tryz.underlying43 rfl sz_43) fun a hF=>dq 3 [5,6,7] hF hS rfl fun a hF=>dv 8 rfl hF hS (y_loadOwn hF rfl 1 rfl rfl Tryz.underlying58 rfl) fun a hF=>dq 1 [9] hF hS rfl fun a hF=>dv 10 rfl hF hS (y_indexOwnS hF rfl rfl Od Tryz.underlying58 sz_75) fun a hF=>dv 11 rfl hF hS (y_loadN hF rfl 2 rfl Tryz.underlying75 rfl sz_75 (by exact Nat.ble_eq_true_of_le Om)) fun a hF=>?_;replace hF:=Fr.cast (v':=.agg #[.int .i64 at_,.int .i64 r0,.int .i64 r1,.int .i64 r2,.int .i64 r3,.int .i64 m0,.int .i64 m1,.int .i64 m2,.int .i64 m3,.int .i64 m4,.int .i64 m5,.int .i64 m6,.int .i64 m7,.int .i64 rd,.slice qa out.length qk,.int .i64 en]) (by rw[flat_elem encC_len CD0 htk rfl hpc,hq];rfl) hF;refine d_3 12 17 18 Kr ?_ ?_ ?_;refine d_op rfl rfl (e_callA hF rfl rfl en_103 Rl (hstep _ hW.chg (OwnInts.ints ((hW.res 4 rfl).1 _ hqm))) ?_);rintro e w1 ⟨A1,n1,rfl,hr1,hb⟩;replace hW:=hW.gotR hb hr1;refine⟨_,rfl,fun a hF=>?_⟩;refine ai (hW.del 0 rfl) fun hS=>dq 4 [13,14,15,16] hF hS rfl fun a hF=>?_;refine d_2 17 18 Kr ?_ ?_;refine d_op rfl rfl<|e_alloc hF hW ze_75 rfl rfl rfl fun b2 a wc hF hW=>ai (hW.ds [0,0] rfl) fun hS=>d_1 18 Kr<|d_op rfl rfl<|e_alloc hF hW ze_191 rfl rfl rfl fun b3 a wc hF hW=>ai (hW.ds [0,0,0] rfl) fun hS=>d_1 19 Kr<|d_op rfl rfl<|e_storeAll rfl hF hW rfl rfl 1 rfl rfl rfl Kr sz_75 fun wc hW=>ai (hW.ds [0,0,0] rfl) fun hS=>d_1 20 Kr<|d_op rfl rfl<|e_storeAll rfl hF hW rfl rfl 0 rfl rfl rfl Kr sz_191 fun wc hW=>ai (hW.ds [0,0,0] rfl) fun hS=>dq 1 [21] hF hS rfl fun a hF=>?_;clear hS;refine d_nil Kr ?_;replace hF:=hF.ks [0,1,2,4,6,7] rfl;replace hW:=hW.fs [7,7,7,7,7,5,6,7] rfl;refine t_n ?_;refine⟨(b2,b3,A1,n1),?_,?_,?_⟩
   exact hF.a2 rfl rfl rfl
   exact hW
   trivial
   refine d_op rfl rfl<|e_alloc hF hW ze_191 rfl rfl rfl fun b4 a wc hF hW=>ai (hW.ds [0,0] rfl) fun hS=>d_1 17 Kr<|d_op rfl rfl<|e_alloc hF hW ze_75 rfl rfl rfl fun b5 a wc hF hW=>ai (hW.ds [0,0,0] rfl) fun hS=>d_1 19 Kr<|d_op rfl rfl<|e_storeAll rfl hF hW rfl rfl 0 rfl rfl rfl Kr sz_75 fun wc hW=>ai (hW.ds [0,0,0] rfl) fun hS=>d_1 20 Kr<|d_op rfl rfl<|e_storeAll rfl hF hW rfl rfl 1 rfl rfl rfl Kr sz_191 fun wc hW=>ai (hW.ds [0,0,0] rfl) fun hS=>dq 1 [21] hF hS rfl fun a hF=>?_;clear hS;refine d_nil Kr ?_;replace hF:=hF.ks [0,1,2,4,6,7] rfl;replace hW:=hW.fs [7,7,7,7,7,6,6,7] rfl;refine t_n ?_;refine⟨(b5,b4,A1,n1),?_,?_,?_⟩
   exact hF.a2 rfl rfl rfl
   exact hW
   trivial
   refine d_op rfl rfl<|e_alloc hF hW ze_75 rfl rfl rfl fun b6 a wc hF hW=>ai (hW.del 0 rfl) fun hS=>?_;refine d_2 12 18 Kr ?_ ?_;refine d_op rfl rfl (e_callA hF rfl rfl en_103 Rl (hstep _ hW.chg (OwnInts.ints ((hW.res 5 rfl).1 _ hqm))) ?_);rintro e w1 ⟨A1,n1,rfl,hr1,hb⟩;replace hW:=hW.gotR hb hr1;refine⟨_,rfl,fun a hF=>?_⟩;refine ai (hW.ds [0,0] rfl) fun hS=>dq 4 [13,14,15,16] hF hS rfl fun a hF=>d_1 18 Kr<|d_op rfl rfl<|e_alloc hF hW ze_191 rfl rfl rfl fun b7 a wc hF hW=>ai (hW.ds [0,0,0] rfl) fun hS=>d_1 19 Kr<|d_op rfl rfl<|e_storeAll rfl hF hW rfl rfl 2 rfl rfl rfl Kr sz_75 fun wc hW=>ai (hW.ds [0,0,0] rfl) fun hS=>d_1 20 Kr<|d_op rfl rfl<|e_storeAll rfl hF hW rfl rfl 0 rfl rfl rfl Kr sz_191 fun wc hW=>ai (hW.ds [0,0,0] rfl) fun hS=>dq 1 [21] hF hS rfl fun a hF=>?_;clear hS;refine d_nil Kr ?_;replace hF:=hF.ks [0,1,2,4,6,7] rfl;replace hW:=hW.fs [7,7,7,7,7,5,7,7] rfl;refine t_n ?_;refine⟨(b6,b7,A1,n1),?_,?_,?_⟩
   exact hF.a2 rfl rfl rfl
   exact hW
   trivial
   refine d_op rfl rfl<|e_alloc hF hW ze_191 rfl rfl rfl fun b8 a wc hF hW=>ai (hW.ds [0,0] rfl) fun hS=>d_1 12 Kr ?_;refine d_op rfl rfl (e_callA hF rfl rfl en_103 Rl (hstep _ hW.chg (OwnInts.ints ((hW.res 6 rfl).1 _ hqm))) ?_);rintro e w1 ⟨A1,n1,rfl,hr1,hb⟩;replace hW:=hW.gotR hb hr1;refine⟨_,rfl,fun a hF=>?_⟩;refine ai (hW.ds [0,0,0] rfl) fun hS=>dq 4 [13,14,15,16] hF hS rfl fun a hF=>d_1 19 Kr<|d_op rfl rfl<|e_storeAll rfl hF hW rfl rfl 2 rfl rfl rfl Kr sz_75 fun wc hW=>ai (hW.ds [0,0,0] rfl) fun hS=>d_1 20 Kr<|d_op rfl rfl<|e_storeAll rfl hF hW rfl rfl 1 rfl rfl rfl Kr sz_191 fun wc hW=>ai (hW.ds [0,0,0] rfl) fun hS=>dq 1 [21] hF hS rfl fun a hF=>?_;clear hS;refine d_nil Kr ?_;replace hF:=hF.ks [0,1,2,4,6,7] rfl;replace hW:=hW.fs [7,7,7,7,7,6,7,7] rfl;refine t_n ?_;refine⟨(b6,b8,A1,n1),?_,?_,?_⟩
   exact hF.a2 rfl rfl rfl
   exact hW
   trivial
   refine d_op rfl rfl<|e_alloc hF hW ze_191 rfl rfl rfl fun b9 a wc hF hW=>ai (hW.del 0 rfl) fun hS=>?_;refine d_2 12 17 Kr ?_ ?_;refine d_op rfl rfl (e_callA hF rfl rfl en_103 Rl (hstep _ hW.chg (OwnInts.ints ((hW.res 5 rfl).1 _ hqm))) ?_);rintro e w1 ⟨A1,n1,rfl,hr1,hb⟩;replace hW:=hW.gotR hb hr1;refine⟨_,rfl,fun a hF=>?_⟩;refine ai (hW.ds [0,0] rfl) fun hS=>dq 4 [13,14,15,16] hF hS rfl fun a hF=>d_1 17 Kr<|d_op rfl rfl<|e_alloc hF hW ze_75 rfl rfl rfl fun b10 a wc hF hW=>ai (hW.ds [0,0,0] rfl) fun hS=>d_1 19 Kr<|d_op rfl rfl<|e_storeAll rfl hF hW rfl rfl 0 rfl rfl rfl Kr sz_75 fun wc hW=>ai (hW.ds [0,0,0] rfl) fun hS=>d_1 20 Kr<|d_op rfl rfl<|e_storeAll rfl hF hW rfl rfl 2 rfl rfl rfl Kr sz_191 fun wc hW=>ai (hW.ds [0,0,0] rfl) fun hS=>dq 1 [21] hF hS rfl fun a hF=>?_;clear hS;refine d_nil Kr ?_;replace hF:=hF.ks [0,1,2,4,6,7] rfl;replace hW:=hW.fs [7,7,7,7,7,7,6,7] rfl;refine t_n ?_;refine⟨(b10,b9,A1,n1),?_,?_,?_⟩
   exact hF.a2 rfl rfl rfl
   exact hW
   trivial
   refine d_op rfl rfl<|e_alloc hF hW ze_75 rfl rfl rfl fun b11 a wc hF hW=>ai (hW.ds [0,0] rfl) fun hS=>d_1 12 Kr ?_;refine d_op rfl rfl (e_callA hF rfl rfl en_103 Rl (hstep _ hW.chg (OwnInts.ints ((hW.res 6 rfl).1 _ hqm))) ?_);rintro e w1 ⟨A1,n1,rfl,hr1,hb⟩;replace hW:=hW.gotR hb hr1;refine⟨_,rfl,fun a hF=>?_⟩;refine ai (hW.ds [0,0,0] rfl) fun hS=>dq 4 [13,14,15,16] hF hS rfl fun a hF=>d_1 19 Kr<|d_op rfl rfl<|e_storeAll rfl hF hW rfl rfl 1 rfl rfl rfl Kr sz_75 fun wc hW=>ai (hW.ds [0,0,0] rfl) fun hS=>d_1 20 Kr<|d_op rfl rfl<|e_storeAll rfl hF hW rfl rfl 2 rfl rfl rfl Kr sz_191 fun wc hW=>ai (hW.ds [0,0,0] rfl) fun hS=>dq 1 [21] hF hS rfl fun a hF=>?_;clear hS;refine d_nil Kr ?_;replace hF:=hF.ks [0,1,2,4,6,7] rfl;refine t_n ?_;refine⟨(b11,b9,A1,n1),?_,?_,?_⟩
   exact hF.a2 rfl rfl rfl
   exact hW
   trivial
   clear hF hW
   try clear a
   intro gq a wc hC hF hW
   obtain⟨b6,b7,A1,n1⟩:=gq
   dsimp only at hC
   clear hC;refine c_sr<|pq 3 hF rfl fun a hF=>pv hF hW (y_loadOwn hF rfl 4 rfl rfl Tryz.underlying3 rfl) fun a hF=>pv hF hW (y_add hF rfl rfl (IntWalk.i64_in _ Om)) fun a hF=>pq 2 hF rfl fun a hF=>pe<|e_store rfl hF hW rfl rfl 4 rfl rfl rfl sz_3 fun wc hW=>l_nil<|t_n<|c_s<|c_sr<|pq 1 hF rfl fun a hF=>pv hF hW (y_loadOwn hF rfl 2 rfl rfl Tryz.underlying3 rfl) fun a hF=>pq 1 hF rfl fun a hF=>?_;replace hF:=hF.tt;refine l_nil<|t_n<|c_t hF rfl<|c_sr<|pq 1 hF rfl fun a hF=>pv hF hW (y_loadOwn hF rfl 2 rfl rfl Tryz.underlying3 rfl) fun a hF=>pq 1 hF rfl fun a hF=>lts<|pq 1 hF rfl fun a hF=>pv hF hW (y_loadOwn hF rfl 3 rfl rfl Tryz.underlying36 rfl) fun a hF=>pq 1 hF rfl fun a hF=>pv hF hW (y_indexS hF rfl rfl Od Tryz.underlying36 sz_121 (fun w h=>(hxc).wd h)) fun a hF=>pv hF hW (y_fieldRow hF rfl fa_121_0) fun a hF=>pv hF hW (y_loadRow hF rfl (fun w h=>(hxc).wd h) Od rfl Tryz.underlying3 rfl) fun a hF=>pq 1 hF rfl fun a hF=>l_nil ?_;replace hF:=hF.ks [0,1,2,4,6,7,9,10,48] rfl;refine t_n<|c_sr<|pq 2 hF rfl fun a hF=>l_nil<|t_n<|c_s<|c_sr<|pq 1 hF rfl fun a hF=>pv hF hW (y_loadOwn hF rfl 2 rfl rfl Tryz.underlying3 rfl) fun a hF=>pq 1 hF rfl fun a hF=>?_;replace hF:=hF.ff;refine l_nil<|t_n<|c_f hF rfl<|c_d mixed_ok hW ((hW.del 6 rfl)) ?_
   clear hW;intro wc hW hS
   refine dq 3 [0,1,2] hF hS rfl fun a hF=>dv 3 rfl hF hS (y_loadOwn hF rfl 4 rfl rfl Tryz.underlying59 rfl) fun a hF=>dq 5 [4,5,6,7,8] hF hS rfl fun a hF=>dv 9 rfl hF hS (y_loadOwn hF rfl 4 rfl rfl Tryz.underlying59 rfl) fun a hF=>dq 1 [10] hF hS rfl fun a hF=>dv 11 rfl hF hS (y_indexOwnS hF rfl rfl Od Tryz.underlying59 sz_195) fun a hF=>d_1 12 Kr<|d_opval rfl hF rfl hW (y_loadN hF rfl 6 rfl Tryz.underlying195 rfl sz_195 (by exact Nat.ble_eq_true_of_le Om)) rfl rfl fun a hF=>?_;replace hF:=Fr.cast (v':=.agg #[.slice lqa lv.length lqk]) (by rw[flat_elem encL_len LD0 hltk rfl hchl,hlz];rfl) hF;refine ai (hW.del 6 rfl) fun hS=>d_1 13 Kr ?_;refine d_op rfl rfl (e_callA hF rfl rfl en_105 Rl (hgetc _ ((hW.res 7 rfl).2 _ hlm2)) ?_);rintro e w1 ⟨A3,n3,rfl,hr3,hb⟩;replace hW:=hW.gotR hb hr3;refine⟨_,rfl,fun a hF=>?_⟩;refine ai (hW.ds [0,6] rfl) fun hS=>dq 5 [14,15,16,17,18] hF hS rfl fun a hF=>dv 19 rfl hF hS (y_indexOwnS hF rfl rfl Od Tryz.underlying59 sz_195) fun a hF=>d_1 20 Kr<|d_op rfl rfl<|e_storeMid rfl hF hW rfl rfl 7 rfl (by show _+1≤_;omega) Kr sz_195 fun wc hW=>ai (hW.ds [0,6] rfl) fun hS=>dq 2 [21,22] hF hS rfl fun a hF=>?_;clear hS;refine d_nil Kr ?_;replace hF:=hF.ks [0,1,2,4,6,7,9,10,11,12,48,59] rfl;refine t_n<|c_r<|pv hF hW (y_loadAll hF rfl 2 rfl Tryz.underlying75 rfl sz_75) fun a hF=>pv hF hW (y_loadAll hF rfl 3 rfl Tryz.underlying191 rfl sz_191) fun a hF=>pq 3 hF rfl fun a hF=>?_;refine pe (e_callA hF rfl rfl en_106 Rl (hrepc _ _ _ (hW.res 1 rfl)) ?_);rintro e w1 ⟨A2,n2,rfl,hr2,hb⟩;replace hW:=hW.gotR hb hr2;refine⟨_,rfl,fun a hF=>?_⟩;refine pq 3 hF rfl fun a hF=>pe<|e_storeAll rfl hF hW rfl rfl 3 rfl rfl rfl Kr sz_75 fun wc hW=>l_nil<|t_n<|c_d mixed_ok hW ((hW.del 7 rfl)) ?_
   clear hW;intro wc hW hS
   refine dq 3 [0,1,2] hF hS rfl fun a hF=>dv 3 rfl hF hS (y_loadOwn hF rfl 6 rfl rfl Tryz.underlying58 rfl) fun a hF=>dq 1 [4] hF hS rfl fun a hF=>dv 5 rfl hF hS (y_loadAll hF rfl 3 rfl Tryz.underlying75 rfl sz_75) fun a hF=>dv 6 rfl hF hS (y_indexOwnS hF rfl rfl Od Tryz.underlying58 sz_75) fun a hF=>d_1 7 Kr<|d_op rfl rfl<|e_storeMid rfl hF hW rfl rfl 7 rfl (by show _+16≤_;omega) Kr sz_75 fun wc hW=>ai (hW.del 7 rfl) fun hS=>?_;clear hS;refine d_nil Kr ?_;replace hF:=hF.ks [0,1,2,4,6,7,9,10,11,12,48,59] rfl;refine end0 Tryz.results63 hF ?_;replace hW:=hW.ds [2,2,2,2] rfl;replace hW:=hW.fs [4,4,4,4,4,5] rfl
   obtain⟨y',hy',hWy⟩:=step_endL (q:=CD.mk _ hwf2 A2 n2) (z:=LD.mk l2 A3 n3) (t:=tk+1) hW rfl rfl rfl rfl hpc hchl htk hll hnc hcm hltk hlll hnl hlm rfl;subst hy';exact⟨_,rfl,by(refine Eq.trans ?_ hq2.symm;simp only[WD.wrl,set_map]),hWy⟩
end Go.Proofs.YtndcjmopebcdgaaGreatDoor
