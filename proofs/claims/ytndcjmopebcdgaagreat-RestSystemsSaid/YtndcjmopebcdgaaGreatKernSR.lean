/- The reference's KernStep and RunOf. -/
import Derived.Test.YtndcjmopebcdgaaGreatKernTp
import Derived.Test.YtndcjmopebcdgaaGreatCellR
import Derived.Test.YtndcjmopebcdgaaGreatLineB
set_option linter.unusedSimpArgs false
set_option linter.unusedVariables false
namespace Go.Proofs.YtndcjmopebcdgaaGreat
open Go.ChangeShapes Go.WideShapes Go.ChangeAt Go.RowKit
set_option maxRecDepth 100000
theorem stepRZ{p:Prt}{c c':Cel}{k':Wnt}{cv iv ov:Value}{w:World}(hc:Code_ w cv p.code)(hi:Ints w iv p.inp)(ho:Ints w ov c.out)(hwf:c.wf)(h0:stepErr p c=0)(hs:stepOf p c=(c',k')):
  Calls Tryz.prog 39 #[.agg #[cv,iv],celV c ov] w fun e w'=>∃A k,e=.returned (.tuple #[celV c' (.slice A c'.out.length k),wntV k'])∧OwnRes w w' (fun u=>OwnInts u 0 (.slice A c'.out.length k) c'.out)∧Below w.heap.size w w':=by
 obtain⟨h1,-,h3,h4⟩:=stepErr_zero h0
 have:=stepR_any p c cv iv ov w hwf ho hc hi h1 h3 h4
 rw[hs] at this
 refine this.mono fun e w' ⟨ov',he,_,hown,hb⟩=>?_
 have hr:=OwnRes.ownB hown.own
 obtain⟨A,k,rfl⟩:=hr.now.form rfl
 exact⟨A,k,he,hr,hb⟩
theorem replyRZ{c c':Cel}{k:Wnt}{kind val:Int}{is:Bool}{ov:Value}{w:World}(ho:Ints w ov c.out)(hwf:c.wf)(h0:replyErr c k kind=0)(hs:replyOf c k kind val is=c'):
  Calls Tryz.prog 42 #[celV c ov,wntV k,.int .i64 kind,.int .i64 val,.bool is] w fun e w'=>∃A n,e=.returned (celV c' (.slice A c'.out.length n))∧OwnRes w w' (fun u=>OwnInts u 0 (.slice A c'.out.length n) c'.out)∧Below w.heap.size w w':=by
 have:=replyOfR_any c k kind val is ov hwf w ho h0
 rw[hs] at this
 refine this.mono fun e w' ⟨ov',he,_,hown,hb⟩=>?_
 have hr:=OwnRes.ownB hown.own
 obtain⟨A,k,rfl⟩:=hr.now.form rfl
 exact⟨A,k,he,hr,hb⟩
theorem putRZ{k x:Int}{l m:List Int}{b:Bool}{v:Value}{w:World}(hv:Ints w v l)(hc:chkLine k l.length=0)(h:putOf k l x=(m,b,0)):
  Calls Tryz.prog 40 #[.int .i64 k,.agg #[v],.int .i64 x] w fun e w'=>∃A n,e=.returned (.tuple #[.agg #[.slice A m.length n],.bool b])∧OwnRes w w' (fun u=>OwnInts u 0 (.slice A m.length n) m)∧Below w.heap.size w w':=by
 have:=putOfR_any k x v l w hv hc
 rw[h] at this
 refine this.mono fun e w' ⟨v',he,hown,hb⟩=>?_
 have hr:=OwnRes.ownB hown
 obtain⟨A,n,rfl⟩:=hr.now.form rfl
 exact⟨A,n,he,hr,hb⟩
theorem getRZ{k x:Int}{l m:List Int}{b:Bool}{v:Value}{w:World}(hv:Ints w v l)(hc:chkLine k l.length=0)(h:getOf k l=(m,x,b,0)):
  Calls Tryz.prog 41 #[.int .i64 k,.agg #[v]] w fun e w'=>∃A n,e=.returned (.tuple #[.agg #[.slice A m.length n],.int .i64 x,.bool b])∧OwnRes w w' (fun u=>OwnInts u 0 (.slice A m.length n) m)∧Below w.heap.size w w':=by
 have:=getOfR_any k v l w hv hc
 rw[h] at this
 refine this.mono fun e w' ⟨v',he,hown,hb⟩=>?_
 have hr:=OwnRes.ownB hown
 obtain⟨A,n,rfl⟩:=hr.now.form rfl
 exact⟨A,n,he,hr,hb⟩
theorem wrl_setZ{W:Wrl}{y:WD}{t:Int}{vcells:List CD}{vlines:List LD}{a b:Option Addr}{c d p:Nat}{q:CD}(hvc:vcells.map CD.c=y.cells.map CD.c)(hvm:vlines.map LD.vals=y.lines.map LD.vals)(h:W=⟨t,y.wrl.cells.set p q.c,y.wrl.lines⟩):(⟨t,vcells.set p q,a,c,vlines,b,d⟩:WD).wrl=W:=by
 rw[h]
 simp only[WD.wrl,set_map,hvc,hvm]
theorem wrl_setL{W:Wrl}{y:WD}{t:Int}{vcells:List CD}{vlines:List LD}{a b:Option Addr}{c d p k:Nat}{q:CD}{z:LD}(hvc:vcells.map CD.c=y.cells.map CD.c)(hvm:vlines.map LD.vals=y.lines.map LD.vals)(h:W=⟨t,y.wrl.cells.set p q.c,y.wrl.lines.set k z.vals⟩):(⟨t,vcells.set p q,a,c,vlines.set k z,b,d⟩:WD).wrl=W:=by
 rw[h]
 simp only[WD.wrl,set_map,hvc,hvm]
set_option maxHeartbeats 8000000 in
theorem kernStepR_any{x:SysD}{y:WD}{w:World}(hx:x.At w)(hy:y.At w)(h0:stepErrW x.sys y.wrl=0):Calls Tryz.prog 14 #[x.val,y.val] w (WrlOwn w (stepW x.sys y.wrl)):=by
 obtain⟨hk,hR,ht⟩:=stepErrW_zero h0
 obtain⟨p,hp,hpl⟩:=who_part hk hR.t0
 have hr:=rightD_iff.1 hR
 have hown:=fun w1 (hb:Below w.heap.size w w1)=>ownWorld_any (hy.below hb) (hr.small hk)
 have herr:=right_err hk hR hpl
 have hwant:=stepOf_want (c:=y.wrl.cells.getD p Cel.zero) hk hpl
 have hstW:stepW x.sys y.wrl=stepP x.sys p y.wrl:=by unfold stepW;rw[hp,Int.toNat_natCast]
 have hwf1:=stepOf_wf (p:=x.sys.parts.getD p Pt0) (c:=y.wrl.cells.getD p Cel.zero) (by rw[getD_mapC];exact(y.cells.getD p CD0).wf)
 have hgoes:=(stepOf_goes herr).1
 have hpl':p<x.parts.length:=by simpa[SysD.sys] using hpl
 have hpc:p<y.cells.length:=by have:=hr.cl;omega
 have h0t:0≤y.tick:=hr.t0
 have ht':y.tick<300:=ht
 have hwho:=fun w1 (hb:Below w.heap.size w w1)=>whoOf_any (hx.below hb) hk h0t
 rw[show whoOf x.slots y.tick=p from hp] at hwho
 obtain⟨⟨c1,k1⟩,hst⟩:∃q,stepOf (x.sys.parts.getD p Pt0) (y.wrl.cells.getD p Cel.zero)=q:=⟨_,rfl⟩
 have hstP:=@stepP_0 x.sys p y.wrl c1 k1 hst
 have hstQ:=fun q=>@stepP_1 x.sys p y.wrl c1 k1 q hst
 rw[←hstW] at hstP
 simp only[←hstW] at hstQ
 rw[hst] at hwant hwf1 hgoes
 dsimp only at hwant hwf1
 rw[getD_mapP,getD_mapC] at hst herr
 have hfine:=hgoes.fine
 dsimp only at hfine
 have hlr:=hr.line
 have hlen:=hr.ll
 have hcat:=hy.cell hpc
 generalize stepW x.sys y.wrl=W at*
 clear hgoes hstW hp h0 hR hr
 obtain⟨q,hq⟩:∃q,y.cells.getD p CD0=q:=⟨_,rfl⟩
 rw[hq] at hcat hst herr
 obtain⟨⟨at_,regs,mem,rd,out,en⟩,hwf,qa,qk⟩:=q
 obtain⟨an,rn,mn,dn,on,en1⟩:=c1
 have hstep:∀u,Below w.heap.size w u→CD.At ⟨⟨at_,regs,mem,rd,out,en⟩,hwf,qa,qk⟩ u→Calls Tryz.prog 39 #[.agg (encP (x.parts.getD p P0)).toArray,celV ⟨at_,regs,mem,rd,out,en⟩ (.slice qa out.length qk)] u fun e w'=>∃A n,e=.returned (.tuple #[celV ⟨an,rn,mn,dn,on,en1⟩ (.slice A on.length n),wntV k1])∧OwnRes u w' (fun u=>OwnInts u 0 (.slice A on.length n) on)∧Below u.heap.size u w':=fun u hc ho=>
  stepRZ ((hx.below hc).part hpl').code ((hx.below hc).part hpl').inp ho hwf herr hst
 have hrep:=fun(kind val:Int) (is:Bool) (h0:replyErr ⟨an,rn,mn,dn,on,en1⟩ k1 kind=0) (A:Option Addr) (n:Nat) (c2:Cel) (h2:replyOf ⟨an,rn,mn,dn,on,en1⟩ k1 kind val is=c2) (u:World) (ho:OwnInts u 0 (.slice A on.length n) on)=>replyRZ (w:=u) (ov:=.slice A on.length n) (c:=⟨an,rn,mn,dn,on,en1⟩) ho.ints hwf1 h0 h2
 clear herr hst
 obtain⟨r0,r1,r2,r3,hregs⟩:=len_four hwf.1
 obtain⟨m0,m1,m2,m3,m4,m5,m6,m7,hmem⟩:=len_eight hwf.2
 obtain⟨p0,p1,p2,p3,hregs1⟩:=len_four hwf1.1
 obtain⟨q0,q1,q2,q3,q4,q5,q6,q7,hmem1⟩:=len_eight hwf1.2
 dsimp only at hregs hmem hregs1 hmem1
 subst hregs hmem hregs1 hmem1
 rw[x.val_eq,y.val_eq] at*
 rcases hwant with rfl|hw
 ·simp only[celV_eq] at hstep
  refine enter Tryz.func14 rfl Tryz.ntmps14 rfl fun a hF=>?_
  have hW:=Wd.start w NoB
  refine c_sr ?_;refine pe (e_box hF hW rfl rfl rfl rfl ?_);intro b1 a wc hF hW;refine pe (e_box hF hW rfl rfl rfl rfl ?_);intro b2 a wc hF hW;refine pe (e_alloc hF hW ze_30 rfl rfl rfl ?_);intro b3 a wc hF hW;refine l_nil<|t_n<|c_sr<|pv hF hW (y_loadAll hF rfl 1 rfl Tryz.underlying30 rfl sz_30) fun a hF=>?_;refine pe (e_call hF rfl rfl en_7 Rl rfl rfl (hown _ hW.below) ?_);rintro e w1 ⟨v,rfl,hv,hN⟩
  have hvl:v.cells.length=y.cells.length:=(by have:=congrArg (fun r=>r.cells.length) hv;simpa[WD.wrl] using this)
  have hvl2:v.lines.length=y.lines.length:=(by have:=congrArg (fun r=>r.lines.length) hv;simpa[WD.wrl] using this)
  have hvc:v.cells.map CD.c=y.cells.map CD.c:=congrArg Wrl.cells hv
  have hvm:v.lines.map LD.vals=y.lines.map LD.vals:=congrArg Wrl.lines hv
  clear hv;replace hW:=hW.comb3 hN
  obtain⟨vt,vcells,vca,vcc,vlines,vla,vlc⟩:=v
  dsimp only at hvl hvl2 hvc hvm
  obtain⟨bc,cc,lc,hcv,hnc,hcm,hll,htk,hW'⟩:=hW.row_whole 0 rfl (show 0<vcells.length by omega)
  replace hW:=hW';clear hW'
  simp only[Value.slice.injEq] at hcv
  obtain⟨rfl,-,rfl⟩:=hcv
  dsimp only at hnc hll htk
  have hpv:p<vcells.length:=Om
  skip;refine⟨_,rfl,fun a hF=>?_⟩;replace hF:=Fr.cast (v':=.agg #[.int .i64 vt,.slice (some ⟨bc,0,none⟩) vcells.length vcc,.slice vla vlines.length vlc]) rfl hF;refine pe (e_alloc hF hW ze_30 rfl rfl rfl ?_);intro b4 a wc hF hW;refine pe (e_storeAll rfl hF hW rfl rfl 0 rfl rfl rfl Kr sz_30 ?_);intro wc hW;refine l_nil ?_;replace hF:=hF.ks [0,1,2,3,4,5] rfl;refine t_n<|c_sr<|pv hF hW (y_loadAll hF rfl 6 rfl Tryz.underlying26 rfl sz_26) fun a hF=>pv hF hW (y_fieldOwn hF rfl fa_30_0) fun a hF=>pv hF hW (y_loadOwn hF rfl 5 rfl rfl Tryz.underlying3 rfl) fun a hF=>?_;refine pe (e_call hF rfl rfl en_38 Rl rfl rfl (hwho _ hW.below) ?_);rintro e w1 ⟨rfl,hb⟩;replace hW:=hW.kept hb;clear hb;refine⟨_,rfl,fun a hF=>?_⟩;refine pv hF hW (y_assign hF rfl) fun a hF=>l_nil ?_;replace hF:=hF.ks [0,1,2,3,4,5,6] rfl;refine t_n ?_;refine c_cut (G:=Nat×Nat×Option Addr×Nat) (fun(gq:Nat×Nat×Option Addr×Nat)=>match gq with|⟨b6,b7,A1,n1⟩=>[(7,.pointer (some ⟨b6,0,none⟩)),(8,.pointer (some ⟨b7,0,none⟩))]) (fun(gq:Nat×Nat×Option Addr×Nat)=>match gq with|⟨b6,b7,A1,n1⟩=>[.res (fun u=>OwnInts u 0 (.slice A1 on.length n1) on),.blk b6 42 [.int .i64 an,.int .i64 p0,.int .i64 p1,.int .i64 p2,.int .i64 p3,.int .i64 q0,.int .i64 q1,.int .i64 q2,.int .i64 q3,.int .i64 q4,.int .i64 q5,.int .i64 q6,.int .i64 q7,.int .i64 dn,.slice A1 on.length n1,.int .i64 en1],.blk b7 90 [.int .i64 0,.int .i64 0,.int .i64 0,.int .i64 0,.int .i64 0]]) (fun(gq:Nat×Nat×Option Addr×Nat)=>match gq with|⟨b6,b7,A1,n1⟩=>True) (hF.ks [0,1,2,3,4,5,6] rfl) hW ?_ ?_
  ·refine c_d mixed_ok hW (hW) ?_
   clear hW;intro wc hW hS
   refine dv 0 rfl hF hS (y_fieldOwn hF rfl fa_26_0) fun a hF=>dv 1 rfl hF hS (y_loadOwn hF rfl 6 rfl rfl Tryz.underlying22 rfl) fun a hF=>dv 2 rfl hF hS (y_move hF rfl) fun a hF=>dv 3 rfl hF hS (y_indexS hF rfl rfl Od Tryz.underlying22 sz_49 (fun w h=>(hx.partsR).wd h)) fun a hF=>dv 4 rfl hF hS (y_loadRowW hF rfl (fun w h=>(hx.partsR).wd h) Od Tryz.underlying49 rfl sz_49) fun a hF=>dv 5 rfl hF hS (y_fieldOwn hF rfl fa_30_1) fun a hF=>dv 6 rfl hF hS (y_loadOwn hF rfl 5 rfl rfl Tryz.underlying27 rfl) fun a hF=>dv 7 rfl hF hS (y_move hF rfl) fun a hF=>dv 8 rfl hF hS (y_indexS hF rfl rfl Od Tryz.underlying27 sz_42 (fun w h=>(hy.cellsR).wd h)) fun a hF=>dv 9 rfl hF hS (y_loadRowW hF rfl (fun w h=>(hy.cellsR).wd h) Od Tryz.underlying42 rfl (by rw[hq];exact sz_42)) fun a hF=>?_;replace hF:=Fr.cast (v':=.agg #[.int .i64 at_,.int .i64 r0,.int .i64 r1,.int .i64 r2,.int .i64 r3,.int .i64 m0,.int .i64 m1,.int .i64 m2,.int .i64 m3,.int .i64 m4,.int .i64 m5,.int .i64 m6,.int .i64 m7,.int .i64 rd,.slice qa out.length qk,.int .i64 en]) (by rw[hq];rfl) hF;refine d_3 10 14 15 Kr ?_ ?_ ?_
   ·refine d_op rfl rfl (e_call hF rfl rfl en_39 Rl rfl rfl (hstep _ hW.below (hcat.below hW.below)) ?_);rintro e w1 ⟨A1,n1,rfl,hr1,hb⟩;replace hW:=hW.gotR hb hr1;refine⟨_,rfl,fun a hF=>?_⟩;replace hS:=(hW.del 0 rfl);refine⟨hS,?_⟩;refine dv 11 rfl hF hS (y_move hF rfl) fun a hF=>dv 12 rfl hF hS (y_extract hF rfl rfl) fun a hF=>dv 13 rfl hF hS (y_extract hF rfl rfl) fun a hF=>?_;refine d_2 14 15 Kr ?_ ?_
    ·refine d_op rfl rfl (e_alloc hF hW ze_42 rfl rfl rfl ?_);intro b5 a wc hF hW;replace hS:=((hW.del 0 rfl).del 0 rfl);refine⟨hS,?_⟩;refine d_1 15 Kr ?_;refine d_op rfl rfl (e_alloc hF hW ze_90 rfl rfl rfl ?_);intro b6 a wc hF hW;replace hS:=(((hW.del 0 rfl).del 0 rfl).del 0 rfl);refine⟨hS,?_⟩;refine d_1 16 Kr ?_;refine d_op rfl rfl (e_storeAll rfl hF hW rfl rfl 1 rfl rfl rfl Kr sz_42 ?_);intro wc hW;replace hS:=(((hW.del 0 rfl).del 0 rfl).del 0 rfl);refine⟨hS,?_⟩;refine d_1 17 Kr ?_;refine d_op rfl rfl (e_storeAll rfl hF hW rfl rfl 0 rfl rfl rfl Kr sz_90 ?_);intro wc hW;replace hS:=(((hW.del 0 rfl).del 0 rfl).del 0 rfl);refine⟨hS,?_⟩;clear hS;refine d_nil Kr ?_;replace hF:=hF.ks [0,1,2,3,4,5,6,7,8] rfl;replace hW:=hW.front 9 rfl rfl;replace hW:=hW.front 9 rfl rfl;replace hW:=hW.front 9 rfl rfl;replace hW:=hW.front 9 rfl rfl;replace hW:=hW.front 9 rfl rfl;replace hW:=hW.front 9 rfl rfl;replace hW:=hW.front 9 rfl rfl;replace hW:=hW.front 7 rfl rfl;replace hW:=hW.front 8 rfl rfl;replace hW:=hW.front 9 rfl rfl;refine t_n ?_;refine⟨(b5,b6,A1,n1),?_,?_,?_⟩
     ·exact Fr.app (Fr.cons hF (t:=7) rfl rfl (Fr.cons hF (t:=8) rfl rfl (Fr.nil hF))) (hF.ks [0,1,2,3,4,5,6] rfl)
     ·exact hW
     ·trivial
    ·refine d_op rfl rfl (e_alloc hF hW ze_90 rfl rfl rfl ?_);intro b7 a wc hF hW;replace hS:=((hW.del 0 rfl).del 0 rfl);refine⟨hS,?_⟩;refine d_1 14 Kr ?_;refine d_op rfl rfl (e_alloc hF hW ze_42 rfl rfl rfl ?_);intro b8 a wc hF hW;replace hS:=(((hW.del 0 rfl).del 0 rfl).del 0 rfl);refine⟨hS,?_⟩;refine d_1 16 Kr ?_;refine d_op rfl rfl (e_storeAll rfl hF hW rfl rfl 0 rfl rfl rfl Kr sz_42 ?_);intro wc hW;replace hS:=(((hW.del 0 rfl).del 0 rfl).del 0 rfl);refine⟨hS,?_⟩;refine d_1 17 Kr ?_;refine d_op rfl rfl (e_storeAll rfl hF hW rfl rfl 1 rfl rfl rfl Kr sz_90 ?_);intro wc hW;replace hS:=(((hW.del 0 rfl).del 0 rfl).del 0 rfl);refine⟨hS,?_⟩;clear hS;refine d_nil Kr ?_;replace hF:=hF.ks [0,1,2,3,4,5,6,7,8] rfl;replace hW:=hW.front 9 rfl rfl;replace hW:=hW.front 9 rfl rfl;replace hW:=hW.front 9 rfl rfl;replace hW:=hW.front 9 rfl rfl;replace hW:=hW.front 9 rfl rfl;replace hW:=hW.front 9 rfl rfl;replace hW:=hW.front 9 rfl rfl;replace hW:=hW.front 8 rfl rfl;replace hW:=hW.front 8 rfl rfl;replace hW:=hW.front 9 rfl rfl;refine t_n ?_;refine⟨(b8,b7,A1,n1),?_,?_,?_⟩
     ·exact Fr.app (Fr.cons hF (t:=7) rfl rfl (Fr.cons hF (t:=8) rfl rfl (Fr.nil hF))) (hF.ks [0,1,2,3,4,5,6] rfl)
     ·exact hW
     ·trivial
   ·refine d_op rfl rfl (e_alloc hF hW ze_42 rfl rfl rfl ?_);intro b9 a wc hF hW;replace hS:=(hW.del 0 rfl);refine⟨hS,?_⟩;refine d_2 10 15 Kr ?_ ?_
    ·refine d_op rfl rfl (e_call hF rfl rfl en_39 Rl rfl rfl (hstep _ hW.below (hcat.below hW.below)) ?_);rintro e w1 ⟨A1,n1,rfl,hr1,hb⟩;replace hW:=hW.gotR hb hr1;refine⟨_,rfl,fun a hF=>?_⟩;replace hS:=((hW.del 0 rfl).del 0 rfl);refine⟨hS,?_⟩;refine dv 11 rfl hF hS (y_move hF rfl) fun a hF=>dv 12 rfl hF hS (y_extract hF rfl rfl) fun a hF=>dv 13 rfl hF hS (y_extract hF rfl rfl) fun a hF=>d_1 15 Kr ?_;refine d_op rfl rfl (e_alloc hF hW ze_90 rfl rfl rfl ?_);intro b10 a wc hF hW;replace hS:=(((hW.del 0 rfl).del 0 rfl).del 0 rfl);refine⟨hS,?_⟩;refine d_1 16 Kr ?_;refine d_op rfl rfl (e_storeAll rfl hF hW rfl rfl 2 rfl rfl rfl Kr sz_42 ?_);intro wc hW;replace hS:=(((hW.del 0 rfl).del 0 rfl).del 0 rfl);refine⟨hS,?_⟩;refine d_1 17 Kr ?_;refine d_op rfl rfl (e_storeAll rfl hF hW rfl rfl 0 rfl rfl rfl Kr sz_90 ?_);intro wc hW;replace hS:=(((hW.del 0 rfl).del 0 rfl).del 0 rfl);refine⟨hS,?_⟩;clear hS;refine d_nil Kr ?_;replace hF:=hF.ks [0,1,2,3,4,5,6,7,8] rfl;replace hW:=hW.front 9 rfl rfl;replace hW:=hW.front 9 rfl rfl;replace hW:=hW.front 9 rfl rfl;replace hW:=hW.front 9 rfl rfl;replace hW:=hW.front 9 rfl rfl;replace hW:=hW.front 9 rfl rfl;replace hW:=hW.front 9 rfl rfl;replace hW:=hW.front 7 rfl rfl;replace hW:=hW.front 9 rfl rfl;replace hW:=hW.front 9 rfl rfl;refine t_n ?_;refine⟨(b9,b10,A1,n1),?_,?_,?_⟩
     ·exact Fr.app (Fr.cons hF (t:=7) rfl rfl (Fr.cons hF (t:=8) rfl rfl (Fr.nil hF))) (hF.ks [0,1,2,3,4,5,6] rfl)
     ·exact hW
     ·trivial
    ·refine d_op rfl rfl (e_alloc hF hW ze_90 rfl rfl rfl ?_);intro b11 a wc hF hW;replace hS:=((hW.del 0 rfl).del 0 rfl);refine⟨hS,?_⟩;refine d_1 10 Kr ?_;refine d_op rfl rfl (e_call hF rfl rfl en_39 Rl rfl rfl (hstep _ hW.below (hcat.below hW.below)) ?_);rintro e w1 ⟨A1,n1,rfl,hr1,hb⟩;replace hW:=hW.gotR hb hr1;refine⟨_,rfl,fun a hF=>?_⟩;replace hS:=(((hW.del 0 rfl).del 0 rfl).del 0 rfl);refine⟨hS,?_⟩;refine dv 11 rfl hF hS (y_move hF rfl) fun a hF=>dv 12 rfl hF hS (y_extract hF rfl rfl) fun a hF=>dv 13 rfl hF hS (y_extract hF rfl rfl) fun a hF=>d_1 16 Kr ?_;refine d_op rfl rfl (e_storeAll rfl hF hW rfl rfl 2 rfl rfl rfl Kr sz_42 ?_);intro wc hW;replace hS:=(((hW.del 0 rfl).del 0 rfl).del 0 rfl);refine⟨hS,?_⟩;refine d_1 17 Kr ?_;refine d_op rfl rfl (e_storeAll rfl hF hW rfl rfl 1 rfl rfl rfl Kr sz_90 ?_);intro wc hW;replace hS:=(((hW.del 0 rfl).del 0 rfl).del 0 rfl);refine⟨hS,?_⟩;clear hS;refine d_nil Kr ?_;replace hF:=hF.ks [0,1,2,3,4,5,6,7,8] rfl;replace hW:=hW.front 9 rfl rfl;replace hW:=hW.front 9 rfl rfl;replace hW:=hW.front 9 rfl rfl;replace hW:=hW.front 9 rfl rfl;replace hW:=hW.front 9 rfl rfl;replace hW:=hW.front 9 rfl rfl;replace hW:=hW.front 9 rfl rfl;replace hW:=hW.front 8 rfl rfl;replace hW:=hW.front 9 rfl rfl;replace hW:=hW.front 9 rfl rfl;refine t_n ?_;refine⟨(b9,b11,A1,n1),?_,?_,?_⟩
     ·exact Fr.app (Fr.cons hF (t:=7) rfl rfl (Fr.cons hF (t:=8) rfl rfl (Fr.nil hF))) (hF.ks [0,1,2,3,4,5,6] rfl)
     ·exact hW
     ·trivial
   ·refine d_op rfl rfl (e_alloc hF hW ze_90 rfl rfl rfl ?_);intro b12 a wc hF hW;replace hS:=(hW.del 0 rfl);refine⟨hS,?_⟩;refine d_2 10 14 Kr ?_ ?_
    ·refine d_op rfl rfl (e_call hF rfl rfl en_39 Rl rfl rfl (hstep _ hW.below (hcat.below hW.below)) ?_);rintro e w1 ⟨A1,n1,rfl,hr1,hb⟩;replace hW:=hW.gotR hb hr1;refine⟨_,rfl,fun a hF=>?_⟩;replace hS:=((hW.del 0 rfl).del 0 rfl);refine⟨hS,?_⟩;refine dv 11 rfl hF hS (y_move hF rfl) fun a hF=>dv 12 rfl hF hS (y_extract hF rfl rfl) fun a hF=>dv 13 rfl hF hS (y_extract hF rfl rfl) fun a hF=>d_1 14 Kr ?_;refine d_op rfl rfl (e_alloc hF hW ze_42 rfl rfl rfl ?_);intro b13 a wc hF hW;replace hS:=(((hW.del 0 rfl).del 0 rfl).del 0 rfl);refine⟨hS,?_⟩;refine d_1 16 Kr ?_;refine d_op rfl rfl (e_storeAll rfl hF hW rfl rfl 0 rfl rfl rfl Kr sz_42 ?_);intro wc hW;replace hS:=(((hW.del 0 rfl).del 0 rfl).del 0 rfl);refine⟨hS,?_⟩;refine d_1 17 Kr ?_;refine d_op rfl rfl (e_storeAll rfl hF hW rfl rfl 2 rfl rfl rfl Kr sz_90 ?_);intro wc hW;replace hS:=(((hW.del 0 rfl).del 0 rfl).del 0 rfl);refine⟨hS,?_⟩;clear hS;refine d_nil Kr ?_;replace hF:=hF.ks [0,1,2,3,4,5,6,7,8] rfl;replace hW:=hW.front 9 rfl rfl;replace hW:=hW.front 9 rfl rfl;replace hW:=hW.front 9 rfl rfl;replace hW:=hW.front 9 rfl rfl;replace hW:=hW.front 9 rfl rfl;replace hW:=hW.front 9 rfl rfl;replace hW:=hW.front 9 rfl rfl;replace hW:=hW.front 9 rfl rfl;replace hW:=hW.front 8 rfl rfl;replace hW:=hW.front 9 rfl rfl;refine t_n ?_;refine⟨(b13,b12,A1,n1),?_,?_,?_⟩
     ·exact Fr.app (Fr.cons hF (t:=7) rfl rfl (Fr.cons hF (t:=8) rfl rfl (Fr.nil hF))) (hF.ks [0,1,2,3,4,5,6] rfl)
     ·exact hW
     ·trivial
    ·refine d_op rfl rfl (e_alloc hF hW ze_42 rfl rfl rfl ?_);intro b14 a wc hF hW;replace hS:=((hW.del 0 rfl).del 0 rfl);refine⟨hS,?_⟩;refine d_1 10 Kr ?_;refine d_op rfl rfl (e_call hF rfl rfl en_39 Rl rfl rfl (hstep _ hW.below (hcat.below hW.below)) ?_);rintro e w1 ⟨A1,n1,rfl,hr1,hb⟩;replace hW:=hW.gotR hb hr1;refine⟨_,rfl,fun a hF=>?_⟩;replace hS:=(((hW.del 0 rfl).del 0 rfl).del 0 rfl);refine⟨hS,?_⟩;refine dv 11 rfl hF hS (y_move hF rfl) fun a hF=>dv 12 rfl hF hS (y_extract hF rfl rfl) fun a hF=>dv 13 rfl hF hS (y_extract hF rfl rfl) fun a hF=>d_1 16 Kr ?_;refine d_op rfl rfl (e_storeAll rfl hF hW rfl rfl 1 rfl rfl rfl Kr sz_42 ?_);intro wc hW;replace hS:=(((hW.del 0 rfl).del 0 rfl).del 0 rfl);refine⟨hS,?_⟩;refine d_1 17 Kr ?_;refine d_op rfl rfl (e_storeAll rfl hF hW rfl rfl 2 rfl rfl rfl Kr sz_90 ?_);intro wc hW;replace hS:=(((hW.del 0 rfl).del 0 rfl).del 0 rfl);refine⟨hS,?_⟩;clear hS;refine d_nil Kr ?_;replace hF:=hF.ks [0,1,2,3,4,5,6,7,8] rfl;refine t_n ?_;refine⟨(b14,b12,A1,n1),?_,?_,?_⟩
     ·exact Fr.app (Fr.cons hF (t:=7) rfl rfl (Fr.cons hF (t:=8) rfl rfl (Fr.nil hF))) (hF.ks [0,1,2,3,4,5,6] rfl)
     ·exact hW
     ·trivial
  ·clear hF hW
   try clear a
   intro gq a wc hC hF hW
   obtain⟨b6,b7,A1,n1⟩:=gq
   dsimp only at hC
   clear hC;refine c_s<|c_sr<|pv hF hW (y_fieldOwn hF rfl fa_90_0) fun a hF=>pv hF hW (y_loadOwn hF rfl 2 rfl rfl Tryz.underlying3 rfl) fun a hF=>pv hF hW (y_neq hF rfl rfl) fun a hF=>?_;replace hF:=hF.ff;refine l_nil ?_;replace hF:=hF.ks [0,1,2,3,4,5,6,7,8,34] rfl;refine t_n<|c_f hF rfl<|wp_skip<|t_n<|c_sr<|pv hF hW (y_fieldOwn hF rfl fa_30_1) fun a hF=>pv hF hW (y_loadOwn hF rfl 3 rfl rfl Tryz.underlying27 rfl) fun a hF=>pv hF hW (y_move hF rfl) fun a hF=>pv hF hW (y_loadAll hF rfl 1 rfl Tryz.underlying42 rfl sz_42) fun a hF=>pv hF hW (y_indexOwnS hF rfl rfl Od Tryz.underlying27 sz_42) fun a hF=>?_;refine pe (e_storeMid rfl hF hW rfl rfl 4 rfl (by show _+16≤_;omega) Kr sz_42 ?_);intro wc hW;refine l_nil ?_;replace hF:=hF.ks [0,1,2,3,4,5,6,7,8,34] rfl;refine t_n<|c_sr<|pv hF hW (y_fieldOwn hF rfl fa_30_0) fun a hF=>pv hF hW (y_loadOwn hF rfl 8 rfl rfl Tryz.underlying3 rfl) fun a hF=>pv hF hW (y_add hF rfl rfl (IntWalk.i64_in _ Om)) fun a hF=>pv hF hW (y_fieldOwn hF rfl fa_30_0) fun a hF=>?_;refine pe (e_store rfl hF hW rfl rfl 3 rfl rfl rfl sz_3 ?_);intro wc hW;skip;refine l_nil ?_;replace hF:=hF.ks [0,1,2,3,4,5,6,7,8,34] rfl;refine t_n<|c_sr<|pv hF hW (y_loadAll hF rfl 3 rfl Tryz.underlying30 rfl sz_30) fun a hF=>?_;refine pe (e_storeAll rfl hF hW rfl rfl 7 rfl rfl Rl Kr sz_30 ?_);intro wc hW;skip;refine l_nil ?_;replace hF:=hF.ks [0,1,2,3,4,5,6,7,8,34] rfl;refine t_n<|wp_ret<|ret1 Tryz.results14 hF (rv_c hF rfl hW 7 rfl Tryz.underlying30 rfl sz_30) ?_;replace hW:=hW.del 1 rfl;replace hW:=hW.del 1 rfl;replace hW:=hW.del 5 rfl;replace hW:=hW.del 5 rfl;replace hW:=hW.del 5 rfl;replace hW:=hW.front 3 rfl rfl;replace hW:=hW.front 3 rfl rfl;replace hW:=hW.front 3 rfl rfl;replace hW:=hW.front 3 rfl rfl;replace hW:=hW.front 4 rfl rfl
   obtain⟨y',hy',hWy⟩:=step_endZ (q:=CD.mk _ hwf1 A1 n1) (t:=y.tick+1) hW rfl rfl hpv htk hll hnc hcm rfl;subst hy';exact⟨_,by(simp only[WD.val,List.length_set];rfl),wrl_setZ (q:=CD.mk _ hwf1 A1 n1) hvc hvm (hstP rfl),hWy.del 0 rfl⟩
 ·obtain⟨kk,ch,rg,fl,vl⟩:=k1
  have hc0:=hw.c0
  have hc1:=hw.c1
  have hkk:=hw.kind
  dsimp only at hc0 hc1 hkk
  obtain⟨ch,rfl⟩:=Int.eq_ofNat_of_zero_le hc0
  have hch:ch<x.chans.length:=by simpa[SysD.sys] using hc1
  have hchl:ch<y.lines.length:=by omega
  have hkd:(x.chans.getD ch C0).kind=1∨(x.chans.getD ch C0).kind=2:=kind_ok hk (k:=ch) (by simpa[SysD.sys] using hch)
  have hl0:=hlr ch hchl
  have hlat:=hy.line hchl
  obtain⟨z,hlz⟩:∃q,y.lines.getD ch LD0=q:=⟨_,rfl⟩
  rw[hlz] at hlat hl0
  obtain⟨lv,lqa,lqk⟩:=z
  dsimp only at hl0
  have hr0:=replyErr_ok hfine hw hkd
  simp only[Int.toNat_natCast,SysD.sys,getD_mapL,hlz] at hstQ
  rcases hkk with⟨rfl,rfl⟩|⟨rfl,rfl⟩
  ·obtain⟨l2,pb,hput,-⟩:=putOf_ok (x:=vl) hl0
   obtain⟨kw,hkw⟩:∃k:Wnt,⟨12,ch,rg,0,vl⟩=k:=⟨_,rfl⟩
   obtain⟨vw,hvw⟩:∃v:Int,0=v:=⟨_,rfl⟩
   have hwf2:=replyOf_wf (k:=kw) (kind:=(x.chans.getD ch C0).kind) (val:=vw) (is:=pb) hwf1
   obtain⟨c2,hc2⟩:∃c,replyOf ⟨an,[p0,p1,p2,p3],[q0,q1,q2,q3,q4,q5,q6,q7],dn,on,en1⟩ kw (x.chans.getD ch C0).kind vw pb=c:=⟨_,rfl⟩
   have hrepc:=fun A n=>hrep (x.chans.getD ch C0).kind vw pb hr0 A n c2 (hkw▸hc2)
   rw[hc2] at hwf2
   obtain⟨ae,rm,mm,de,oe,ee⟩:=c2
   obtain⟨u0,u1,u2,u3,hregs⟩:=len_four hwf2.1
   obtain⟨v0,v1,v2,v3,v4,v5,v6,v7,hmem⟩:=len_eight hwf2.2
   dsimp only at hregs hmem
   subst hregs hmem
   simp only[celV_eq] at hstep hrepc
   subst hkw hvw
   have hputc:=fun u (h:LD.At ⟨lv,lqa,lqk⟩ u)=>putRZ h hl0 hput
   have hq2:=hstQ (⟨ae,[u0,u1,u2,u3],[v0,v1,v2,v3,v4,v5,v6,v7],de,oe,ee⟩,l2) Dc (by unfold chanOf;rw[if_pos rfl,hput,hc2])
   refine enter Tryz.func14 rfl Tryz.ntmps14 rfl fun a hF=>?_
   have hW:=Wd.start w NoB
   refine c_sr ?_;refine pe (e_box hF hW rfl rfl rfl rfl ?_);intro b1 a wc hF hW;refine pe (e_box hF hW rfl rfl rfl rfl ?_);intro b2 a wc hF hW;refine pe (e_alloc hF hW ze_30 rfl rfl rfl ?_);intro b3 a wc hF hW;refine l_nil<|t_n<|c_sr<|pv hF hW (y_loadAll hF rfl 1 rfl Tryz.underlying30 rfl sz_30) fun a hF=>?_;refine pe (e_call hF rfl rfl en_7 Rl rfl rfl (hown _ hW.below) ?_);rintro e w1 ⟨v,rfl,hv,hN⟩
   have hvl:v.cells.length=y.cells.length:=(by have:=congrArg (fun r=>r.cells.length) hv;simpa[WD.wrl] using this)
   have hvl2:v.lines.length=y.lines.length:=(by have:=congrArg (fun r=>r.lines.length) hv;simpa[WD.wrl] using this)
   have hvc:v.cells.map CD.c=y.cells.map CD.c:=congrArg Wrl.cells hv
   have hvm:v.lines.map LD.vals=y.lines.map LD.vals:=congrArg Wrl.lines hv
   clear hv;replace hW:=hW.comb3 hN
   obtain⟨vt,vcells,vca,vcc,vlines,vla,vlc⟩:=v
   dsimp only at hvl hvl2 hvc hvm
   obtain⟨bc,cc,lc,hcv,hnc,hcm,hll,htk,hW'⟩:=hW.row_whole 0 rfl (show 0<vcells.length by omega)
   replace hW:=hW';clear hW'
   simp only[Value.slice.injEq] at hcv
   obtain⟨rfl,-,rfl⟩:=hcv
   dsimp only at hnc hll htk
   have hpv:p<vcells.length:=Om
   have hchv:ch<vlines.length:=Om;obtain⟨bl,lcap2,ll,hlv,hnl,hlm,hlll,hltk,hW'⟩:=hW.row_whole 1 rfl (show 0<vlines.length by omega);replace hW:=hW';clear hW';simp only[Value.slice.injEq] at hlv;obtain⟨rfl,-,rfl⟩:=hlv;dsimp only at hnl hlll hltk
   refine⟨_,rfl,fun a hF=>?_⟩;replace hF:=Fr.cast (v':=.agg #[.int .i64 vt,.slice (some ⟨bc,0,none⟩) vcells.length vcc,.slice (some ⟨bl,0,none⟩) vlines.length vlc]) rfl hF;refine pe (e_alloc hF hW ze_30 rfl rfl rfl ?_);intro b4 a wc hF hW;refine pe (e_storeAll rfl hF hW rfl rfl 0 rfl rfl rfl Kr sz_30 ?_);intro wc hW;refine l_nil ?_;replace hF:=hF.ks [0,1,2,3,4,5] rfl;refine t_n<|c_sr<|pv hF hW (y_loadAll hF rfl 6 rfl Tryz.underlying26 rfl sz_26) fun a hF=>pv hF hW (y_fieldOwn hF rfl fa_30_0) fun a hF=>pv hF hW (y_loadOwn hF rfl 5 rfl rfl Tryz.underlying3 rfl) fun a hF=>?_;refine pe (e_call hF rfl rfl en_38 Rl rfl rfl (hwho _ hW.below) ?_);rintro e w1 ⟨rfl,hb⟩;replace hW:=hW.kept hb;clear hb;refine⟨_,rfl,fun a hF=>?_⟩;refine pv hF hW (y_assign hF rfl) fun a hF=>l_nil ?_;replace hF:=hF.ks [0,1,2,3,4,5,6] rfl;refine t_n ?_;refine c_cut (G:=Nat×Nat×Option Addr×Nat) (fun(gq:Nat×Nat×Option Addr×Nat)=>match gq with|⟨b6,b7,A1,n1⟩=>[(7,.pointer (some ⟨b6,0,none⟩)),(8,.pointer (some ⟨b7,0,none⟩))]) (fun(gq:Nat×Nat×Option Addr×Nat)=>match gq with|⟨b6,b7,A1,n1⟩=>[.res (fun u=>OwnInts u 0 (.slice A1 on.length n1) on),.blk b6 42 [.int .i64 an,.int .i64 p0,.int .i64 p1,.int .i64 p2,.int .i64 p3,.int .i64 q0,.int .i64 q1,.int .i64 q2,.int .i64 q3,.int .i64 q4,.int .i64 q5,.int .i64 q6,.int .i64 q7,.int .i64 dn,.slice A1 on.length n1,.int .i64 en1],.blk b7 90 [.int .i64 12,.int .i64 (ch:Int),.int .i64 rg,.int .i64 0,.int .i64 vl]]) (fun(gq:Nat×Nat×Option Addr×Nat)=>match gq with|⟨b6,b7,A1,n1⟩=>True) (hF.ks [0,1,2,3,4,5,6] rfl) hW ?_ ?_
   ·refine c_d mixed_ok hW (hW) ?_
    clear hW;intro wc hW hS
    refine dv 0 rfl hF hS (y_fieldOwn hF rfl fa_26_0) fun a hF=>dv 1 rfl hF hS (y_loadOwn hF rfl 6 rfl rfl Tryz.underlying22 rfl) fun a hF=>dv 2 rfl hF hS (y_move hF rfl) fun a hF=>dv 3 rfl hF hS (y_indexS hF rfl rfl Od Tryz.underlying22 sz_49 (fun w h=>(hx.partsR).wd h)) fun a hF=>dv 4 rfl hF hS (y_loadRowW hF rfl (fun w h=>(hx.partsR).wd h) Od Tryz.underlying49 rfl sz_49) fun a hF=>dv 5 rfl hF hS (y_fieldOwn hF rfl fa_30_1) fun a hF=>dv 6 rfl hF hS (y_loadOwn hF rfl 5 rfl rfl Tryz.underlying27 rfl) fun a hF=>dv 7 rfl hF hS (y_move hF rfl) fun a hF=>dv 8 rfl hF hS (y_indexS hF rfl rfl Od Tryz.underlying27 sz_42 (fun w h=>(hy.cellsR).wd h)) fun a hF=>dv 9 rfl hF hS (y_loadRowW hF rfl (fun w h=>(hy.cellsR).wd h) Od Tryz.underlying42 rfl (by rw[hq];exact sz_42)) fun a hF=>?_;replace hF:=Fr.cast (v':=.agg #[.int .i64 at_,.int .i64 r0,.int .i64 r1,.int .i64 r2,.int .i64 r3,.int .i64 m0,.int .i64 m1,.int .i64 m2,.int .i64 m3,.int .i64 m4,.int .i64 m5,.int .i64 m6,.int .i64 m7,.int .i64 rd,.slice qa out.length qk,.int .i64 en]) (by rw[hq];rfl) hF;refine d_3 10 14 15 Kr ?_ ?_ ?_
    ·refine d_op rfl rfl (e_call hF rfl rfl en_39 Rl rfl rfl (hstep _ hW.below (hcat.below hW.below)) ?_);rintro e w1 ⟨A1,n1,rfl,hr1,hb⟩;replace hW:=hW.gotR hb hr1;refine⟨_,rfl,fun a hF=>?_⟩;replace hS:=(hW.del 0 rfl);refine⟨hS,?_⟩;refine dv 11 rfl hF hS (y_move hF rfl) fun a hF=>dv 12 rfl hF hS (y_extract hF rfl rfl) fun a hF=>dv 13 rfl hF hS (y_extract hF rfl rfl) fun a hF=>?_;refine d_2 14 15 Kr ?_ ?_
     ·refine d_op rfl rfl (e_alloc hF hW ze_42 rfl rfl rfl ?_);intro b5 a wc hF hW;replace hS:=((hW.del 0 rfl).del 0 rfl);refine⟨hS,?_⟩;refine d_1 15 Kr ?_;refine d_op rfl rfl (e_alloc hF hW ze_90 rfl rfl rfl ?_);intro b6 a wc hF hW;replace hS:=(((hW.del 0 rfl).del 0 rfl).del 0 rfl);refine⟨hS,?_⟩;refine d_1 16 Kr ?_;refine d_op rfl rfl (e_storeAll rfl hF hW rfl rfl 1 rfl rfl rfl Kr sz_42 ?_);intro wc hW;replace hS:=(((hW.del 0 rfl).del 0 rfl).del 0 rfl);refine⟨hS,?_⟩;refine d_1 17 Kr ?_;refine d_op rfl rfl (e_storeAll rfl hF hW rfl rfl 0 rfl rfl rfl Kr sz_90 ?_);intro wc hW;replace hS:=(((hW.del 0 rfl).del 0 rfl).del 0 rfl);refine⟨hS,?_⟩;clear hS;refine d_nil Kr ?_;replace hF:=hF.ks [0,1,2,3,4,5,6,7,8] rfl;replace hW:=hW.front 9 rfl rfl;replace hW:=hW.front 9 rfl rfl;replace hW:=hW.front 9 rfl rfl;replace hW:=hW.front 9 rfl rfl;replace hW:=hW.front 9 rfl rfl;replace hW:=hW.front 9 rfl rfl;replace hW:=hW.front 9 rfl rfl;replace hW:=hW.front 7 rfl rfl;replace hW:=hW.front 8 rfl rfl;replace hW:=hW.front 9 rfl rfl;refine t_n ?_;refine⟨(b5,b6,A1,n1),?_,?_,?_⟩
      ·exact Fr.app (Fr.cons hF (t:=7) rfl rfl (Fr.cons hF (t:=8) rfl rfl (Fr.nil hF))) (hF.ks [0,1,2,3,4,5,6] rfl)
      ·exact hW
      ·trivial
     ·refine d_op rfl rfl (e_alloc hF hW ze_90 rfl rfl rfl ?_);intro b7 a wc hF hW;replace hS:=((hW.del 0 rfl).del 0 rfl);refine⟨hS,?_⟩;refine d_1 14 Kr ?_;refine d_op rfl rfl (e_alloc hF hW ze_42 rfl rfl rfl ?_);intro b8 a wc hF hW;replace hS:=(((hW.del 0 rfl).del 0 rfl).del 0 rfl);refine⟨hS,?_⟩;refine d_1 16 Kr ?_;refine d_op rfl rfl (e_storeAll rfl hF hW rfl rfl 0 rfl rfl rfl Kr sz_42 ?_);intro wc hW;replace hS:=(((hW.del 0 rfl).del 0 rfl).del 0 rfl);refine⟨hS,?_⟩;refine d_1 17 Kr ?_;refine d_op rfl rfl (e_storeAll rfl hF hW rfl rfl 1 rfl rfl rfl Kr sz_90 ?_);intro wc hW;replace hS:=(((hW.del 0 rfl).del 0 rfl).del 0 rfl);refine⟨hS,?_⟩;clear hS;refine d_nil Kr ?_;replace hF:=hF.ks [0,1,2,3,4,5,6,7,8] rfl;replace hW:=hW.front 9 rfl rfl;replace hW:=hW.front 9 rfl rfl;replace hW:=hW.front 9 rfl rfl;replace hW:=hW.front 9 rfl rfl;replace hW:=hW.front 9 rfl rfl;replace hW:=hW.front 9 rfl rfl;replace hW:=hW.front 9 rfl rfl;replace hW:=hW.front 8 rfl rfl;replace hW:=hW.front 8 rfl rfl;replace hW:=hW.front 9 rfl rfl;refine t_n ?_;refine⟨(b8,b7,A1,n1),?_,?_,?_⟩
      ·exact Fr.app (Fr.cons hF (t:=7) rfl rfl (Fr.cons hF (t:=8) rfl rfl (Fr.nil hF))) (hF.ks [0,1,2,3,4,5,6] rfl)
      ·exact hW
      ·trivial
    ·refine d_op rfl rfl (e_alloc hF hW ze_42 rfl rfl rfl ?_);intro b9 a wc hF hW;replace hS:=(hW.del 0 rfl);refine⟨hS,?_⟩;refine d_2 10 15 Kr ?_ ?_
     ·refine d_op rfl rfl (e_call hF rfl rfl en_39 Rl rfl rfl (hstep _ hW.below (hcat.below hW.below)) ?_);rintro e w1 ⟨A1,n1,rfl,hr1,hb⟩;replace hW:=hW.gotR hb hr1;refine⟨_,rfl,fun a hF=>?_⟩;replace hS:=((hW.del 0 rfl).del 0 rfl);refine⟨hS,?_⟩;refine dv 11 rfl hF hS (y_move hF rfl) fun a hF=>dv 12 rfl hF hS (y_extract hF rfl rfl) fun a hF=>dv 13 rfl hF hS (y_extract hF rfl rfl) fun a hF=>d_1 15 Kr ?_;refine d_op rfl rfl (e_alloc hF hW ze_90 rfl rfl rfl ?_);intro b10 a wc hF hW;replace hS:=(((hW.del 0 rfl).del 0 rfl).del 0 rfl);refine⟨hS,?_⟩;refine d_1 16 Kr ?_;refine d_op rfl rfl (e_storeAll rfl hF hW rfl rfl 2 rfl rfl rfl Kr sz_42 ?_);intro wc hW;replace hS:=(((hW.del 0 rfl).del 0 rfl).del 0 rfl);refine⟨hS,?_⟩;refine d_1 17 Kr ?_;refine d_op rfl rfl (e_storeAll rfl hF hW rfl rfl 0 rfl rfl rfl Kr sz_90 ?_);intro wc hW;replace hS:=(((hW.del 0 rfl).del 0 rfl).del 0 rfl);refine⟨hS,?_⟩;clear hS;refine d_nil Kr ?_;replace hF:=hF.ks [0,1,2,3,4,5,6,7,8] rfl;replace hW:=hW.front 9 rfl rfl;replace hW:=hW.front 9 rfl rfl;replace hW:=hW.front 9 rfl rfl;replace hW:=hW.front 9 rfl rfl;replace hW:=hW.front 9 rfl rfl;replace hW:=hW.front 9 rfl rfl;replace hW:=hW.front 9 rfl rfl;replace hW:=hW.front 7 rfl rfl;replace hW:=hW.front 9 rfl rfl;replace hW:=hW.front 9 rfl rfl;refine t_n ?_;refine⟨(b9,b10,A1,n1),?_,?_,?_⟩
      ·exact Fr.app (Fr.cons hF (t:=7) rfl rfl (Fr.cons hF (t:=8) rfl rfl (Fr.nil hF))) (hF.ks [0,1,2,3,4,5,6] rfl)
      ·exact hW
      ·trivial
     ·refine d_op rfl rfl (e_alloc hF hW ze_90 rfl rfl rfl ?_);intro b11 a wc hF hW;replace hS:=((hW.del 0 rfl).del 0 rfl);refine⟨hS,?_⟩;refine d_1 10 Kr ?_;refine d_op rfl rfl (e_call hF rfl rfl en_39 Rl rfl rfl (hstep _ hW.below (hcat.below hW.below)) ?_);rintro e w1 ⟨A1,n1,rfl,hr1,hb⟩;replace hW:=hW.gotR hb hr1;refine⟨_,rfl,fun a hF=>?_⟩;replace hS:=(((hW.del 0 rfl).del 0 rfl).del 0 rfl);refine⟨hS,?_⟩;refine dv 11 rfl hF hS (y_move hF rfl) fun a hF=>dv 12 rfl hF hS (y_extract hF rfl rfl) fun a hF=>dv 13 rfl hF hS (y_extract hF rfl rfl) fun a hF=>d_1 16 Kr ?_;refine d_op rfl rfl (e_storeAll rfl hF hW rfl rfl 2 rfl rfl rfl Kr sz_42 ?_);intro wc hW;replace hS:=(((hW.del 0 rfl).del 0 rfl).del 0 rfl);refine⟨hS,?_⟩;refine d_1 17 Kr ?_;refine d_op rfl rfl (e_storeAll rfl hF hW rfl rfl 1 rfl rfl rfl Kr sz_90 ?_);intro wc hW;replace hS:=(((hW.del 0 rfl).del 0 rfl).del 0 rfl);refine⟨hS,?_⟩;clear hS;refine d_nil Kr ?_;replace hF:=hF.ks [0,1,2,3,4,5,6,7,8] rfl;replace hW:=hW.front 9 rfl rfl;replace hW:=hW.front 9 rfl rfl;replace hW:=hW.front 9 rfl rfl;replace hW:=hW.front 9 rfl rfl;replace hW:=hW.front 9 rfl rfl;replace hW:=hW.front 9 rfl rfl;replace hW:=hW.front 9 rfl rfl;replace hW:=hW.front 8 rfl rfl;replace hW:=hW.front 9 rfl rfl;replace hW:=hW.front 9 rfl rfl;refine t_n ?_;refine⟨(b9,b11,A1,n1),?_,?_,?_⟩
      ·exact Fr.app (Fr.cons hF (t:=7) rfl rfl (Fr.cons hF (t:=8) rfl rfl (Fr.nil hF))) (hF.ks [0,1,2,3,4,5,6] rfl)
      ·exact hW
      ·trivial
    ·refine d_op rfl rfl (e_alloc hF hW ze_90 rfl rfl rfl ?_);intro b12 a wc hF hW;replace hS:=(hW.del 0 rfl);refine⟨hS,?_⟩;refine d_2 10 14 Kr ?_ ?_
     ·refine d_op rfl rfl (e_call hF rfl rfl en_39 Rl rfl rfl (hstep _ hW.below (hcat.below hW.below)) ?_);rintro e w1 ⟨A1,n1,rfl,hr1,hb⟩;replace hW:=hW.gotR hb hr1;refine⟨_,rfl,fun a hF=>?_⟩;replace hS:=((hW.del 0 rfl).del 0 rfl);refine⟨hS,?_⟩;refine dv 11 rfl hF hS (y_move hF rfl) fun a hF=>dv 12 rfl hF hS (y_extract hF rfl rfl) fun a hF=>dv 13 rfl hF hS (y_extract hF rfl rfl) fun a hF=>d_1 14 Kr ?_;refine d_op rfl rfl (e_alloc hF hW ze_42 rfl rfl rfl ?_);intro b13 a wc hF hW;replace hS:=(((hW.del 0 rfl).del 0 rfl).del 0 rfl);refine⟨hS,?_⟩;refine d_1 16 Kr ?_;refine d_op rfl rfl (e_storeAll rfl hF hW rfl rfl 0 rfl rfl rfl Kr sz_42 ?_);intro wc hW;replace hS:=(((hW.del 0 rfl).del 0 rfl).del 0 rfl);refine⟨hS,?_⟩;refine d_1 17 Kr ?_;refine d_op rfl rfl (e_storeAll rfl hF hW rfl rfl 2 rfl rfl rfl Kr sz_90 ?_);intro wc hW;replace hS:=(((hW.del 0 rfl).del 0 rfl).del 0 rfl);refine⟨hS,?_⟩;clear hS;refine d_nil Kr ?_;replace hF:=hF.ks [0,1,2,3,4,5,6,7,8] rfl;replace hW:=hW.front 9 rfl rfl;replace hW:=hW.front 9 rfl rfl;replace hW:=hW.front 9 rfl rfl;replace hW:=hW.front 9 rfl rfl;replace hW:=hW.front 9 rfl rfl;replace hW:=hW.front 9 rfl rfl;replace hW:=hW.front 9 rfl rfl;replace hW:=hW.front 9 rfl rfl;replace hW:=hW.front 8 rfl rfl;replace hW:=hW.front 9 rfl rfl;refine t_n ?_;refine⟨(b13,b12,A1,n1),?_,?_,?_⟩
      ·exact Fr.app (Fr.cons hF (t:=7) rfl rfl (Fr.cons hF (t:=8) rfl rfl (Fr.nil hF))) (hF.ks [0,1,2,3,4,5,6] rfl)
      ·exact hW
      ·trivial
     ·refine d_op rfl rfl (e_alloc hF hW ze_42 rfl rfl rfl ?_);intro b14 a wc hF hW;replace hS:=((hW.del 0 rfl).del 0 rfl);refine⟨hS,?_⟩;refine d_1 10 Kr ?_;refine d_op rfl rfl (e_call hF rfl rfl en_39 Rl rfl rfl (hstep _ hW.below (hcat.below hW.below)) ?_);rintro e w1 ⟨A1,n1,rfl,hr1,hb⟩;replace hW:=hW.gotR hb hr1;refine⟨_,rfl,fun a hF=>?_⟩;replace hS:=(((hW.del 0 rfl).del 0 rfl).del 0 rfl);refine⟨hS,?_⟩;refine dv 11 rfl hF hS (y_move hF rfl) fun a hF=>dv 12 rfl hF hS (y_extract hF rfl rfl) fun a hF=>dv 13 rfl hF hS (y_extract hF rfl rfl) fun a hF=>d_1 16 Kr ?_;refine d_op rfl rfl (e_storeAll rfl hF hW rfl rfl 1 rfl rfl rfl Kr sz_42 ?_);intro wc hW;replace hS:=(((hW.del 0 rfl).del 0 rfl).del 0 rfl);refine⟨hS,?_⟩;refine d_1 17 Kr ?_;refine d_op rfl rfl (e_storeAll rfl hF hW rfl rfl 2 rfl rfl rfl Kr sz_90 ?_);intro wc hW;replace hS:=(((hW.del 0 rfl).del 0 rfl).del 0 rfl);refine⟨hS,?_⟩;clear hS;refine d_nil Kr ?_;replace hF:=hF.ks [0,1,2,3,4,5,6,7,8] rfl;refine t_n ?_;refine⟨(b14,b12,A1,n1),?_,?_,?_⟩
      ·exact Fr.app (Fr.cons hF (t:=7) rfl rfl (Fr.cons hF (t:=8) rfl rfl (Fr.nil hF))) (hF.ks [0,1,2,3,4,5,6] rfl)
      ·exact hW
      ·trivial
   ·clear hF hW
    try clear a
    intro gq a wc hC hF hW
    obtain⟨b6,b7,A1,n1⟩:=gq
    dsimp only at hC
    clear hC;refine c_s<|c_sr<|pv hF hW (y_fieldOwn hF rfl fa_90_0) fun a hF=>pv hF hW (y_loadOwn hF rfl 2 rfl rfl Tryz.underlying3 rfl) fun a hF=>pv hF hW (y_neq hF rfl rfl) fun a hF=>?_;replace hF:=hF.tt;refine l_nil ?_;replace hF:=hF.ks [0,1,2,3,4,5,6,7,8,34] rfl;refine t_n<|c_t hF rfl<|c_sr<|pv hF hW (y_fieldOwn hF rfl fa_26_1) fun a hF=>pv hF hW (y_loadOwn hF rfl 9 rfl rfl Tryz.underlying23 rfl) fun a hF=>pv hF hW (y_fieldOwn hF rfl fa_90_1) fun a hF=>pv hF hW (y_loadOwn hF rfl 2 rfl rfl Tryz.underlying3 rfl) fun a hF=>pv hF hW (y_indexS hF rfl rfl Od Tryz.underlying23 sz_67 (fun w h=>(hx.chansR).wd h)) fun a hF=>pv hF hW (y_fieldRow hF rfl fa_67_0) fun a hF=>pv hF hW (y_loadRow hF rfl (fun w h=>(hx.chansR).wd h) Od rfl Tryz.underlying3 rfl) fun a hF=>pv hF hW (y_assign hF rfl) fun a hF=>l_nil ?_;replace hF:=hF.ks [0,1,2,3,4,5,6,7,8,9,34] rfl;refine t_n<|c_sr<|pv hF hW (y_assign hF rfl) fun a hF=>pv hF hW (y_assign hF rfl) fun a hF=>l_nil<|t_n<|c_s<|c_sr<|pv hF hW (y_fieldOwn hF rfl fa_90_0) fun a hF=>pv hF hW (y_loadOwn hF rfl 2 rfl rfl Tryz.underlying3 rfl) fun a hF=>pv hF hW (y_eql hF rfl rfl) fun a hF=>?_;replace hF:=hF.tt;refine l_nil ?_;replace hF:=hF.ks [0,1,2,3,4,5,6,7,8,9,10,11,34,44] rfl;refine t_n<|c_t hF rfl<|c_d mixed_ok hW ((hW.del 5 rfl)) ?_
    clear hW;intro wc hW hS
    refine dv 0 rfl hF hS (y_fieldOwn hF rfl fa_30_2) fun a hF=>dv 1 rfl hF hS (y_loadOwn hF rfl 3 rfl rfl Tryz.underlying28 rfl) fun a hF=>dv 2 rfl hF hS (y_fieldOwn hF rfl fa_90_1) fun a hF=>dv 3 rfl hF hS (y_loadOwn hF rfl 2 rfl rfl Tryz.underlying3 rfl) fun a hF=>dv 4 rfl hF hS (y_move hF rfl) fun a hF=>dv 5 rfl hF hS (y_fieldOwn hF rfl fa_30_2) fun a hF=>dv 6 rfl hF hS (y_loadOwn hF rfl 7 rfl rfl Tryz.underlying28 rfl) fun a hF=>dv 7 rfl hF hS (y_fieldOwn hF rfl fa_90_1) fun a hF=>dv 8 rfl hF hS (y_loadOwn hF rfl 2 rfl rfl Tryz.underlying3 rfl) fun a hF=>dv 9 rfl hF hS (y_indexS hF rfl rfl Od Tryz.underlying28 sz_44 (fun w h=>(hy.linesR).wd h)) fun a hF=>dv 10 rfl hF hS (y_loadRowW hF rfl (fun w h=>(hy.linesR).wd h) Od Tryz.underlying44 rfl (by rw[hlz];exact sz_44)) fun a hF=>?_;replace hF:=Fr.cast (v':=.agg #[.slice lqa lv.length lqk]) (by rw[hlz];rfl) hF;refine dv 11 rfl hF hS (y_fieldOwn hF rfl fa_90_4) fun a hF=>dv 12 rfl hF hS (y_loadOwn hF rfl 2 rfl rfl Tryz.underlying3 rfl) fun a hF=>d_1 13 Kr ?_;refine d_op rfl rfl (e_call hF rfl rfl en_40 Rl rfl rfl (hputc _ (hlat.below hW.below)) ?_);rintro e w1 ⟨A3,n3,rfl,hr3,hb⟩;replace hW:=hW.gotR hb hr3;refine⟨_,rfl,fun a hF=>?_⟩;replace hS:=((hW.del 0 rfl).del 5 rfl);refine⟨hS,?_⟩;refine dv 14 rfl hF hS (y_move hF rfl) fun a hF=>dv 15 rfl hF hS (y_extract hF rfl rfl) fun a hF=>dv 16 rfl hF hS (y_extract hF rfl rfl) fun a hF=>dv 17 rfl hF hS (y_indexOwnS hF rfl rfl Od Tryz.underlying28 sz_44) fun a hF=>d_1 18 Kr ?_;refine d_op rfl rfl (e_storeMid rfl hF hW rfl rfl 6 rfl (by show _+1≤_;omega) Kr sz_44 ?_);intro wc hW;replace hS:=((hW.del 0 rfl).del 5 rfl);refine⟨hS,?_⟩;replace hF:=hF.drop 11;refine dv 19 rfl hF hS (y_assign hF rfl) fun a hF=>?_;clear hS;refine d_nil Kr ?_;replace hF:=hF.ks [0,1,2,3,4,5,6,7,8,9,10,11,34,44] rfl;refine t_n<|c_r<|pv hF hW (y_loadAll hF rfl 2 rfl Tryz.underlying42 rfl sz_42) fun a hF=>pv hF hW (y_loadAll hF rfl 3 rfl Tryz.underlying90 rfl sz_90) fun a hF=>pv hF hW (y_move hF rfl) fun a hF=>pv hF hW (y_move hF rfl) fun a hF=>pv hF hW (y_move hF rfl) fun a hF=>?_;refine pe (e_call hF rfl rfl en_42 Rl rfl rfl (hrepc _ _ _ (hW.res 1 rfl)) ?_);rintro e w1 ⟨A2,n2,rfl,hr2,hb⟩;replace hW:=hW.gotR hb hr2;refine⟨_,rfl,fun a hF=>?_⟩;refine pe (e_storeAll rfl hF hW rfl rfl 3 rfl rfl rfl Kr sz_42 ?_);intro wc hW;refine l_nil ?_;replace hF:=hF.ks [0,1,2,3,4,5,6,7,8,9,10,11,34,44] rfl;refine t_n ?_
    refine c_sr<|pv hF hW (y_fieldOwn hF rfl fa_30_1) fun a hF=>pv hF hW (y_loadOwn hF rfl 5 rfl rfl Tryz.underlying27 rfl) fun a hF=>pv hF hW (y_move hF rfl) fun a hF=>pv hF hW (y_loadAll hF rfl 3 rfl Tryz.underlying42 rfl sz_42) fun a hF=>pv hF hW (y_indexOwnS hF rfl rfl Od Tryz.underlying27 sz_42) fun a hF=>?_;refine pe (e_storeMid rfl hF hW rfl rfl 6 rfl (by show _+16≤_;omega) Kr sz_42 ?_);intro wc hW;refine l_nil ?_;replace hF:=hF.ks [0,1,2,3,4,5,6,7,8,9,10,11,34,44] rfl;refine t_n<|c_sr<|pv hF hW (y_fieldOwn hF rfl fa_30_0) fun a hF=>pv hF hW (y_loadOwn hF rfl 10 rfl rfl Tryz.underlying3 rfl) fun a hF=>pv hF hW (y_add hF rfl rfl (IntWalk.i64_in _ Om)) fun a hF=>pv hF hW (y_fieldOwn hF rfl fa_30_0) fun a hF=>?_;refine pe (e_store rfl hF hW rfl rfl 5 rfl rfl rfl sz_3 ?_);intro wc hW;skip;refine l_nil ?_;replace hF:=hF.ks [0,1,2,3,4,5,6,7,8,9,10,11,34,44] rfl;refine t_n<|c_sr<|pv hF hW (y_loadAll hF rfl 5 rfl Tryz.underlying30 rfl sz_30) fun a hF=>?_;refine pe (e_storeAll rfl hF hW rfl rfl 9 rfl rfl Rl Kr sz_30 ?_);intro wc hW;skip;refine l_nil ?_;replace hF:=hF.ks [0,1,2,3,4,5,6,7,8,9,10,11,34,44] rfl;refine t_n<|wp_ret<|ret1 Tryz.results14 hF (rv_c hF rfl hW 9 rfl Tryz.underlying30 rfl sz_30) ?_;replace hW:=hW.del 2 rfl;replace hW:=hW.del 2 rfl;replace hW:=hW.del 2 rfl;replace hW:=hW.del 6 rfl;replace hW:=hW.del 6 rfl;replace hW:=hW.del 6 rfl;replace hW:=hW.front 4 rfl rfl;replace hW:=hW.front 4 rfl rfl;replace hW:=hW.front 4 rfl rfl;replace hW:=hW.front 4 rfl rfl;replace hW:=hW.front 4 rfl rfl;replace hW:=hW.front 5 rfl rfl
    obtain⟨y',hy',hWy⟩:=step_endL (q:=CD.mk _ hwf2 A2 n2) (z:=LD.mk l2 A3 n3) (t:=y.tick+1) hW rfl rfl rfl rfl hpv hchv htk hll hnc hcm hltk hlll hnl hlm rfl;subst hy';exact⟨_,by(simp only[WD.val,List.length_set];rfl),wrl_setL (q:=CD.mk _ hwf2 A2 n2) (z:=LD.mk l2 A3 n3) hvc hvm hq2,hWy.del 0 rfl⟩
  ·obtain⟨l2,vw,pb,hget,-⟩:=getOf_ok hl0
   obtain⟨kw,hkw⟩:∃k:Wnt,⟨13,ch,rg,fl,0⟩=k:=⟨_,rfl⟩
   have hwf2:=replyOf_wf (k:=kw) (kind:=(x.chans.getD ch C0).kind) (val:=vw) (is:=pb) hwf1
   obtain⟨c2,hc2⟩:∃c,replyOf ⟨an,[p0,p1,p2,p3],[q0,q1,q2,q3,q4,q5,q6,q7],dn,on,en1⟩ kw (x.chans.getD ch C0).kind vw pb=c:=⟨_,rfl⟩
   have hrepc:=fun A n=>hrep (x.chans.getD ch C0).kind vw pb hr0 A n c2 (hkw▸hc2)
   rw[hc2] at hwf2
   obtain⟨ae,rm,mm,de,oe,ee⟩:=c2
   obtain⟨u0,u1,u2,u3,hregs⟩:=len_four hwf2.1
   obtain⟨v0,v1,v2,v3,v4,v5,v6,v7,hmem⟩:=len_eight hwf2.2
   dsimp only at hregs hmem
   subst hregs hmem
   simp only[celV_eq] at hstep hrepc
   subst hkw
   have hgetc:=fun u (h:LD.At ⟨lv,lqa,lqk⟩ u)=>getRZ h hl0 hget
   have hq2:=hstQ (⟨ae,[u0,u1,u2,u3],[v0,v1,v2,v3,v4,v5,v6,v7],de,oe,ee⟩,l2) Dc (by unfold chanOf;rw[if_neg (by dsimp only;decide),hget,hc2])
   refine enter Tryz.func14 rfl Tryz.ntmps14 rfl fun a hF=>?_
   have hW:=Wd.start w NoB
   refine c_sr ?_;refine pe (e_box hF hW rfl rfl rfl rfl ?_);intro b1 a wc hF hW;refine pe (e_box hF hW rfl rfl rfl rfl ?_);intro b2 a wc hF hW;refine pe (e_alloc hF hW ze_30 rfl rfl rfl ?_);intro b3 a wc hF hW;refine l_nil<|t_n<|c_sr<|pv hF hW (y_loadAll hF rfl 1 rfl Tryz.underlying30 rfl sz_30) fun a hF=>?_;refine pe (e_call hF rfl rfl en_7 Rl rfl rfl (hown _ hW.below) ?_);rintro e w1 ⟨v,rfl,hv,hN⟩
   have hvl:v.cells.length=y.cells.length:=(by have:=congrArg (fun r=>r.cells.length) hv;simpa[WD.wrl] using this)
   have hvl2:v.lines.length=y.lines.length:=(by have:=congrArg (fun r=>r.lines.length) hv;simpa[WD.wrl] using this)
   have hvc:v.cells.map CD.c=y.cells.map CD.c:=congrArg Wrl.cells hv
   have hvm:v.lines.map LD.vals=y.lines.map LD.vals:=congrArg Wrl.lines hv
   clear hv;replace hW:=hW.comb3 hN
   obtain⟨vt,vcells,vca,vcc,vlines,vla,vlc⟩:=v
   dsimp only at hvl hvl2 hvc hvm
   obtain⟨bc,cc,lc,hcv,hnc,hcm,hll,htk,hW'⟩:=hW.row_whole 0 rfl (show 0<vcells.length by omega)
   replace hW:=hW';clear hW'
   simp only[Value.slice.injEq] at hcv
   obtain⟨rfl,-,rfl⟩:=hcv
   dsimp only at hnc hll htk
   have hpv:p<vcells.length:=Om
   have hchv:ch<vlines.length:=Om;obtain⟨bl,lcap2,ll,hlv,hnl,hlm,hlll,hltk,hW'⟩:=hW.row_whole 1 rfl (show 0<vlines.length by omega);replace hW:=hW';clear hW';simp only[Value.slice.injEq] at hlv;obtain⟨rfl,-,rfl⟩:=hlv;dsimp only at hnl hlll hltk
   refine⟨_,rfl,fun a hF=>?_⟩;replace hF:=Fr.cast (v':=.agg #[.int .i64 vt,.slice (some ⟨bc,0,none⟩) vcells.length vcc,.slice (some ⟨bl,0,none⟩) vlines.length vlc]) rfl hF;refine pe (e_alloc hF hW ze_30 rfl rfl rfl ?_);intro b4 a wc hF hW;refine pe (e_storeAll rfl hF hW rfl rfl 0 rfl rfl rfl Kr sz_30 ?_);intro wc hW;refine l_nil ?_;replace hF:=hF.ks [0,1,2,3,4,5] rfl;refine t_n<|c_sr<|pv hF hW (y_loadAll hF rfl 6 rfl Tryz.underlying26 rfl sz_26) fun a hF=>pv hF hW (y_fieldOwn hF rfl fa_30_0) fun a hF=>pv hF hW (y_loadOwn hF rfl 5 rfl rfl Tryz.underlying3 rfl) fun a hF=>?_;refine pe (e_call hF rfl rfl en_38 Rl rfl rfl (hwho _ hW.below) ?_);rintro e w1 ⟨rfl,hb⟩;replace hW:=hW.kept hb;clear hb;refine⟨_,rfl,fun a hF=>?_⟩;refine pv hF hW (y_assign hF rfl) fun a hF=>l_nil ?_;replace hF:=hF.ks [0,1,2,3,4,5,6] rfl;refine t_n ?_;refine c_cut (G:=Nat×Nat×Option Addr×Nat) (fun(gq:Nat×Nat×Option Addr×Nat)=>match gq with|⟨b6,b7,A1,n1⟩=>[(7,.pointer (some ⟨b6,0,none⟩)),(8,.pointer (some ⟨b7,0,none⟩))]) (fun(gq:Nat×Nat×Option Addr×Nat)=>match gq with|⟨b6,b7,A1,n1⟩=>[.res (fun u=>OwnInts u 0 (.slice A1 on.length n1) on),.blk b6 42 [.int .i64 an,.int .i64 p0,.int .i64 p1,.int .i64 p2,.int .i64 p3,.int .i64 q0,.int .i64 q1,.int .i64 q2,.int .i64 q3,.int .i64 q4,.int .i64 q5,.int .i64 q6,.int .i64 q7,.int .i64 dn,.slice A1 on.length n1,.int .i64 en1],.blk b7 90 [.int .i64 13,.int .i64 (ch:Int),.int .i64 rg,.int .i64 fl,.int .i64 0]]) (fun(gq:Nat×Nat×Option Addr×Nat)=>match gq with|⟨b6,b7,A1,n1⟩=>True) (hF.ks [0,1,2,3,4,5,6] rfl) hW ?_ ?_
   ·refine c_d mixed_ok hW (hW) ?_
    clear hW;intro wc hW hS
    refine dv 0 rfl hF hS (y_fieldOwn hF rfl fa_26_0) fun a hF=>dv 1 rfl hF hS (y_loadOwn hF rfl 6 rfl rfl Tryz.underlying22 rfl) fun a hF=>dv 2 rfl hF hS (y_move hF rfl) fun a hF=>dv 3 rfl hF hS (y_indexS hF rfl rfl Od Tryz.underlying22 sz_49 (fun w h=>(hx.partsR).wd h)) fun a hF=>dv 4 rfl hF hS (y_loadRowW hF rfl (fun w h=>(hx.partsR).wd h) Od Tryz.underlying49 rfl sz_49) fun a hF=>dv 5 rfl hF hS (y_fieldOwn hF rfl fa_30_1) fun a hF=>dv 6 rfl hF hS (y_loadOwn hF rfl 5 rfl rfl Tryz.underlying27 rfl) fun a hF=>dv 7 rfl hF hS (y_move hF rfl) fun a hF=>dv 8 rfl hF hS (y_indexS hF rfl rfl Od Tryz.underlying27 sz_42 (fun w h=>(hy.cellsR).wd h)) fun a hF=>dv 9 rfl hF hS (y_loadRowW hF rfl (fun w h=>(hy.cellsR).wd h) Od Tryz.underlying42 rfl (by rw[hq];exact sz_42)) fun a hF=>?_;replace hF:=Fr.cast (v':=.agg #[.int .i64 at_,.int .i64 r0,.int .i64 r1,.int .i64 r2,.int .i64 r3,.int .i64 m0,.int .i64 m1,.int .i64 m2,.int .i64 m3,.int .i64 m4,.int .i64 m5,.int .i64 m6,.int .i64 m7,.int .i64 rd,.slice qa out.length qk,.int .i64 en]) (by rw[hq];rfl) hF;refine d_3 10 14 15 Kr ?_ ?_ ?_
    ·refine d_op rfl rfl (e_call hF rfl rfl en_39 Rl rfl rfl (hstep _ hW.below (hcat.below hW.below)) ?_);rintro e w1 ⟨A1,n1,rfl,hr1,hb⟩;replace hW:=hW.gotR hb hr1;refine⟨_,rfl,fun a hF=>?_⟩;replace hS:=(hW.del 0 rfl);refine⟨hS,?_⟩;refine dv 11 rfl hF hS (y_move hF rfl) fun a hF=>dv 12 rfl hF hS (y_extract hF rfl rfl) fun a hF=>dv 13 rfl hF hS (y_extract hF rfl rfl) fun a hF=>?_;refine d_2 14 15 Kr ?_ ?_
     ·refine d_op rfl rfl (e_alloc hF hW ze_42 rfl rfl rfl ?_);intro b5 a wc hF hW;replace hS:=((hW.del 0 rfl).del 0 rfl);refine⟨hS,?_⟩;refine d_1 15 Kr ?_;refine d_op rfl rfl (e_alloc hF hW ze_90 rfl rfl rfl ?_);intro b6 a wc hF hW;replace hS:=(((hW.del 0 rfl).del 0 rfl).del 0 rfl);refine⟨hS,?_⟩;refine d_1 16 Kr ?_;refine d_op rfl rfl (e_storeAll rfl hF hW rfl rfl 1 rfl rfl rfl Kr sz_42 ?_);intro wc hW;replace hS:=(((hW.del 0 rfl).del 0 rfl).del 0 rfl);refine⟨hS,?_⟩;refine d_1 17 Kr ?_;refine d_op rfl rfl (e_storeAll rfl hF hW rfl rfl 0 rfl rfl rfl Kr sz_90 ?_);intro wc hW;replace hS:=(((hW.del 0 rfl).del 0 rfl).del 0 rfl);refine⟨hS,?_⟩;clear hS;refine d_nil Kr ?_;replace hF:=hF.ks [0,1,2,3,4,5,6,7,8] rfl;replace hW:=hW.front 9 rfl rfl;replace hW:=hW.front 9 rfl rfl;replace hW:=hW.front 9 rfl rfl;replace hW:=hW.front 9 rfl rfl;replace hW:=hW.front 9 rfl rfl;replace hW:=hW.front 9 rfl rfl;replace hW:=hW.front 9 rfl rfl;replace hW:=hW.front 7 rfl rfl;replace hW:=hW.front 8 rfl rfl;replace hW:=hW.front 9 rfl rfl;refine t_n ?_;refine⟨(b5,b6,A1,n1),?_,?_,?_⟩
      ·exact Fr.app (Fr.cons hF (t:=7) rfl rfl (Fr.cons hF (t:=8) rfl rfl (Fr.nil hF))) (hF.ks [0,1,2,3,4,5,6] rfl)
      ·exact hW
      ·trivial
     ·refine d_op rfl rfl (e_alloc hF hW ze_90 rfl rfl rfl ?_);intro b7 a wc hF hW;replace hS:=((hW.del 0 rfl).del 0 rfl);refine⟨hS,?_⟩;refine d_1 14 Kr ?_;refine d_op rfl rfl (e_alloc hF hW ze_42 rfl rfl rfl ?_);intro b8 a wc hF hW;replace hS:=(((hW.del 0 rfl).del 0 rfl).del 0 rfl);refine⟨hS,?_⟩;refine d_1 16 Kr ?_;refine d_op rfl rfl (e_storeAll rfl hF hW rfl rfl 0 rfl rfl rfl Kr sz_42 ?_);intro wc hW;replace hS:=(((hW.del 0 rfl).del 0 rfl).del 0 rfl);refine⟨hS,?_⟩;refine d_1 17 Kr ?_;refine d_op rfl rfl (e_storeAll rfl hF hW rfl rfl 1 rfl rfl rfl Kr sz_90 ?_);intro wc hW;replace hS:=(((hW.del 0 rfl).del 0 rfl).del 0 rfl);refine⟨hS,?_⟩;clear hS;refine d_nil Kr ?_;replace hF:=hF.ks [0,1,2,3,4,5,6,7,8] rfl;replace hW:=hW.front 9 rfl rfl;replace hW:=hW.front 9 rfl rfl;replace hW:=hW.front 9 rfl rfl;replace hW:=hW.front 9 rfl rfl;replace hW:=hW.front 9 rfl rfl;replace hW:=hW.front 9 rfl rfl;replace hW:=hW.front 9 rfl rfl;replace hW:=hW.front 8 rfl rfl;replace hW:=hW.front 8 rfl rfl;replace hW:=hW.front 9 rfl rfl;refine t_n ?_;refine⟨(b8,b7,A1,n1),?_,?_,?_⟩
      ·exact Fr.app (Fr.cons hF (t:=7) rfl rfl (Fr.cons hF (t:=8) rfl rfl (Fr.nil hF))) (hF.ks [0,1,2,3,4,5,6] rfl)
      ·exact hW
      ·trivial
    ·refine d_op rfl rfl (e_alloc hF hW ze_42 rfl rfl rfl ?_);intro b9 a wc hF hW;replace hS:=(hW.del 0 rfl);refine⟨hS,?_⟩;refine d_2 10 15 Kr ?_ ?_
     ·refine d_op rfl rfl (e_call hF rfl rfl en_39 Rl rfl rfl (hstep _ hW.below (hcat.below hW.below)) ?_);rintro e w1 ⟨A1,n1,rfl,hr1,hb⟩;replace hW:=hW.gotR hb hr1;refine⟨_,rfl,fun a hF=>?_⟩;replace hS:=((hW.del 0 rfl).del 0 rfl);refine⟨hS,?_⟩;refine dv 11 rfl hF hS (y_move hF rfl) fun a hF=>dv 12 rfl hF hS (y_extract hF rfl rfl) fun a hF=>dv 13 rfl hF hS (y_extract hF rfl rfl) fun a hF=>d_1 15 Kr ?_;refine d_op rfl rfl (e_alloc hF hW ze_90 rfl rfl rfl ?_);intro b10 a wc hF hW;replace hS:=(((hW.del 0 rfl).del 0 rfl).del 0 rfl);refine⟨hS,?_⟩;refine d_1 16 Kr ?_;refine d_op rfl rfl (e_storeAll rfl hF hW rfl rfl 2 rfl rfl rfl Kr sz_42 ?_);intro wc hW;replace hS:=(((hW.del 0 rfl).del 0 rfl).del 0 rfl);refine⟨hS,?_⟩;refine d_1 17 Kr ?_;refine d_op rfl rfl (e_storeAll rfl hF hW rfl rfl 0 rfl rfl rfl Kr sz_90 ?_);intro wc hW;replace hS:=(((hW.del 0 rfl).del 0 rfl).del 0 rfl);refine⟨hS,?_⟩;clear hS;refine d_nil Kr ?_;replace hF:=hF.ks [0,1,2,3,4,5,6,7,8] rfl;replace hW:=hW.front 9 rfl rfl;replace hW:=hW.front 9 rfl rfl;replace hW:=hW.front 9 rfl rfl;replace hW:=hW.front 9 rfl rfl;replace hW:=hW.front 9 rfl rfl;replace hW:=hW.front 9 rfl rfl;replace hW:=hW.front 9 rfl rfl;replace hW:=hW.front 7 rfl rfl;replace hW:=hW.front 9 rfl rfl;replace hW:=hW.front 9 rfl rfl;refine t_n ?_;refine⟨(b9,b10,A1,n1),?_,?_,?_⟩
      ·exact Fr.app (Fr.cons hF (t:=7) rfl rfl (Fr.cons hF (t:=8) rfl rfl (Fr.nil hF))) (hF.ks [0,1,2,3,4,5,6] rfl)
      ·exact hW
      ·trivial
     ·refine d_op rfl rfl (e_alloc hF hW ze_90 rfl rfl rfl ?_);intro b11 a wc hF hW;replace hS:=((hW.del 0 rfl).del 0 rfl);refine⟨hS,?_⟩;refine d_1 10 Kr ?_;refine d_op rfl rfl (e_call hF rfl rfl en_39 Rl rfl rfl (hstep _ hW.below (hcat.below hW.below)) ?_);rintro e w1 ⟨A1,n1,rfl,hr1,hb⟩;replace hW:=hW.gotR hb hr1;refine⟨_,rfl,fun a hF=>?_⟩;replace hS:=(((hW.del 0 rfl).del 0 rfl).del 0 rfl);refine⟨hS,?_⟩;refine dv 11 rfl hF hS (y_move hF rfl) fun a hF=>dv 12 rfl hF hS (y_extract hF rfl rfl) fun a hF=>dv 13 rfl hF hS (y_extract hF rfl rfl) fun a hF=>d_1 16 Kr ?_;refine d_op rfl rfl (e_storeAll rfl hF hW rfl rfl 2 rfl rfl rfl Kr sz_42 ?_);intro wc hW;replace hS:=(((hW.del 0 rfl).del 0 rfl).del 0 rfl);refine⟨hS,?_⟩;refine d_1 17 Kr ?_;refine d_op rfl rfl (e_storeAll rfl hF hW rfl rfl 1 rfl rfl rfl Kr sz_90 ?_);intro wc hW;replace hS:=(((hW.del 0 rfl).del 0 rfl).del 0 rfl);refine⟨hS,?_⟩;clear hS;refine d_nil Kr ?_;replace hF:=hF.ks [0,1,2,3,4,5,6,7,8] rfl;replace hW:=hW.front 9 rfl rfl;replace hW:=hW.front 9 rfl rfl;replace hW:=hW.front 9 rfl rfl;replace hW:=hW.front 9 rfl rfl;replace hW:=hW.front 9 rfl rfl;replace hW:=hW.front 9 rfl rfl;replace hW:=hW.front 9 rfl rfl;replace hW:=hW.front 8 rfl rfl;replace hW:=hW.front 9 rfl rfl;replace hW:=hW.front 9 rfl rfl;refine t_n ?_;refine⟨(b9,b11,A1,n1),?_,?_,?_⟩
      ·exact Fr.app (Fr.cons hF (t:=7) rfl rfl (Fr.cons hF (t:=8) rfl rfl (Fr.nil hF))) (hF.ks [0,1,2,3,4,5,6] rfl)
      ·exact hW
      ·trivial
    ·refine d_op rfl rfl (e_alloc hF hW ze_90 rfl rfl rfl ?_);intro b12 a wc hF hW;replace hS:=(hW.del 0 rfl);refine⟨hS,?_⟩;refine d_2 10 14 Kr ?_ ?_
     ·refine d_op rfl rfl (e_call hF rfl rfl en_39 Rl rfl rfl (hstep _ hW.below (hcat.below hW.below)) ?_);rintro e w1 ⟨A1,n1,rfl,hr1,hb⟩;replace hW:=hW.gotR hb hr1;refine⟨_,rfl,fun a hF=>?_⟩;replace hS:=((hW.del 0 rfl).del 0 rfl);refine⟨hS,?_⟩;refine dv 11 rfl hF hS (y_move hF rfl) fun a hF=>dv 12 rfl hF hS (y_extract hF rfl rfl) fun a hF=>dv 13 rfl hF hS (y_extract hF rfl rfl) fun a hF=>d_1 14 Kr ?_;refine d_op rfl rfl (e_alloc hF hW ze_42 rfl rfl rfl ?_);intro b13 a wc hF hW;replace hS:=(((hW.del 0 rfl).del 0 rfl).del 0 rfl);refine⟨hS,?_⟩;refine d_1 16 Kr ?_;refine d_op rfl rfl (e_storeAll rfl hF hW rfl rfl 0 rfl rfl rfl Kr sz_42 ?_);intro wc hW;replace hS:=(((hW.del 0 rfl).del 0 rfl).del 0 rfl);refine⟨hS,?_⟩;refine d_1 17 Kr ?_;refine d_op rfl rfl (e_storeAll rfl hF hW rfl rfl 2 rfl rfl rfl Kr sz_90 ?_);intro wc hW;replace hS:=(((hW.del 0 rfl).del 0 rfl).del 0 rfl);refine⟨hS,?_⟩;clear hS;refine d_nil Kr ?_;replace hF:=hF.ks [0,1,2,3,4,5,6,7,8] rfl;replace hW:=hW.front 9 rfl rfl;replace hW:=hW.front 9 rfl rfl;replace hW:=hW.front 9 rfl rfl;replace hW:=hW.front 9 rfl rfl;replace hW:=hW.front 9 rfl rfl;replace hW:=hW.front 9 rfl rfl;replace hW:=hW.front 9 rfl rfl;replace hW:=hW.front 9 rfl rfl;replace hW:=hW.front 8 rfl rfl;replace hW:=hW.front 9 rfl rfl;refine t_n ?_;refine⟨(b13,b12,A1,n1),?_,?_,?_⟩
      ·exact Fr.app (Fr.cons hF (t:=7) rfl rfl (Fr.cons hF (t:=8) rfl rfl (Fr.nil hF))) (hF.ks [0,1,2,3,4,5,6] rfl)
      ·exact hW
      ·trivial
     ·refine d_op rfl rfl (e_alloc hF hW ze_42 rfl rfl rfl ?_);intro b14 a wc hF hW;replace hS:=((hW.del 0 rfl).del 0 rfl);refine⟨hS,?_⟩;refine d_1 10 Kr ?_;refine d_op rfl rfl (e_call hF rfl rfl en_39 Rl rfl rfl (hstep _ hW.below (hcat.below hW.below)) ?_);rintro e w1 ⟨A1,n1,rfl,hr1,hb⟩;replace hW:=hW.gotR hb hr1;refine⟨_,rfl,fun a hF=>?_⟩;replace hS:=(((hW.del 0 rfl).del 0 rfl).del 0 rfl);refine⟨hS,?_⟩;refine dv 11 rfl hF hS (y_move hF rfl) fun a hF=>dv 12 rfl hF hS (y_extract hF rfl rfl) fun a hF=>dv 13 rfl hF hS (y_extract hF rfl rfl) fun a hF=>d_1 16 Kr ?_;refine d_op rfl rfl (e_storeAll rfl hF hW rfl rfl 1 rfl rfl rfl Kr sz_42 ?_);intro wc hW;replace hS:=(((hW.del 0 rfl).del 0 rfl).del 0 rfl);refine⟨hS,?_⟩;refine d_1 17 Kr ?_;refine d_op rfl rfl (e_storeAll rfl hF hW rfl rfl 2 rfl rfl rfl Kr sz_90 ?_);intro wc hW;replace hS:=(((hW.del 0 rfl).del 0 rfl).del 0 rfl);refine⟨hS,?_⟩;clear hS;refine d_nil Kr ?_;replace hF:=hF.ks [0,1,2,3,4,5,6,7,8] rfl;refine t_n ?_;refine⟨(b14,b12,A1,n1),?_,?_,?_⟩
      ·exact Fr.app (Fr.cons hF (t:=7) rfl rfl (Fr.cons hF (t:=8) rfl rfl (Fr.nil hF))) (hF.ks [0,1,2,3,4,5,6] rfl)
      ·exact hW
      ·trivial
   ·clear hF hW
    try clear a
    intro gq a wc hC hF hW
    obtain⟨b6,b7,A1,n1⟩:=gq
    dsimp only at hC
    clear hC;refine c_s<|c_sr<|pv hF hW (y_fieldOwn hF rfl fa_90_0) fun a hF=>pv hF hW (y_loadOwn hF rfl 2 rfl rfl Tryz.underlying3 rfl) fun a hF=>pv hF hW (y_neq hF rfl rfl) fun a hF=>?_;replace hF:=hF.tt;refine l_nil ?_;replace hF:=hF.ks [0,1,2,3,4,5,6,7,8,34] rfl;refine t_n<|c_t hF rfl<|c_sr<|pv hF hW (y_fieldOwn hF rfl fa_26_1) fun a hF=>pv hF hW (y_loadOwn hF rfl 9 rfl rfl Tryz.underlying23 rfl) fun a hF=>pv hF hW (y_fieldOwn hF rfl fa_90_1) fun a hF=>pv hF hW (y_loadOwn hF rfl 2 rfl rfl Tryz.underlying3 rfl) fun a hF=>pv hF hW (y_indexS hF rfl rfl Od Tryz.underlying23 sz_67 (fun w h=>(hx.chansR).wd h)) fun a hF=>pv hF hW (y_fieldRow hF rfl fa_67_0) fun a hF=>pv hF hW (y_loadRow hF rfl (fun w h=>(hx.chansR).wd h) Od rfl Tryz.underlying3 rfl) fun a hF=>pv hF hW (y_assign hF rfl) fun a hF=>l_nil ?_;replace hF:=hF.ks [0,1,2,3,4,5,6,7,8,9,34] rfl;refine t_n<|c_sr<|pv hF hW (y_assign hF rfl) fun a hF=>pv hF hW (y_assign hF rfl) fun a hF=>l_nil<|t_n<|c_s<|c_sr<|pv hF hW (y_fieldOwn hF rfl fa_90_0) fun a hF=>pv hF hW (y_loadOwn hF rfl 2 rfl rfl Tryz.underlying3 rfl) fun a hF=>pv hF hW (y_eql hF rfl rfl) fun a hF=>?_;replace hF:=hF.ff;refine l_nil ?_;replace hF:=hF.ks [0,1,2,3,4,5,6,7,8,9,10,11,34,44] rfl;refine t_n<|c_f hF rfl<|c_d mixed_ok hW ((hW.del 5 rfl)) ?_
    clear hW;intro wc hW hS
    refine dv 0 rfl hF hS (y_fieldOwn hF rfl fa_30_2) fun a hF=>dv 1 rfl hF hS (y_loadOwn hF rfl 3 rfl rfl Tryz.underlying28 rfl) fun a hF=>dv 2 rfl hF hS (y_fieldOwn hF rfl fa_90_1) fun a hF=>dv 3 rfl hF hS (y_loadOwn hF rfl 2 rfl rfl Tryz.underlying3 rfl) fun a hF=>dv 4 rfl hF hS (y_move hF rfl) fun a hF=>dv 5 rfl hF hS (y_fieldOwn hF rfl fa_30_2) fun a hF=>dv 6 rfl hF hS (y_loadOwn hF rfl 7 rfl rfl Tryz.underlying28 rfl) fun a hF=>dv 7 rfl hF hS (y_fieldOwn hF rfl fa_90_1) fun a hF=>dv 8 rfl hF hS (y_loadOwn hF rfl 2 rfl rfl Tryz.underlying3 rfl) fun a hF=>dv 9 rfl hF hS (y_indexS hF rfl rfl Od Tryz.underlying28 sz_44 (fun w h=>(hy.linesR).wd h)) fun a hF=>dv 10 rfl hF hS (y_loadRowW hF rfl (fun w h=>(hy.linesR).wd h) Od Tryz.underlying44 rfl (by rw[hlz];exact sz_44)) fun a hF=>?_;replace hF:=Fr.cast (v':=.agg #[.slice lqa lv.length lqk]) (by rw[hlz];rfl) hF;refine d_1 11 Kr ?_;refine d_op rfl rfl (e_call hF rfl rfl en_41 Rl rfl rfl (hgetc _ (hlat.below hW.below)) ?_);rintro e w1 ⟨A3,n3,rfl,hr3,hb⟩;replace hW:=hW.gotR hb hr3;refine⟨_,rfl,fun a hF=>?_⟩;replace hS:=((hW.del 0 rfl).del 5 rfl);refine⟨hS,?_⟩;refine dv 12 rfl hF hS (y_move hF rfl) fun a hF=>dv 13 rfl hF hS (y_extract hF rfl rfl) fun a hF=>dv 14 rfl hF hS (y_extract hF rfl rfl) fun a hF=>dv 15 rfl hF hS (y_extract hF rfl rfl) fun a hF=>dv 16 rfl hF hS (y_indexOwnS hF rfl rfl Od Tryz.underlying28 sz_44) fun a hF=>d_1 17 Kr ?_;refine d_op rfl rfl (e_storeMid rfl hF hW rfl rfl 6 rfl (by show _+1≤_;omega) Kr sz_44 ?_);intro wc hW;replace hS:=((hW.del 0 rfl).del 5 rfl);refine⟨hS,?_⟩;replace hF:=hF.drop 10;refine dv 18 rfl hF hS (y_assign hF rfl) fun a hF=>?_;replace hF:=hF.drop 11;refine dv 19 rfl hF hS (y_assign hF rfl) fun a hF=>?_;clear hS;refine d_nil Kr ?_;replace hF:=hF.ks [0,1,2,3,4,5,6,7,8,9,10,11,34,44] rfl;refine t_n<|c_r<|pv hF hW (y_loadAll hF rfl 2 rfl Tryz.underlying42 rfl sz_42) fun a hF=>pv hF hW (y_loadAll hF rfl 3 rfl Tryz.underlying90 rfl sz_90) fun a hF=>pv hF hW (y_move hF rfl) fun a hF=>pv hF hW (y_move hF rfl) fun a hF=>pv hF hW (y_move hF rfl) fun a hF=>?_;refine pe (e_call hF rfl rfl en_42 Rl rfl rfl (hrepc _ _ _ (hW.res 1 rfl)) ?_);rintro e w1 ⟨A2,n2,rfl,hr2,hb⟩;replace hW:=hW.gotR hb hr2;refine⟨_,rfl,fun a hF=>?_⟩;refine pe (e_storeAll rfl hF hW rfl rfl 3 rfl rfl rfl Kr sz_42 ?_);intro wc hW;refine l_nil ?_;replace hF:=hF.ks [0,1,2,3,4,5,6,7,8,9,10,11,34,44] rfl;refine t_n<|c_sr ?_
    refine pv hF hW (y_fieldOwn hF rfl fa_30_1) fun a hF=>pv hF hW (y_loadOwn hF rfl 5 rfl rfl Tryz.underlying27 rfl) fun a hF=>pv hF hW (y_move hF rfl) fun a hF=>pv hF hW (y_loadAll hF rfl 3 rfl Tryz.underlying42 rfl sz_42) fun a hF=>pv hF hW (y_indexOwnS hF rfl rfl Od Tryz.underlying27 sz_42) fun a hF=>?_;refine pe (e_storeMid rfl hF hW rfl rfl 6 rfl (by show _+16≤_;omega) Kr sz_42 ?_);intro wc hW;refine l_nil ?_;replace hF:=hF.ks [0,1,2,3,4,5,6,7,8,9,10,11,34,44] rfl;refine t_n<|c_sr<|pv hF hW (y_fieldOwn hF rfl fa_30_0) fun a hF=>pv hF hW (y_loadOwn hF rfl 10 rfl rfl Tryz.underlying3 rfl) fun a hF=>pv hF hW (y_add hF rfl rfl (IntWalk.i64_in _ Om)) fun a hF=>pv hF hW (y_fieldOwn hF rfl fa_30_0) fun a hF=>?_;refine pe (e_store rfl hF hW rfl rfl 5 rfl rfl rfl sz_3 ?_);intro wc hW;skip;refine l_nil ?_;replace hF:=hF.ks [0,1,2,3,4,5,6,7,8,9,10,11,34,44] rfl;refine t_n<|c_sr<|pv hF hW (y_loadAll hF rfl 5 rfl Tryz.underlying30 rfl sz_30) fun a hF=>?_;refine pe (e_storeAll rfl hF hW rfl rfl 9 rfl rfl Rl Kr sz_30 ?_);intro wc hW;skip;refine l_nil ?_;replace hF:=hF.ks [0,1,2,3,4,5,6,7,8,9,10,11,34,44] rfl;refine t_n<|wp_ret<|ret1 Tryz.results14 hF (rv_c hF rfl hW 9 rfl Tryz.underlying30 rfl sz_30) ?_;replace hW:=hW.del 2 rfl;replace hW:=hW.del 2 rfl;replace hW:=hW.del 2 rfl;replace hW:=hW.del 6 rfl;replace hW:=hW.del 6 rfl;replace hW:=hW.del 6 rfl;replace hW:=hW.front 4 rfl rfl;replace hW:=hW.front 4 rfl rfl;replace hW:=hW.front 4 rfl rfl;replace hW:=hW.front 4 rfl rfl;replace hW:=hW.front 4 rfl rfl;replace hW:=hW.front 5 rfl rfl
    obtain⟨y',hy',hWy⟩:=step_endL (q:=CD.mk _ hwf2 A2 n2) (z:=LD.mk l2 A3 n3) (t:=y.tick+1) hW rfl rfl rfl rfl hpv hchv htk hll hnc hcm hltk hlll hnl hlm rfl;subst hy';exact⟨_,by(simp only[WD.val,List.length_set];rfl),wrl_setL (q:=CD.mk _ hwf2 A2 n2) (z:=LD.mk l2 A3 n3) hvc hvm hq2,hWy.del 0 rfl⟩
end Go.Proofs.YtndcjmopebcdgaaGreat
