/- cell.Step answers stepOf. cell.Step answers stepOf: where nothing is wrong. cell.Reply answers replyOf. cell.Reply answers replyOf: where nothing is wrong. Reply, whatever it is handed; a step that gives this cell. Cells and wants among a law's arguments; the cell that a step leaves is well formed. Plain laws of a cell's step: what comes is right, what was told stays told, what has not come in yet changes nothing. -/
import Derived.Test.YtndcjmopebcdgaaGreatDoorCellA
import Derived.StillTailTactics
import Derived.Test.YtndcjmopebcdgaaGreatDoorBase
import Derived.Test.YtndcjmopebcdgaaGreatDoorTys
import Derived.Test.YtndcjmopebcdgaaGreatDoorSysB
set_option linter.unusedSimpArgs false
set_option linter.unusedVariables false
namespace Go.Proofs.YtndcjmopebcdgaaGreatDoor
section
open Go.RowKit
def StepBack(w0:World)(c:Cel)(k:Wnt)(x:Int)(e:Ending)(w':World):Prop:=
 ∃ov,e=.returned (.tuple #[celV c ov,wntV k,.int .i64 x])∧c.wf∧OwnAs 3 w' w0.heap.size ov c.out∧Below w0.heap.size w0 w'
def stepErr(p:Prt)(c:Cel):Int:=if chkCode p.code≠0 then chkCode p.code else if 12<p.inp.length then 2 else if cellFine c=true∧c.read≤p.inp.length then 0 else 1
theorem Cel.zero_wf:Cel.zero.wf:=⟨rfl,rfl⟩
def zeros16:List Value:=[.int .i64 0,.int .i64 0,.int .i64 0,.int .i64 0,.int .i64 0,.int .i64 0,.int .i64 0,.int .i64 0,.int .i64 0,.int .i64 0,.int .i64 0,.int .i64 0,.int .i64 0,.int .i64 0,.slice none 0 0,.int .i64 0]
def zeros5:List Value:=[.int .i64 0,.int .i64 0,.int .i64 0,.int .i64 0,.int .i64 0]
theorem zeros16_one:zeros16.toArray.all (·.oneCell')=true:=by kernel_rfl
theorem zeros5_one:zeros5.toArray.all (·.oneCell')=true:=by kernel_rfl
theorem stepBack_err{w0 w':World}{x:Int}(hb:Below w0.heap.size w0 w'):StepBack w0 Cel.zero Wnt.zero x (.returned (.tuple #[.agg zeros16.toArray,.agg zeros5.toArray,.int .i64 x])) w':=
 ⟨_,rfl,Cel.zero_wf,OwnAs.nil_,hb⟩
theorem info_cell:(Tryz.prog.info? 75).map (·.size)=some 16:=by kernel_rfl
theorem info_want:(Tryz.prog.info? 191).map (·.size)=some 5:=by kernel_rfl
theorem cell_read{c:Cel}{ov:Value}(h:c.wf):(cellL c ov)[13]?=some (.int .i64 c.read):=by
 obtain⟨at_,regs,mem,read,out,end_⟩:=c
 obtain⟨a0,a1,a2,a3,hr⟩:=len_four h.1
 obtain⟨m0,m1,m2,m3,m4,m5,m6,m7,hm⟩:=len_eight h.2
 simp only at hr hm
 subst hr hm
 rfl
theorem cell_out{c:Cel}{ov:Value}(h:c.wf):(cellL c ov)[14]?=some ov:=by
 obtain⟨at_,regs,mem,read,out,end_⟩:=c
 obtain⟨a0,a1,a2,a3,hr⟩:=len_four h.1
 obtain⟨m0,m1,m2,m3,m4,m5,m6,m7,hm⟩:=len_eight h.2
 simp only at hr hm
 subst hr hm
 rfl
theorem cell_end{c:Cel}{ov:Value}(h:c.wf):(cellL c ov)[15]?=some (.int .i64 c.end_):=by
 obtain⟨at_,regs,mem,read,out,end_⟩:=c
 obtain⟨a0,a1,a2,a3,hr⟩:=len_four h.1
 obtain⟨m0,m1,m2,m3,m4,m5,m6,m7,hm⟩:=len_eight h.2
 simp only at hr hm
 subst hr hm
 rfl
theorem cellL_len{c:Cel}{ov:Value}(h:c.wf):(cellL c ov).length=16:=by
 unfold cellL
 simp[h.1,h.2]
set_option maxRecDepth 100000 in
set_option maxHeartbeats 1000000 in
theorem cellStep_code(p:Prt)(c:Cel)(cv iv ov:Value)(w:World)(hwf:c.wf)(hc:Code_ w cv p.code)(h1:chkCode p.code≠0):
  Calls Tryz.prog 103 #[.agg #[cv,iv],celV c ov] w (StepBack w Cel.zero Wnt.zero (chkCode p.code)):=by
 have hcc:=fun w1 (hb:Below w.heap.size w w1)=>codeCheck_any cv p.code w1 (hc.below hb)
 have hne:(chkCode p.code != 0)=true:=by simpa using h1
 generalize chkCode p.code=x at*
 have HCC:=hide hcc
 clear hcc hc h1
 unfold celV
 go_enter Tryz.func103,Tryz.ntmps103
 go_upto_region 3 with(go_at_call 90;refine(HCC.out _ (by exact Rb)).mono ?_;rintro e w1 ⟨rfl,hb1⟩;have HA1:=(((Blk.new w _ _).alloc _).alloc _ |>.alloc _).kept hb1;have HB1:=((Blk.new1 w _ _ _).alloc _ |>.alloc _).kept hb1;have HC1:=((Blk.new2 w _ _ _ _).alloc _).kept hb1;have HD1:=(Blk.new3 w _ _ _ _ _).kept hb1;have ea1:=HA1.cell;have eb1:=HB1.cell;have ec1:=HC1.cell;have ed1:=HD1.cell;have fa1:=HA1.frozen;have fb1:=HB1.frozen;have fc1:=HC1.frozen;have fd1:=HD1.frozen;have bw1:Below w.heap.size w _:=(Below.alloc1 (Below.alloc1 (Below.alloc1 (Below.alloc1 (Below.refl w.heap.size w) _) _) _) _).via hb1;have sz1:=HD1.lt;clear hb1)
 go_wp2_with (first
  |(refine wpList_store_whole rfl 75 _ _ rfl _ _ _ zeros16.toArray HC1 rfl rfl rfl info_cell zeros16_one ?_;intro ws1 hs1 ho1;have HS2:=ho1.blk HD1 Om)
  |(refine wpList_store_whole rfl 191 _ _ rfl _ _ _ zeros5.toArray HS2 rfl rfl rfl info_want zeros5_one ?_;intro ws2 hs2 ho2;have hs3:=ho2.blk hs1 Om))
 refine bodyPost_ret (v:=.tuple #[.agg zeros16.toArray,.agg zeros5.toArray,.int .i64 x]) (results_cct Tryz.results103 _ rfl rfl rfl (run_load_blk hs3 Tryz.underlying75 rfl info_cell) (run_load_blk hs2 Tryz.underlying191 rfl info_want)) rfl (stepBack_err ?_)
 exact(bw1.only ho1 Om).only ho2 Om
set_option maxRecDepth 100000 in
set_option maxHeartbeats 1000000 in
theorem cellStep_many(p:Prt)(c:Cel)(cv iv ov:Value)(w:World)(hc:Code_ w cv p.code)(hi:Ints w iv p.inp)(h1:chkCode p.code=0)(h2:12<p.inp.length):
  Calls Tryz.prog 103 #[.agg #[cv,iv],celV c ov] w (StepBack w Cel.zero Wnt.zero 2):=by
 have hcc:=fun w1 (hb:Below w.heap.size w w1)=>codeCheck_any cv p.code w1 (hc.below hb)
 obtain⟨A,cap,rfl⟩:=hi.form rfl
 rw[h1] at hcc
 have d2:decide ((12:Int)<(p.inp.length:Int))=true:=by simp;omega
 generalize p.inp.length=m at*
 have HCC:=hide hcc
 clear h1 h2 hcc hi hc
 unfold celV
 go_enter Tryz.func103,Tryz.ntmps103
 go_upto_region 5 with(go_at_call 90;refine(HCC.out _ (by exact Rb)).mono ?_;rintro e w1 ⟨rfl,hb1⟩;have HA1:=(((Blk.new w _ _).alloc _).alloc _ |>.alloc _).kept hb1;have HB1:=((Blk.new1 w _ _ _).alloc _ |>.alloc _).kept hb1;have HC1:=((Blk.new2 w _ _ _ _).alloc _).kept hb1;have HD1:=(Blk.new3 w _ _ _ _ _).kept hb1;have ea1:=HA1.cell;have eb1:=HB1.cell;have ec1:=HC1.cell;have ed1:=HD1.cell;have fa1:=HA1.frozen;have fb1:=HB1.frozen;have fc1:=HC1.frozen;have fd1:=HD1.frozen;have bw1:Below w.heap.size w _:=(Below.alloc1 (Below.alloc1 (Below.alloc1 (Below.alloc1 (Below.refl w.heap.size w) _) _) _) _).via hb1;have sz1:=HD1.lt;clear hb1)
 go_wp2_with (first
  |(refine wpList_store_whole rfl 75 _ _ rfl _ _ _ zeros16.toArray HC1 rfl rfl rfl info_cell zeros16_one ?_;intro ws1 hs1 ho1;have HS2:=ho1.blk HD1 Om)
  |(refine wpList_store_whole rfl 191 _ _ rfl _ _ _ zeros5.toArray HS2 rfl rfl rfl info_want zeros5_one ?_;intro ws2 hs2 ho2;have hs3:=ho2.blk hs1 Om))
 refine bodyPost_ret (v:=.tuple #[.agg zeros16.toArray,.agg zeros5.toArray,.int .i64 2]) (results_cct Tryz.results103 _ rfl rfl rfl (run_load_blk hs3 Tryz.underlying75 rfl info_cell) (run_load_blk hs2 Tryz.underlying191 rfl info_want)) rfl (stepBack_err ?_)
 exact(bw1.only ho1 Om).only ho2 Om
set_option maxRecDepth 100000 in
set_option maxHeartbeats 1000000 in
theorem cellStep_form(p:Prt)(c:Cel)(cv iv ov:Value)(w:World)(hwf:c.wf)(ho:Ints w ov c.out)(hc:Code_ w cv p.code)(hi:Ints w iv p.inp)(h1:chkCode p.code=0)(h2:¬12<p.inp.length)(h3:¬(cellFine c=true∧c.read≤p.inp.length)):
  Calls Tryz.prog 103 #[.agg #[cv,iv],celV c ov] w (StepBack w Cel.zero Wnt.zero 1):=by
 have hcc:=fun w1 (hb:Below w.heap.size w w1)=>codeCheck_any cv p.code w1 (hc.below hb)
 have hce:=fun w1 (hb:Below w.heap.size w w1)=>cellCheck_any c ov hwf w1 (ho.below hb)
 have hrd:=cell_read (ov:=ov) hwf
 obtain⟨A,cap,rfl⟩:=hi.form rfl
 rw[h1] at hcc
 have d2:decide ((12:Int)<(p.inp.length:Int))=false:=by simp;omega
 have HLEN:=hide (cellL_len (ov:=ov) hwf)
 cases hf:cellFine c with
 |false=>
  have he:cellErr c=1:=by simp[cellErr,hf]
  rw[he] at hce
  generalize p.inp.length=m at*
  have HCC:=hide hcc
  have HCE:=hide hce
  clear hcc hce h1 h2 h3 hi hc ho hf he
  unfold celV at*
  go_enter Tryz.func103,Tryz.ntmps103
  go_upto_region 7 with(first
   |(go_at_call 90;refine(HCC.out _ (by exact Rb)).mono ?_;rintro e w1 ⟨rfl,hb1⟩;have HA1:=(((Blk.new w _ _).alloc _).alloc _ |>.alloc _).kept hb1;have HB1:=((Blk.new1 w _ _ _).alloc _ |>.alloc _).kept hb1;have HC1:=((Blk.new2 w _ _ _ _).alloc _).kept hb1;have HD1:=(Blk.new3 w _ _ _ _ _).kept hb1;have ea1:=HA1.cell;have eb1:=HB1.cell;have ec1:=HC1.cell;have ed1:=HD1.cell;have fa1:=HA1.frozen;have fb1:=HB1.frozen;have fc1:=HC1.frozen;have fd1:=HD1.frozen;have bw1:Below w.heap.size w _:=(Below.alloc1 (Below.alloc1 (Below.alloc1 (Below.alloc1 (Below.refl w.heap.size w) _) _) _) _).via hb1;have sz1:=HD1.lt;clear hb1)
   |(refine wpList_load_whole rfl 75 _ rfl _ _ _ HB1 rfl _ Tryz.underlying75 rfl (info_cell.trans (congrArg some HLEN.out.symm)) ?_)
   |(go_at_call 137;refine(HCE.out _ (by exact Rb)).mono ?_;rintro e w2 ⟨rfl,hb2⟩;have HA2:=HA1.kept hb2;have HB2:=HB1.kept hb2;have HC2:=HC1.kept hb2;have HD2:=HD1.kept hb2;have ea2:=HA2.cell;have eb2:=HB2.cell;have ec2:=HC2.cell;have ed2:=HD2.cell;have fa2:=HA2.frozen;have fb2:=HB2.frozen;have fc2:=HC2.frozen;have fd2:=HD2.frozen;have bw2:Below w.heap.size w _:=bw1.via hb2;have sz2:=HD2.lt;clear hb2))
  go_wp2_with (first
   |(refine wpList_store_whole rfl 75 _ _ rfl _ _ _ zeros16.toArray HC2 rfl rfl rfl info_cell zeros16_one ?_;intro ws1 hs1 ho1;have HS2:=ho1.blk HD2 Om)
   |(refine wpList_store_whole rfl 191 _ _ rfl _ _ _ zeros5.toArray HS2 rfl rfl rfl info_want zeros5_one ?_;intro ws2 hs2 ho2;have hs3:=ho2.blk hs1 Om))
  refine bodyPost_ret (v:=.tuple #[.agg zeros16.toArray,.agg zeros5.toArray,.int .i64 1]) (results_cct Tryz.results103 _ rfl rfl rfl (run_load_blk hs3 Tryz.underlying75 rfl info_cell) (run_load_blk hs2 Tryz.underlying191 rfl info_want)) rfl (stepBack_err ?_)
  exact(bw2.only ho1 Om).only ho2 Om
 |true=>
  have he:cellErr c=0:=by simp[cellErr,hf]
  rw[he] at hce
  have d3:decide ((p.inp.length:Int)<c.read)=true:=by simp only[decide_eq_true_eq];exact Int.not_le.1 fun h=>h3 ⟨hf,h⟩
  generalize p.inp.length=m at*
  have HCC:=hide hcc
  have HCE:=hide hce
  clear hcc hce h1 h2 h3 hi hc ho hf he
  unfold celV at*
  go_enter Tryz.func103,Tryz.ntmps103
  go_upto_region 7 with(first
   |(go_at_call 90;refine(HCC.out _ (by exact Rb)).mono ?_;rintro e w1 ⟨rfl,hb1⟩;have HA1:=(((Blk.new w _ _).alloc _).alloc _ |>.alloc _).kept hb1;have HB1:=((Blk.new1 w _ _ _).alloc _ |>.alloc _).kept hb1;have HC1:=((Blk.new2 w _ _ _ _).alloc _).kept hb1;have HD1:=(Blk.new3 w _ _ _ _ _).kept hb1;have ea1:=HA1.cell;have eb1:=HB1.cell;have ec1:=HC1.cell;have ed1:=HD1.cell;have fa1:=HA1.frozen;have fb1:=HB1.frozen;have fc1:=HC1.frozen;have fd1:=HD1.frozen;have bw1:Below w.heap.size w _:=(Below.alloc1 (Below.alloc1 (Below.alloc1 (Below.alloc1 (Below.refl w.heap.size w) _) _) _) _).via hb1;have sz1:=HD1.lt;clear hb1)
   |(refine wpList_load_whole rfl 75 _ rfl _ _ _ HB1 rfl _ Tryz.underlying75 rfl (info_cell.trans (congrArg some HLEN.out.symm)) ?_)
   |(go_at_call 137;refine(HCE.out _ (by exact Rb)).mono ?_;rintro e w2 ⟨rfl,hb2⟩;have HA2:=HA1.kept hb2;have HB2:=HB1.kept hb2;have HC2:=HC1.kept hb2;have HD2:=HD1.kept hb2;have ea2:=HA2.cell;have eb2:=HB2.cell;have ec2:=HC2.cell;have ed2:=HD2.cell;have fa2:=HA2.frozen;have fb2:=HB2.frozen;have fc2:=HC2.frozen;have fd2:=HD2.frozen;have bw2:Below w.heap.size w _:=bw1.via hb2;have sz2:=HD2.lt;clear hb2))
  go_wp2_with (first
   |(refine wpList_store_whole rfl 75 _ _ rfl _ _ _ zeros16.toArray HC2 rfl rfl rfl info_cell zeros16_one ?_;intro ws1 hs1 ho1;have HS2:=ho1.blk HD2 Om)
   |(refine wpList_store_whole rfl 191 _ _ rfl _ _ _ zeros5.toArray HS2 rfl rfl rfl info_want zeros5_one ?_;intro ws2 hs2 ho2;have hs3:=ho2.blk hs1 Om))
  refine bodyPost_ret (v:=.tuple #[.agg zeros16.toArray,.agg zeros5.toArray,.int .i64 1]) (results_cct Tryz.results103 _ rfl rfl rfl (run_load_blk hs3 Tryz.underlying75 rfl info_cell) (run_load_blk hs2 Tryz.underlying191 rfl info_want)) rfl (stepBack_err ?_)
  exact(bw2.only ho1 Om).only ho2 Om
end
section
open Go.RowKit
theorem build_worker(c:Cel)(hwf:c.wf)(A A':Option Addr)(m m' k k':Nat)(w:World):
  (Instr.build 227 #[(0,.agg (cellL c (.slice A m k)).toArray),(1,.slice A' m' k')]).run Tryz.prog w=.ok (.agg (workL c (.slice A m k) (.slice A' m' k') Wnt.zero).toArray) w:=by
 obtain⟨at_,regs,mem,rd,out,en⟩:=c
 obtain⟨r0,r1,r2,r3,hregs⟩:=len_four hwf.1
 obtain⟨m0,m1,m2,m3,m4,m5,m6,m7,hmem⟩:=len_eight hwf.2
 dsimp only at hregs hmem
 subst hregs hmem
 clear hwf
 kernel_rfl
theorem cellL_one(c:Cel)(hwf:c.wf)(A:Option Addr)(m k:Nat):(cellL c (.slice A m k)).toArray.all (·.oneCell')=true:=by
 obtain⟨at_,regs,mem,rd,out,en⟩:=c
 obtain⟨r0,r1,r2,r3,hregs⟩:=len_four hwf.1
 obtain⟨m0,m1,m2,m3,m4,m5,m6,m7,hmem⟩:=len_eight hwf.2
 dsimp only at hregs hmem
 subst hregs hmem
 clear hwf
 kernel_rfl
theorem wantL_one(k:Wnt):(wantL k).toArray.all (·.oneCell')=true:=by
 obtain⟨a,b,c,d,e⟩:=k
 kernel_rfl
theorem work_first(c:Cel)(ov iv:Value)(k:Wnt):∀j v,(cellL c ov)[j]?=some v→(workL c ov iv k)[0+j]?=some v:=by
 intro j v h
 unfold workL
 rw[Nat.zero_add,List.getElem?_append_left ((List.getElem?_eq_some_iff.1 h).1)]
 exact h
theorem work_last{c:Cel}(h:c.wf){ov iv:Value}{k:Wnt}:∀j v,(wantL k)[j]?=some v→(workL c ov iv k)[17+j]?=some v:=fun j v hv=>by rw[work_want h];exact hv
set_option maxRecDepth 100000 in
set_option maxHeartbeats 1000000 in
theorem cellStep_ok(p:Prt)(c:Cel)(cv iv ov:Value)(w:World)(hwf:c.wf)(ho:Ints w ov c.out)(hc:Code_ w cv p.code)(hi:Ints w iv p.inp)(h1:chkCode p.code=0)(h2:¬12<p.inp.length)(h3:cellFine c=true∧c.read≤p.inp.length):
  Calls Tryz.prog 103 #[.agg #[cv,iv],celV c ov] w (StepBack w (stepOf p c).1 (stepOf p c).2 0):=by
 have hcc:=fun w1 (hb:Below w.heap.size w w1)=>codeCheck_any cv p.code w1 (hc.below hb)
 have hce:=fun w1 (hb:Below w.heap.size w w1)=>cellCheck_any c ov hwf w1 (ho.below hb)
 have hrd:=cell_read (ov:=ov) hwf
 have hou:=cell_out (ov:=ov) hwf
 have hen:=cell_end (ov:=ov) hwf
 have HLEN:=hide (cellL_len (ov:=ov) hwf)
 have hfine:=h3.1
 have hol:c.out.length≤1048576:=by unfold cellFine at hfine;simp only[decide_eq_true_eq] at hfine;omega
 have hcl:=fun w1 (hb:Below w.heap.size w w1)=>cloneInt_any (ho.below hb) hol
 have he:cellErr c=0:=by simp[cellErr,hfine]
 obtain⟨A,cap,rfl⟩:=hi.form rfl
 rw[h1] at hcc
 rw[he] at hce
 have d2:decide ((12:Int)<(p.inp.length:Int))=false:=by simp;omega
 have d3:decide ((p.inp.length:Int)<c.read)=false:=by simp;omega
 obtain⟨m,hm⟩:∃m,p.inp.length=m:=⟨_,rfl⟩
 rw[hm] at d2 d3⊢
 have HCC:=hide hcc
 have HCE:=hide hce
 have HCL:=hide hcl
 have HH:=hide (show chkCode p.code=0∧¬12<p.inp.length∧cellFine c=true∧c.read≤p.inp.length∧p.inp.length=m∧Ints w (.slice A m cap) p.inp∧Code_ w cv p.code∧c.wf from⟨h1,h2,h3.1,h3.2,hm,by rw[hm] at hi;exact hi,hc,hwf⟩)
 obtain⟨A',k',hov⟩:∃A' k',ov=.slice A' c.out.length k':=by
  obtain⟨A',k',h,-⟩:=ho
  exact⟨A',k',h⟩
 have HBLD:=hide (fun w=>build_worker c hwf A' A c.out.length m k' cap w)
 rw[←hov] at HBLD
 clear hcc hce hcl h1 h2 h3 hi hc ho he hm hwf hfine hol hov
 unfold celV at*
 go_enter Tryz.func103,Tryz.ntmps103
 go_upto_region 9 with(first
  |(go_at_call 90;refine(HCC.out _ (by exact Rb)).mono ?_;rintro e w1 ⟨rfl,hb1⟩;have HA1:=(((Blk.new w _ _).alloc _).alloc _ |>.alloc _).kept hb1;have HB1:=((Blk.new1 w _ _ _).alloc _ |>.alloc _).kept hb1;have HC1:=((Blk.new2 w _ _ _ _).alloc _).kept hb1;have HD1:=(Blk.new3 w _ _ _ _ _).kept hb1;have ea1:=HA1.cell;have eb1:=HB1.cell;have ec1:=HC1.cell;have ed1:=HD1.cell;have fa1:=HA1.frozen;have fb1:=HB1.frozen;have fc1:=HC1.frozen;have fd1:=HD1.frozen;have bw1:Below w.heap.size w _:=(Below.alloc1 (Below.alloc1 (Below.alloc1 (Below.alloc1 (Below.refl w.heap.size w) _) _) _) _).via hb1;have sz1:=HD1.lt;clear hb1)
  |(refine wpList_load_whole rfl 75 _ rfl _ _ _ HB2 rfl _ Tryz.underlying75 rfl (info_cell.trans (congrArg some HLEN.out.symm)) ?_)
  |(refine wpList_load_whole rfl 75 _ rfl _ _ _ HB1 rfl _ Tryz.underlying75 rfl (info_cell.trans (congrArg some HLEN.out.symm)) ?_)
  |(refine wpList_build rfl 227 _ rfl #[(0,.agg (cellL c ov).toArray),(1,.slice A m cap)] Kr _ (HBLD.out _) ?_)
  |(go_at_call 137;refine(HCE.out _ (by exact Rb)).mono ?_;rintro e w2 ⟨rfl,hb2⟩;have HA2:=HA1.kept hb2;have HB2:=HB1.kept hb2;have HC2:=HC1.kept hb2;have HD2:=HD1.kept hb2;have ea2:=HA2.cell;have eb2:=HB2.cell;have ec2:=HC2.cell;have ed2:=HD2.cell;have fa2:=HA2.frozen;have fb2:=HB2.frozen;have fc2:=HC2.frozen;have fd2:=HD2.frozen;have bw2:Below w.heap.size w _:=bw1.via hb2;have sz2:=HD2.lt;clear hb2))
 have HWK0:Blk (w2.alloc (.cells (workL c ov (.slice A m cap) Wnt.zero).toArray 227)) w2.heap.size 227 (workL c ov (.slice A m cap) Wnt.zero):=Blk.new w2 _ _
 have HB3:=HB2.alloc (.cells (workL c ov (.slice A m cap) Wnt.zero).toArray 227)
 have HC3:=HC2.alloc (.cells (workL c ov (.slice A m cap) Wnt.zero).toArray 227)
 have HD3:=HD2.alloc (.cells (workL c ov (.slice A m cap) Wnt.zero).toArray 227)
 have HA3:=HA2.alloc (.cells (workL c ov (.slice A m cap) Wnt.zero).toArray 227)
 have bw3:=bw2.alloc1 (.cells (workL c ov (.slice A m cap) Wnt.zero).toArray 227)
 have hsz3:(w2.alloc (.cells (workL c ov (.slice A m cap) Wnt.zero).toArray 227)).heap.size=w2.heap.size+1:=World.size_alloc _ _
 have hB:w.heap.size+1+1+1<w2.heap.size:=sz2
 generalize w2.alloc (.cells (workL c ov (.slice A m cap) Wnt.zero).toArray 227)=W at*
 generalize w2.heap.size=B at*
 clear HA1 HB1 HC1 HD1 HA2 HB2 HC2 HD2 ea1 eb1 ec1 ed1 fa1 fb1 fc1 fd1 ea2 eb2 ec2 ed2 fa2 fb2 fc2 fd2 bw1 bw2 sz1 sz2 HCC HCE HBLD HLEN
 have eb3:=HB3.cell
 have ea3:=HA3.cell
 go_upto_region 10 with(go_at_call 84;refine(HCL.out _ bw3).mono ?_;rintro e w3 ⟨A3,c3,rfl,hown3,hb3⟩;have HWK3:=HWK0.kept hb3;have HA4:=HA3.kept hb3;have HB4:=HB3.kept hb3;have HC4:=HC3.kept hb3;have HD4:=HD3.kept hb3;have bw4:=bw3.via hb3;have ew3:=HWK3.cell;have fw3:=HWK3.frozen;have hwo:=work_out (c:=c) (ov:=ov) (iv:=.slice A m cap) (k:=Wnt.zero) HH.out.2.2.2.2.2.2.2;clear hb3)
 have hOn:=Only.set w3 B 14 (.slice A3 c.out.length c3)
 have HWORK:Work (w3.setCell ⟨B,14,none⟩ (.slice A3 c.out.length c3)) B c (.slice A3 c.out.length c3) (.slice A m cap) Wnt.zero p.inp:=
  ⟨(HWK3.set 14 _).same (set_out HH.out.2.2.2.2.2.2.2 c.out _),HH.out.2.2.2.2.2.2.2,hOn.ownAs (OwnAs.of_own hown3 Om) Om,⟨w,by omega,HH.out.2.2.2.2.2.1,bw4.only hOn Om⟩⟩
 have HA5:=hOn.blk HA4 Om
 have HB5:=hOn.blk HB4 Om
 have HC5:=hOn.blk HC4 Om
 have HD5:=hOn.blk HD4 Om
 have bw5:=bw4.only hOn Om
 generalize w3.setCell ⟨B,14,none⟩ (.slice A3 c.out.length c3)=W5 at*
 clear HA4 HB4 HC4 HD4 bw4 hOn HWK3 hown3 ew3 fw3 hwo HWK0 HA3 HB3 HC3 HD3 bw3 eb3 ea3 hsz3
 generalize (Value.slice A3 c.out.length c3)=ov5 at*
 have eb5:=HB5.cell
 have ea5:=HA5.cell
 have HTR:=hide (fun he=>try_any B c ov5 (.slice A m cap) cv p.inp p.code W5 HWORK (HH.out.2.2.2.2.2.2.1.below bw5) HH.out.1 HH.out.2.2.1 HH.out.2.2.2.1 he)
 by_cases he:c.end_=0
 ·have d4:(c.end_==0)=true:=by simpa using he
  have HTR':=hide (HTR.out he)
  clear HTR he
  generalize hce:stepOf p c=ce at*
  go_upto_region 12 with(go_at_call 138;refine HTR'.out.mono ?_;rintro e w6 ⟨rfl,hb6,ov6,HW6⟩;have HC6:=HC5.below hb6 Om;have HD6:=HD5.below hb6 Om;have bw6:=bw5.trans (hb6.mono Om);clear hb6)
  obtain⟨A9,k9,rfl⟩:=(HW6).out.form rfl
  have hwf':=(HW6).wf
  have hout':=(HW6).out
  have hS:Blk (w6).drew B 227 (workL ce.1 (.slice A9 ce.1.out.length k9) (.slice A m cap) ce.2):=(HW6).blk
  have hHC:=(HC6).drew
  have hHD:=(HD6).drew
  have hbw:Below w.heap.size w (w6).drew:=Below.drew bw6
  clear HW6 HC6 HD6 bw6
  have H1:=hide (cellL_one ce.1 hwf' A9 ce.1.out.length k9)
  have H2:=hide (wantL_one ce.2)
  have HLEN':=hide (cellL_len (ov:=.slice A9 ce.1.out.length k9) hwf')
  refine wp_region_held (S:=fun W=>Blk W B 227 (workL ce.1 (.slice A9 ce.1.out.length k9) (.slice A m cap) ce.2)) Kr ?_
  change wpAnyH _ _ _ _ _ _ _ _ (World.drew _)
  have HS:=hS
  refine wpAnyH_take (i:=0) (v:=.pointer (some ⟨B,0,none⟩)) rfl Kr Kr Kr (fun _ _ _ h=>h) (Or.inl ⟨by kernel_rfl,fun _ _=>by kernel_rfl⟩) HS ?_
  refine wpAnyH_take (i:=1) (v:=.pointer (some ⟨B,0,none⟩)) rfl Kr Kr Kr (fun _ _ _ h=>h) (Or.inl ⟨by kernel_rfl,fun _ _=>by kernel_rfl⟩) HS ?_
  refine wpAnyH_take (i:=2) (v:=.pointer (some ⟨B,0,none⟩)) rfl Kr Kr Kr (fun _ _ _ h=>h) (Or.inl ⟨by kernel_rfl,fun _ _=>by kernel_rfl⟩) HS ?_
  refine wpAnyH_take (i:=3) (v:=.agg (cellL ce.1 (.slice A9 ce.1.out.length k9)).toArray) rfl Kr Kr Kr (fun _ _ _ h=>h) (yieldsIf_load_mid Kr 75 (.tmp 57) rfl B 0 Kr _ _ (fun W hW=>hW.range (work_first ce.1 _ _ _)) Tryz.underlying75 rfl (info_cell.trans (congrArg some HLEN'.out.symm))) HS ?_
  refine wpAnyH_take (i:=4) (v:=.pointer (some ⟨B,0,none⟩)) rfl Kr Kr Kr (fun _ _ _ h=>h) (Or.inl ⟨by kernel_rfl,fun _ _=>by kernel_rfl⟩) HS ?_
  refine wpAnyH_take (i:=5) (v:=.pointer (some ⟨B,0,none⟩)) rfl Kr Kr Kr (fun _ _ _ h=>h) (Or.inl ⟨by kernel_rfl,fun _ _=>by kernel_rfl⟩) HS ?_
  refine wpAnyH_take (i:=6) (v:=.pointer (some ⟨B,17,none⟩)) rfl Kr Kr Kr (fun _ _ _ h=>h) (Or.inl ⟨by kernel_rfl,fun _ _=>by kernel_rfl⟩) HS ?_
  refine wpAnyH_take (i:=7) (v:=.agg (wantL ce.2).toArray) rfl Kr Kr Kr (fun _ _ _ h=>h) (yieldsIf_load_mid Kr 191 (.tmp 61) rfl B 17 Kr _ _ (fun W hW=>hW.range (work_last hwf')) Tryz.underlying191 rfl info_want) HS ?_
  generalize hA:Act.put _ _ _=aa
  have q4:aa.eval (.tmp 4)=.pointer (some ⟨w.heap.size+1+1,0,none⟩):=by rw[←hA];as_aux_lemma=>kernel_rfl
  have q5:aa.eval (.tmp 5)=.pointer (some ⟨w.heap.size+1+1+1,0,none⟩):=by rw[←hA];as_aux_lemma=>kernel_rfl
  have q58:aa.eval (.tmp 58)=.agg (cellL ce.1 (.slice A9 ce.1.out.length k9)).toArray:=by rw[←hA];as_aux_lemma=>kernel_rfl
  have q62:aa.eval (.tmp 62)=.agg (wantL ce.2).toArray:=by rw[←hA];as_aux_lemma=>kernel_rfl
  have qd:aa.defers=[]:=by rw[←hA];as_aux_lemma=>kernel_rfl
  have qs:aa.tmps.size=63:=by rw[←hA];as_aux_lemma=>kernel_rfl
  clear hA
  refine wpAnyH_all (rs:=[8]) Kr Si ?_
  intro i hi
  obtain rfl:i=8:=by simpa using hi
  clear hi
  refine wpOp_step (o:={dst:=none,op:=.store 75 (.tmp 4) (.tmp 58),type:=0,pos:=_,after:=_,guard:=none}) rfl (fun K hK=>?_)
  rw[if_pos (by simp[Region.wanted])]
  refine wp_store_mid 75 (.tmp 4) (.tmp 58) rfl (w.heap.size+1+1) 0 (cellL ce.1 (.slice A9 ce.1.out.length k9)).toArray q4 q58 (hHC.there (by simp[HLEN'.out,zeros16])) (info_cell.trans (congrArg some (by simp[HLEN'.out]))) H1.out ?_
  refine hK _ _ ?_
  clear hK K
  have hsc:=setCells_blk (cellL ce.1 (.slice A9 ce.1.out.length k9)).toArray.toList _ _ 0 hHC
  have hsa:splice zeros16 0 (cellL ce.1 (.slice A9 ce.1.out.length k9)).toArray.toList=cellL ce.1 (.slice A9 ce.1.out.length k9):=by
   have:=splice_all (cellL ce.1 (.slice A9 ce.1.out.length k9)) [] zeros16 (by rw[HLEN'.out];rfl)
   simpa using this
  obtain⟨hR1,hO1⟩:=hsc
  replace hR1:=hR1.same hsa
  generalize World.setCells _ _ _ _=X1 at*
  have HS1:=hO1.blk HS Om
  have hHD1:=hO1.blk hHD Om
  have hbw1:=hbw.only hO1 Om
  have hout1:=hO1.ownAs hout' Om
  clear hO1 hHD hbw hHC hsa HS hS hout'
  have HS:=HS1
  refine⟨HS,?_⟩
  refine wpAnyH_all (rs:=[9]) Kr Si ?_
  intro i hi
  obtain rfl:i=9:=by simpa using hi
  clear hi
  refine wpOp_step (o:={dst:=none,op:=.store 191 (.tmp 5) (.tmp 62),type:=0,pos:=_,after:=_,guard:=none}) rfl (fun K hK=>?_)
  rw[if_pos (by simp[Region.wanted])]
  refine wp_store_mid 191 (.tmp 5) (.tmp 62) rfl (w.heap.size+1+1+1) 0 (wantL ce.2).toArray q5 q62 (hHD1.there (by simp[wantL,zeros5])) info_want H2.out ?_
  refine hK _ _ ?_
  clear hK K
  have hsc:=setCells_blk (wantL ce.2).toArray.toList _ _ 0 hHD1
  have hsa:splice zeros5 0 (wantL ce.2).toArray.toList=wantL ce.2:=by
   have:=splice_all (wantL ce.2) [] zeros5 rfl
   simpa using this
  obtain⟨hR2,hO2⟩:=hsc
  replace hR2:=hR2.same hsa
  generalize World.setCells _ _ _ _=X2 at*
  have HS2:=hO2.blk HS Om
  replace hR1:=hO2.blk hR1 Om
  have hbw2:=hbw1.only hO2 Om
  have hout2:=hO2.ownAs hout1 Om
  clear hO2 hHD1 hbw1 hsa HS HS1 hout1
  have HS:=HS2
  refine⟨HS,?_⟩
  refine wpAnyH_take (i:=10) (v:=.int .i64 0) (oi:={dst:=some 6,op:=.assign (.const (.int .i64 0)),type:=_,pos:=_,after:=_,guard:=none}) rfl Kr Kr Kr (fun _ _ _ h=>h) (Or.inl ⟨by kernel_rfl,fun _ _=>by kernel_rfl⟩) HS ?_
  refine wpAnyH_done Kr ?_ _
  go_wp2_with fail
  obtain⟨tm,df⟩:=aa
  simp only[Act.eval] at q4 q5
  refine bodyPost_ret (v:=.tuple #[.agg (cellL ce.1 (.slice A9 ce.1.out.length k9)).toArray,.agg (wantL ce.2).toArray,.int .i64 0]) (results_cct Tryz.results103 _ (b:=w.heap.size+1+1) (b':=w.heap.size+1+1+1) ?_ ?_ ?_ (run_load_blk hR1 Tryz.underlying75 rfl (info_cell.trans (congrArg some HLEN'.out.symm))) (run_load_blk hR2 Tryz.underlying191 rfl info_want)) qd ⟨_,rfl,hwf',OwnAs.less hout2 Om,hbw2⟩
  ·simpa[Act.put] using q4
  ·simpa[Act.put] using q5
  ·simp only at qs
   simp[Act.put,qs]
 ·have d4:(c.end_==0)=false:=by simpa using he
  have hst:stepOf p c=(c,Wnt.zero):=by unfold stepOf;rw[if_pos he]
  clear HTR he
  generalize hce:stepOf p c=ce at*
  have HWORK':Work W5 B ce.1 ov5 (.slice A m cap) ce.2 p.inp:=by rw[hst];exact HWORK
  clear HWORK hst
  go_upto_region 12 with fail
  obtain⟨A9,k9,rfl⟩:=(HWORK').out.form rfl
  have hwf':=(HWORK').wf
  have hout':=(HWORK').out
  have hS:Blk (W5).drew B 227 (workL ce.1 (.slice A9 ce.1.out.length k9) (.slice A m cap) ce.2):=(HWORK').blk
  have hHC:=(HC5).drew
  have hHD:=(HD5).drew
  have hbw:Below w.heap.size w (W5).drew:=Below.drew bw5
  clear HWORK' HC5 HD5 bw5
  have H1:=hide (cellL_one ce.1 hwf' A9 ce.1.out.length k9)
  have H2:=hide (wantL_one ce.2)
  have HLEN':=hide (cellL_len (ov:=.slice A9 ce.1.out.length k9) hwf')
  refine wp_region_held (S:=fun W=>Blk W B 227 (workL ce.1 (.slice A9 ce.1.out.length k9) (.slice A m cap) ce.2)) Kr ?_
  change wpAnyH _ _ _ _ _ _ _ _ (World.drew _)
  have HS:=hS
  refine wpAnyH_take (i:=0) (v:=.pointer (some ⟨B,0,none⟩)) rfl Kr Kr Kr (fun _ _ _ h=>h) (Or.inl ⟨by kernel_rfl,fun _ _=>by kernel_rfl⟩) HS ?_
  refine wpAnyH_take (i:=1) (v:=.pointer (some ⟨B,0,none⟩)) rfl Kr Kr Kr (fun _ _ _ h=>h) (Or.inl ⟨by kernel_rfl,fun _ _=>by kernel_rfl⟩) HS ?_
  refine wpAnyH_take (i:=2) (v:=.pointer (some ⟨B,0,none⟩)) rfl Kr Kr Kr (fun _ _ _ h=>h) (Or.inl ⟨by kernel_rfl,fun _ _=>by kernel_rfl⟩) HS ?_
  refine wpAnyH_take (i:=3) (v:=.agg (cellL ce.1 (.slice A9 ce.1.out.length k9)).toArray) rfl Kr Kr Kr (fun _ _ _ h=>h) (yieldsIf_load_mid Kr 75 (.tmp 57) rfl B 0 Kr _ _ (fun W hW=>hW.range (work_first ce.1 _ _ _)) Tryz.underlying75 rfl (info_cell.trans (congrArg some HLEN'.out.symm))) HS ?_
  refine wpAnyH_take (i:=4) (v:=.pointer (some ⟨B,0,none⟩)) rfl Kr Kr Kr (fun _ _ _ h=>h) (Or.inl ⟨by kernel_rfl,fun _ _=>by kernel_rfl⟩) HS ?_
  refine wpAnyH_take (i:=5) (v:=.pointer (some ⟨B,0,none⟩)) rfl Kr Kr Kr (fun _ _ _ h=>h) (Or.inl ⟨by kernel_rfl,fun _ _=>by kernel_rfl⟩) HS ?_
  refine wpAnyH_take (i:=6) (v:=.pointer (some ⟨B,17,none⟩)) rfl Kr Kr Kr (fun _ _ _ h=>h) (Or.inl ⟨by kernel_rfl,fun _ _=>by kernel_rfl⟩) HS ?_
  refine wpAnyH_take (i:=7) (v:=.agg (wantL ce.2).toArray) rfl Kr Kr Kr (fun _ _ _ h=>h) (yieldsIf_load_mid Kr 191 (.tmp 61) rfl B 17 Kr _ _ (fun W hW=>hW.range (work_last hwf')) Tryz.underlying191 rfl info_want) HS ?_
  generalize hA:Act.put _ _ _=aa
  have q4:aa.eval (.tmp 4)=.pointer (some ⟨w.heap.size+1+1,0,none⟩):=by rw[←hA];as_aux_lemma=>kernel_rfl
  have q5:aa.eval (.tmp 5)=.pointer (some ⟨w.heap.size+1+1+1,0,none⟩):=by rw[←hA];as_aux_lemma=>kernel_rfl
  have q58:aa.eval (.tmp 58)=.agg (cellL ce.1 (.slice A9 ce.1.out.length k9)).toArray:=by rw[←hA];as_aux_lemma=>kernel_rfl
  have q62:aa.eval (.tmp 62)=.agg (wantL ce.2).toArray:=by rw[←hA];as_aux_lemma=>kernel_rfl
  have qd:aa.defers=[]:=by rw[←hA];as_aux_lemma=>kernel_rfl
  have qs:aa.tmps.size=63:=by rw[←hA];as_aux_lemma=>kernel_rfl
  clear hA
  refine wpAnyH_all (rs:=[8]) Kr Si ?_
  intro i hi
  obtain rfl:i=8:=by simpa using hi
  clear hi
  refine wpOp_step (o:={dst:=none,op:=.store 75 (.tmp 4) (.tmp 58),type:=0,pos:=_,after:=_,guard:=none}) rfl (fun K hK=>?_)
  rw[if_pos (by simp[Region.wanted])]
  refine wp_store_mid 75 (.tmp 4) (.tmp 58) rfl (w.heap.size+1+1) 0 (cellL ce.1 (.slice A9 ce.1.out.length k9)).toArray q4 q58 (hHC.there (by simp[HLEN'.out,zeros16])) (info_cell.trans (congrArg some (by simp[HLEN'.out]))) H1.out ?_
  refine hK _ _ ?_
  clear hK K
  have hsc:=setCells_blk (cellL ce.1 (.slice A9 ce.1.out.length k9)).toArray.toList _ _ 0 hHC
  have hsa:splice zeros16 0 (cellL ce.1 (.slice A9 ce.1.out.length k9)).toArray.toList=cellL ce.1 (.slice A9 ce.1.out.length k9):=by
   have:=splice_all (cellL ce.1 (.slice A9 ce.1.out.length k9)) [] zeros16 (by rw[HLEN'.out];rfl)
   simpa using this
  obtain⟨hR1,hO1⟩:=hsc
  replace hR1:=hR1.same hsa
  generalize World.setCells _ _ _ _=X1 at*
  have HS1:=hO1.blk HS Om
  have hHD1:=hO1.blk hHD Om
  have hbw1:=hbw.only hO1 Om
  have hout1:=hO1.ownAs hout' Om
  clear hO1 hHD hbw hHC hsa HS hS hout'
  have HS:=HS1
  refine⟨HS,?_⟩
  refine wpAnyH_all (rs:=[9]) Kr Si ?_
  intro i hi
  obtain rfl:i=9:=by simpa using hi
  clear hi
  refine wpOp_step (o:={dst:=none,op:=.store 191 (.tmp 5) (.tmp 62),type:=0,pos:=_,after:=_,guard:=none}) rfl (fun K hK=>?_)
  rw[if_pos (by simp[Region.wanted])]
  refine wp_store_mid 191 (.tmp 5) (.tmp 62) rfl (w.heap.size+1+1+1) 0 (wantL ce.2).toArray q5 q62 (hHD1.there (by simp[wantL,zeros5])) info_want H2.out ?_
  refine hK _ _ ?_
  clear hK K
  have hsc:=setCells_blk (wantL ce.2).toArray.toList _ _ 0 hHD1
  have hsa:splice zeros5 0 (wantL ce.2).toArray.toList=wantL ce.2:=by
   have:=splice_all (wantL ce.2) [] zeros5 rfl
   simpa using this
  obtain⟨hR2,hO2⟩:=hsc
  replace hR2:=hR2.same hsa
  generalize World.setCells _ _ _ _=X2 at*
  have HS2:=hO2.blk HS Om
  replace hR1:=hO2.blk hR1 Om
  have hbw2:=hbw1.only hO2 Om
  have hout2:=hO2.ownAs hout1 Om
  clear hO2 hHD1 hbw1 hsa HS HS1 hout1
  have HS:=HS2
  refine⟨HS,?_⟩
  refine wpAnyH_take (i:=10) (v:=.int .i64 0) (oi:={dst:=some 6,op:=.assign (.const (.int .i64 0)),type:=_,pos:=_,after:=_,guard:=none}) rfl Kr Kr Kr (fun _ _ _ h=>h) (Or.inl ⟨by kernel_rfl,fun _ _=>by kernel_rfl⟩) HS ?_
  refine wpAnyH_done Kr ?_ _
  go_wp2_with fail
  obtain⟨tm,df⟩:=aa
  simp only[Act.eval] at q4 q5
  refine bodyPost_ret (v:=.tuple #[.agg (cellL ce.1 (.slice A9 ce.1.out.length k9)).toArray,.agg (wantL ce.2).toArray,.int .i64 0]) (results_cct Tryz.results103 _ (b:=w.heap.size+1+1) (b':=w.heap.size+1+1+1) ?_ ?_ ?_ (run_load_blk hR1 Tryz.underlying75 rfl (info_cell.trans (congrArg some HLEN'.out.symm))) (run_load_blk hR2 Tryz.underlying191 rfl info_want)) qd ⟨_,rfl,hwf',OwnAs.less hout2 Om,hbw2⟩
  ·simpa[Act.put] using q4
  ·simpa[Act.put] using q5
  ·simp only at qs
   simp[Act.put,qs]
theorem cellStep_any(p:Prt)(c:Cel)(cv iv ov:Value)(w:World)(hwf:c.wf)(ho:Ints w ov c.out)(hc:Code_ w cv p.code)(hi:Ints w iv p.inp):
  Calls Tryz.prog 103 #[.agg #[cv,iv],celV c ov] w (if stepErr p c=0 then StepBack w (stepOf p c).1 (stepOf p c).2 0 else StepBack w Cel.zero Wnt.zero (stepErr p c)):=by
 unfold stepErr
 by_cases h1:chkCode p.code=0
 ·rw[if_neg (show¬chkCode p.code≠0 by simp[h1])]
  by_cases h2:12<p.inp.length
  ·rw[if_pos h2,if_neg Dc]
   exact cellStep_many p c cv iv ov w hc hi h1 h2
  ·rw[if_neg h2]
   by_cases h3:cellFine c=true∧c.read≤p.inp.length
   ·rw[if_pos h3,if_pos rfl]
    exact cellStep_ok p c cv iv ov w hwf ho hc hi h1 h2 h3
   ·rw[if_neg h3,if_neg Dc]
    exact cellStep_form p c cv iv ov w hwf ho hc hi h1 h2 h3
 ·rw[if_pos h1,if_neg h1]
  exact cellStep_code p c cv iv ov w hwf hc h1
end
section
open Go.RowKit
def replyErr(c:Cel)(k:Wnt)(kind:Int):Int:=
 if cellFine c=false then 1 else if(k.kind≠12∧k.kind≠13)∨(kind≠1∧kind≠2) then 4 else if(regOk k.reg&&regOk k.flag)=true then 0 else 3
theorem cellErrBack_zero{w0 w':World}{x:Int}(hb:Below w0.heap.size w0 w'):CelErrBack w0 Cel.zero x (.returned (.tuple #[.agg zeros16.toArray,.int .i64 x])) w':=
 ⟨_,rfl,Cel.zero_wf,OwnAs.nil_,hb⟩
theorem register_any(n:Int)(w:World):
  Calls Tryz.prog 140 #[.int .i64 n] w fun e w'=>e=.returned (.bool (regOk n))∧w=w':=by
 have e:regOk n=(decide (0≤n)&&decide (n<4)):=by unfold regOk;rw[Bool.eq_iff_iff];simp
 rw[e]
 cases hn:decide (0≤n)
 all_goals
  go_enter Tryz.func140,Tryz.ntmps140
  go_wp2
  go_ret
  exact⟨by simp,rfl⟩
theorem cell_set_reg{c:Cel}{ov:Value}(h:c.wf){a:Nat}(ha:a<4)(v:Int):(cellL c ov).set (1+a) (.int .i64 v)=cellL {c with regs:=c.regs.set a v} ov:=by
 obtain⟨at_,regs,mem,read,out,end_⟩:=c
 obtain⟨a0,a1,a2,a3,hr⟩:=len_four h.1
 simp only at hr
 subst hr
 match a,ha with
 |0,_=>rfl
 |1,_=>rfl
 |2,_=>rfl
 |3,_=>rfl
theorem cell_set_out{c:Cel}{ov:Value}(h:c.wf)(o:List Int)(u:Value):(cellL c ov).set 14 u=cellL {c with out:=o} u:=by
 obtain⟨at_,regs,mem,read,out,end_⟩:=c
 obtain⟨a0,a1,a2,a3,hr⟩:=len_four h.1
 obtain⟨m0,m1,m2,m3,m4,m5,m6,m7,hm⟩:=len_eight h.2
 simp only at hr hm
 subst hr hm
 rfl
theorem cell_reg{c:Cel}{ov:Value}(h:c.wf){a:Nat}(ha:a<4):(cellL c ov)[1+a]?=some (.int .i64 (c.regs.getD a 0)):=by
 obtain⟨at_,regs,mem,read,out,end_⟩:=c
 obtain⟨a0,a1,a2,a3,hr⟩:=len_four h.1
 simp only at hr
 subst hr
 match a,ha with
 |0,_=>rfl
 |1,_=>rfl
 |2,_=>rfl
 |3,_=>rfl
set_option maxRecDepth 100000 in
set_option maxHeartbeats 1000000 in
theorem reply_form(c:Cel)(k:Wnt)(kind val:Int)(is:Bool)(ov:Value)(w:World)(hwf:c.wf)(ho:Ints w ov c.out)(hf:cellFine c=false):
  Calls Tryz.prog 106 #[celV c ov,wntV k,.int .i64 kind,.int .i64 val,.bool is] w (CelErrBack w Cel.zero 1):=by
 have hce:=fun w1 (hb:Below w.heap.size w w1)=>cellCheck_any c ov hwf w1 (ho.below hb)
 have HLEN:=hide (cellL_len (ov:=ov) hwf)
 have kk0:(wantL k)[0]?=some (.int .i64 k.kind):=rfl
 have kk2:(wantL k)[2]?=some (.int .i64 k.reg):=rfl
 have kk3:(wantL k)[3]?=some (.int .i64 k.flag):=rfl
 have he:cellErr c=1:=by simp[cellErr,hf]
 rw[he] at hce
 have HCE:=hide hce
 clear hce he hf ho hwf
 unfold celV wntV at*
 go_enter Tryz.func106,Tryz.ntmps106
 go_upto_region 2 with(first
  |(refine wpList_load_whole rfl 75 _ rfl _ _ _ (Blk.alloc (Blk.alloc (Blk.new w _ _) _) _) rfl _ Tryz.underlying75 rfl (info_cell.trans (congrArg some HLEN.out.symm)) ?_)
  |(go_at_call 137;refine(HCE.out _ (by exact Rb)).mono ?_;rintro e w1 ⟨rfl,hb1⟩;have HA1:=((Blk.new w _ _).alloc _ |>.alloc _).kept hb1;have HB1:=((Blk.new1 w _ _ _).alloc _).kept hb1;have HC1:=(Blk.new2 w _ _ _ _).kept hb1;have ea1:=HA1.cell;have eb1:=HB1.cell;have ec1:=HC1.cell;have fa1:=HA1.frozen;have fb1:=HB1.frozen;have fc1:=HC1.frozen;have bw1:Below w.heap.size w _:=(Below.alloc1 (Below.alloc1 (Below.alloc1 (Below.refl w.heap.size w) _) _) _).via hb1;have sz1:=HC1.lt;clear hb1))
 clear fa1 fb1 fc1
 go_wp2_with (first
  |(go_at_call 140;refine(register_any _ _).mono ?_;rintro e w' ⟨rfl,rfl⟩)
  |(refine wpList_store_whole rfl 75 _ _ rfl _ _ _ zeros16.toArray HC1 rfl rfl rfl info_cell zeros16_one ?_;intro ws1 hs1 ho1))
 refine bodyPost_ret (v:=.tuple #[.agg zeros16.toArray,.int .i64 1]) (results_ct Tryz.results106 _ rfl rfl (run_load_blk hs1 Tryz.underlying75 rfl info_cell)) rfl (cellErrBack_zero ?_)
 exact bw1.only ho1 Om
set_option maxRecDepth 100000 in
set_option maxHeartbeats 1000000 in
theorem reply_kind(c:Cel)(k:Wnt)(kind val:Int)(is:Bool)(ov:Value)(w:World)(hwf:c.wf)(ho:Ints w ov c.out)(hf:cellFine c=true)(hk:(k.kind≠12∧k.kind≠13)∨(kind≠1∧kind≠2)):
  Calls Tryz.prog 106 #[celV c ov,wntV k,.int .i64 kind,.int .i64 val,.bool is] w (CelErrBack w Cel.zero 4):=by
 have hce:=fun w1 (hb:Below w.heap.size w w1)=>cellCheck_any c ov hwf w1 (ho.below hb)
 have HLEN:=hide (cellL_len (ov:=ov) hwf)
 have kk0:(wantL k)[0]?=some (.int .i64 k.kind):=rfl
 have kk2:(wantL k)[2]?=some (.int .i64 k.reg):=rfl
 have kk3:(wantL k)[3]?=some (.int .i64 k.flag):=rfl
 have he:cellErr c=0:=by simp[cellErr,hf]
 rw[he] at hce
 have HCE:=hide hce
 clear hce he hf ho hwf
 unfold celV wntV at*
 go_enter Tryz.func106,Tryz.ntmps106
 go_upto_region 3 with(first
  |(refine wpList_load_whole rfl 75 _ rfl _ _ _ (Blk.alloc (Blk.alloc (Blk.new w _ _) _) _) rfl _ Tryz.underlying75 rfl (info_cell.trans (congrArg some HLEN.out.symm)) ?_)
  |(go_at_call 137;refine(HCE.out _ (by exact Rb)).mono ?_;rintro e w1 ⟨rfl,hb1⟩;have HA1:=((Blk.new w _ _).alloc _ |>.alloc _).kept hb1;have HB1:=((Blk.new1 w _ _ _).alloc _).kept hb1;have HC1:=(Blk.new2 w _ _ _ _).kept hb1;have ea1:=HA1.cell;have eb1:=HB1.cell;have ec1:=HC1.cell;have fa1:=HA1.frozen;have fb1:=HB1.frozen;have fc1:=HC1.frozen;have bw1:Below w.heap.size w _:=(Below.alloc1 (Below.alloc1 (Below.alloc1 (Below.refl w.heap.size w) _) _) _).via hb1;have sz1:=HC1.lt;clear hb1))
 clear fa1 fb1 fc1
 cases b1:(k.kind != 12)
 ·have hk':kind≠1∧kind≠2:=by simp at b1;omega
  have b2:(kind != 1)=true:=by simpa using hk'.1
  have b3:(kind != 2)=true:=by simpa using hk'.2
  clear hk hk'
  go_wp2_with (first
   |(go_at_call 140;refine(register_any _ _).mono ?_;rintro e w' ⟨rfl,rfl⟩)
   |(refine wpList_store_whole rfl 75 _ _ rfl _ _ _ zeros16.toArray HC1 rfl rfl rfl info_cell zeros16_one ?_;intro ws1 hs1 ho1))
  refine bodyPost_ret (v:=.tuple #[.agg zeros16.toArray,.int .i64 4]) (results_ct Tryz.results106 _ rfl rfl (run_load_blk hs1 Tryz.underlying75 rfl info_cell)) rfl (cellErrBack_zero ?_)
  exact bw1.only ho1 Om
 ·cases b4:(k.kind != 13)
  ·have hk':kind≠1∧kind≠2:=by simp at b4;omega
   have b2:(kind != 1)=true:=by simpa using hk'.1
   have b3:(kind != 2)=true:=by simpa using hk'.2
   clear hk hk'
   go_wp2_with (first
    |(go_at_call 140;refine(register_any _ _).mono ?_;rintro e w' ⟨rfl,rfl⟩)
    |(refine wpList_store_whole rfl 75 _ _ rfl _ _ _ zeros16.toArray HC1 rfl rfl rfl info_cell zeros16_one ?_;intro ws1 hs1 ho1))
   refine bodyPost_ret (v:=.tuple #[.agg zeros16.toArray,.int .i64 4]) (results_ct Tryz.results106 _ rfl rfl (run_load_blk hs1 Tryz.underlying75 rfl info_cell)) rfl (cellErrBack_zero ?_)
   exact bw1.only ho1 Om
  ·clear hk
   go_wp2_with (first
    |(go_at_call 140;refine(register_any _ _).mono ?_;rintro e w' ⟨rfl,rfl⟩)
    |(refine wpList_store_whole rfl 75 _ _ rfl _ _ _ zeros16.toArray HC1 rfl rfl rfl info_cell zeros16_one ?_;intro ws1 hs1 ho1))
   refine bodyPost_ret (v:=.tuple #[.agg zeros16.toArray,.int .i64 4]) (results_ct Tryz.results106 _ rfl rfl (run_load_blk hs1 Tryz.underlying75 rfl info_cell)) rfl (cellErrBack_zero ?_)
   exact bw1.only ho1 Om
set_option maxRecDepth 100000 in
set_option maxHeartbeats 4000000 in
theorem reply_range(c:Cel)(k:Wnt)(kind val:Int)(is:Bool)(ov:Value)(w:World)(hwf:c.wf)(ho:Ints w ov c.out)(hf:cellFine c=true)(hk:¬((k.kind≠12∧k.kind≠13)∨(kind≠1∧kind≠2)))(hr:(regOk k.reg&&regOk k.flag)=false):
  Calls Tryz.prog 106 #[celV c ov,wntV k,.int .i64 kind,.int .i64 val,.bool is] w (CelErrBack w Cel.zero 3):=by
 have hce:=fun w1 (hb:Below w.heap.size w w1)=>cellCheck_any c ov hwf w1 (ho.below hb)
 have HLEN:=hide (cellL_len (ov:=ov) hwf)
 have kk0:(wantL k)[0]?=some (.int .i64 k.kind):=rfl
 have kk2:(wantL k)[2]?=some (.int .i64 k.reg):=rfl
 have kk3:(wantL k)[3]?=some (.int .i64 k.flag):=rfl
 have he:cellErr c=0:=by simp[cellErr,hf]
 rw[he] at hce
 have HCE:=hide hce
 clear hce he hf ho hwf
 unfold celV wntV at*
 have hk':(k.kind=12∨k.kind=13)∧(kind=1∨kind=2):=by omega
 obtain⟨h1,h2⟩:=hk'
 clear hk
 go_enter Tryz.func106,Tryz.ntmps106
 go_upto_region 3 with(first
  |(refine wpList_load_whole rfl 75 _ rfl _ _ _ (Blk.alloc (Blk.alloc (Blk.new w _ _) _) _) rfl _ Tryz.underlying75 rfl (info_cell.trans (congrArg some HLEN.out.symm)) ?_)
  |(go_at_call 137;refine(HCE.out _ (by exact Rb)).mono ?_;rintro e w1 ⟨rfl,hb1⟩;have HA1:=((Blk.new w _ _).alloc _ |>.alloc _).kept hb1;have HB1:=((Blk.new1 w _ _ _).alloc _).kept hb1;have HC1:=(Blk.new2 w _ _ _ _).kept hb1;have ea1:=HA1.cell;have eb1:=HB1.cell;have ec1:=HC1.cell;have fa1:=HA1.frozen;have fb1:=HB1.frozen;have fc1:=HC1.frozen;have bw1:Below w.heap.size w _:=(Below.alloc1 (Below.alloc1 (Below.alloc1 (Below.refl w.heap.size w) _) _) _).via hb1;have sz1:=HC1.lt;clear hb1))
 clear fa1 fb1 fc1
 rcases h1 with h1|h1<;>rcases h2 with rfl|rfl
 all_goals
  rw[h1] at kk0
  clear h1
  go_upto_region 6 with fail
  cases r1:regOk k.reg
  ·clear hr
   go_wp2_with (first
    |(go_at_call 140;refine(register_any _ _).mono ?_;rintro e w' ⟨rfl,rfl⟩)
    |(refine wpList_store_whole rfl 75 _ _ rfl _ _ _ zeros16.toArray HC1 rfl rfl rfl info_cell zeros16_one ?_;intro ws1 hs1 ho1))
   refine bodyPost_ret (v:=.tuple #[.agg zeros16.toArray,.int .i64 3]) (results_ct Tryz.results106 _ rfl rfl (run_load_blk hs1 Tryz.underlying75 rfl info_cell)) rfl (cellErrBack_zero ?_)
   exact bw1.only ho1 Om
  ·have r2:regOk k.flag=false:=by simpa[r1] using hr
   clear hr
   go_wp2_with (first
    |(go_at_call 140;refine(register_any _ _).mono ?_;rintro e w' ⟨rfl,rfl⟩)
    |(refine wpList_store_whole rfl 75 _ _ rfl _ _ _ zeros16.toArray HC1 rfl rfl rfl info_cell zeros16_one ?_;intro ws1 hs1 ho1))
   refine bodyPost_ret (v:=.tuple #[.agg zeros16.toArray,.int .i64 3]) (results_ct Tryz.results106 _ rfl rfl (run_load_blk hs1 Tryz.underlying75 rfl info_cell)) rfl (cellErrBack_zero ?_)
   exact bw1.only ho1 Om
end
section
open Go.RowKit
theorem Cel.wf_set{c:Cel}(h:c.wf)(a:Nat)(v:Int):({c with regs:=c.regs.set a v}:Cel).wf:=⟨by simpa using h.1,h.2⟩
theorem Only.drew(b:Nat)(w:World):Only b w w.drew:=⟨rfl,rfl,rfl,rfl,fun _ _=>rfl⟩
set_option maxRecDepth 100000 in
set_option maxHeartbeats 2000000 in
theorem reply_sample(c:Cel)(k:Wnt)(val:Int)(is:Bool)(ov:Value)(w:World)(hwf:c.wf)(ho:Ints w ov c.out)(hf:cellFine c=true)(hk:k.kind=12)(r1:regOk k.reg=true)(r2:regOk k.flag=true):
  Calls Tryz.prog 106 #[celV c ov,wntV k,.int .i64 1,.int .i64 val,.bool is] w (CelErrBack w c 0):=by
 have hce:=fun w1 (hb:Below w.heap.size w w1)=>cellCheck_any c ov hwf w1 (ho.below hb)
 have HLEN:=hide (cellL_len (ov:=ov) hwf)
 have kk0:(wantL k)[0]?=some (.int .i64 k.kind):=rfl
 have kk2:(wantL k)[2]?=some (.int .i64 k.reg):=rfl
 have kk3:(wantL k)[3]?=some (.int .i64 k.flag):=rfl
 rw[hk] at kk0
 have HK:=hide hk
 clear hk
 have he:cellErr c=0:=by simp[cellErr,hf]
 rw[he] at hce
 have HCE:=hide hce
 have hol:c.out.length≤1048576:=by unfold cellFine at hf;simp only[decide_eq_true_eq] at hf;omega
 have HCL:=hide (fun w1 (hb:Below w.heap.size w w1)=>cloneInt_any (ho.below hb) hol)
 have hou:=cell_out (ov:=ov) hwf
 have HWF:=hide hwf
 clear hce he hf ho hwf hol
 unfold celV wntV at*
 go_enter Tryz.func106,Tryz.ntmps106
 go_upto_region 3 with(first
  |(refine wpList_load_whole rfl 75 _ rfl _ _ _ (Blk.alloc (Blk.alloc (Blk.new w _ _) _) _) rfl _ Tryz.underlying75 rfl (info_cell.trans (congrArg some HLEN.out.symm)) ?_)
  |(go_at_call 137;refine(HCE.out _ (by exact Rb)).mono ?_;rintro e w1 ⟨rfl,hb1⟩;have HA1:=((Blk.new w _ _).alloc _ |>.alloc _).kept hb1;have HB1:=((Blk.new1 w _ _ _).alloc _).kept hb1;have HC1:=(Blk.new2 w _ _ _ _).kept hb1;have ea1:=HA1.cell;have eb1:=HB1.cell;have ec1:=HC1.cell;have fa1:=HA1.frozen;have fb1:=HB1.frozen;have fc1:=HC1.frozen;have bw1:Below w.heap.size w _:=(Below.alloc1 (Below.alloc1 (Below.alloc1 (Below.refl w.heap.size w) _) _) _).via hb1;have sz1:=HC1.lt;clear hb1))
 clear fa1 fb1 fc1
 go_upto_region 9 with(go_at_call 140;refine(register_any _ _).mono ?_;rintro e w' ⟨rfl,rfl⟩)
 have hwf:=HWF.out
 go_upto_region 10 with(go_at_call 84;refine(HCL.out _ bw1).mono ?_;rintro e w2 ⟨A2,c2,rfl,hown2,hb2⟩;have HA2:=HA1.kept hb2;have HB2:=HB1.kept hb2;have HC2:=HC1.kept hb2;have bw2:=bw1.via hb2;have ea2:=HA2.cell;have fa2:=HA2.frozen;have sz2:=hb2.size;clear hb2)
 have hOn:=Only.set w2 w.heap.size 14 (.slice A2 c.out.length c2)
 have HA5:Blk (w2.setCell ⟨w.heap.size,14,none⟩ (.slice A2 c.out.length c2)) w.heap.size 75 (cellL c (.slice A2 c.out.length c2)):=(HA2.set 14 _).same (cell_set_out hwf c.out _)
 have HB5:=hOn.blk HB2 Om
 have HC5:=hOn.blk HC2 Om
 have bw5:=bw2.only hOn Om
 have own5:OwnAs 3 (w2.setCell ⟨w.heap.size,14,none⟩ (.slice A2 c.out.length c2)) (w.heap.size+1+1+1) (.slice A2 c.out.length c2) c.out:=hOn.ownAs (OwnAs.of_own hown2 Om) Om
 generalize w2.setCell ⟨w.heap.size,14,none⟩ (.slice A2 c.out.length c2)=W5 at*
 clear HA1 HB1 HC1 ea1 eb1 ec1 bw1 HA2 HB2 HC2 ea2 fa2 bw2 hown2 hOn
 have eb5:=HB5.cell
 have fa5:=HA5.frozen
 have LEN:=hide (cellL_len (ov:=.slice A2 c.out.length c2) hwf)
 have ONE:=hide (cellL_one c hwf A2 c.out.length c2)
 go_wp2_with (first
  |(refine wpList_load_whole rfl 75 _ rfl _ _ _ HA5 rfl _ Tryz.underlying75 rfl (info_cell.trans (congrArg some LEN.out.symm)) ?_)
  |(refine wpList_store_whole rfl 75 _ _ rfl _ _ _ (cellL c (.slice A2 c.out.length c2)).toArray HC5 rfl rfl (by rw[List.size_toArray,LEN.out];rfl) (info_cell.trans (congrArg some (by rw[List.size_toArray,LEN.out]))) ONE.out ?_;intro ws1 hs1 ho1))
 refine bodyPost_ret (v:=.tuple #[.agg (cellL c (.slice A2 c.out.length c2)).toArray,.int .i64 0]) (results_ct Tryz.results106 _ rfl rfl (run_load_blk hs1 Tryz.underlying75 rfl (info_cell.trans (congrArg some LEN.out.symm)))) rfl ⟨_,rfl,hwf,OwnAs.less (ho1.ownAs own5 Om) Om,(bw5).only ho1 Om⟩
set_option maxRecDepth 100000 in
set_option maxHeartbeats 2000000 in
theorem reply_queue(c:Cel)(k:Wnt)(val:Int)(is:Bool)(ov:Value)(w:World)(hwf:c.wf)(ho:Ints w ov c.out)(hf:cellFine c=true)(hk:k.kind=12)(r1:regOk k.reg=true)(r2:regOk k.flag=true):
  Calls Tryz.prog 106 #[celV c ov,wntV k,.int .i64 2,.int .i64 val,.bool is] w (CelErrBack w {c with regs:=c.regs.set k.reg.toNat (bitI is)} 0):=by
 have hce:=fun w1 (hb:Below w.heap.size w w1)=>cellCheck_any c ov hwf w1 (ho.below hb)
 have HLEN:=hide (cellL_len (ov:=ov) hwf)
 have kk0:(wantL k)[0]?=some (.int .i64 k.kind):=rfl
 have kk2:(wantL k)[2]?=some (.int .i64 k.reg):=rfl
 have kk3:(wantL k)[3]?=some (.int .i64 k.flag):=rfl
 rw[hk] at kk0
 have HK:=hide hk
 clear hk
 have he:cellErr c=0:=by simp[cellErr,hf]
 rw[he] at hce
 have HCE:=hide hce
 have hol:c.out.length≤1048576:=by unfold cellFine at hf;simp only[decide_eq_true_eq] at hf;omega
 have HCL:=hide (fun w1 (hb:Below w.heap.size w w1)=>cloneInt_any (ho.below hb) hol)
 have hou:=cell_out (ov:=ov) hwf
 have HWF:=hide hwf
 clear hce he hf ho hwf hol
 unfold celV wntV at*
 go_enter Tryz.func106,Tryz.ntmps106
 go_upto_region 3 with(first
  |(refine wpList_load_whole rfl 75 _ rfl _ _ _ (Blk.alloc (Blk.alloc (Blk.new w _ _) _) _) rfl _ Tryz.underlying75 rfl (info_cell.trans (congrArg some HLEN.out.symm)) ?_)
  |(go_at_call 137;refine(HCE.out _ (by exact Rb)).mono ?_;rintro e w1 ⟨rfl,hb1⟩;have HA1:=((Blk.new w _ _).alloc _ |>.alloc _).kept hb1;have HB1:=((Blk.new1 w _ _ _).alloc _).kept hb1;have HC1:=(Blk.new2 w _ _ _ _).kept hb1;have ea1:=HA1.cell;have eb1:=HB1.cell;have ec1:=HC1.cell;have fa1:=HA1.frozen;have fb1:=HB1.frozen;have fc1:=HC1.frozen;have bw1:Below w.heap.size w _:=(Below.alloc1 (Below.alloc1 (Below.alloc1 (Below.refl w.heap.size w) _) _) _).via hb1;have sz1:=HC1.lt;clear hb1))
 clear fa1 fb1 fc1
 go_upto_region 9 with(go_at_call 140;refine(register_any _ _).mono ?_;rintro e w' ⟨rfl,rfl⟩)
 have hwf:=HWF.out
 go_upto_region 10 with(go_at_call 84;refine(HCL.out _ bw1).mono ?_;rintro e w2 ⟨A2,c2,rfl,hown2,hb2⟩;have HA2:=HA1.kept hb2;have HB2:=HB1.kept hb2;have HC2:=HC1.kept hb2;have bw2:=bw1.via hb2;have ea2:=HA2.cell;have fa2:=HA2.frozen;have sz2:=hb2.size;clear hb2)
 have hOn:=Only.set w2 w.heap.size 14 (.slice A2 c.out.length c2)
 have HA5:Blk (w2.setCell ⟨w.heap.size,14,none⟩ (.slice A2 c.out.length c2)) w.heap.size 75 (cellL c (.slice A2 c.out.length c2)):=(HA2.set 14 _).same (cell_set_out hwf c.out _)
 have HB5:=hOn.blk HB2 Om
 have HC5:=hOn.blk HC2 Om
 have bw5:=bw2.only hOn Om
 have own5:OwnAs 3 (w2.setCell ⟨w.heap.size,14,none⟩ (.slice A2 c.out.length c2)) (w.heap.size+1+1+1) (.slice A2 c.out.length c2) c.out:=hOn.ownAs (OwnAs.of_own hown2 Om) Om
 generalize w2.setCell ⟨w.heap.size,14,none⟩ (.slice A2 c.out.length c2)=W5 at*
 clear HA1 HB1 HC1 ea1 eb1 ec1 bw1 HA2 HB2 HC2 ea2 fa2 bw2 hown2 hOn
 have eb5:=HB5.cell
 have fa5:=HA5.frozen
 have LEN:=hide (cellL_len (ov:=.slice A2 c.out.length c2) hwf)
 have ONE:=hide (cellL_one c hwf A2 c.out.length c2)
 have hr1:=r1
 unfold regOk at hr1
 simp only[decide_eq_true_eq] at hr1
 have hrr:(k.reg.toNat:Int)=k.reg:=Int.toNat_of_nonneg hr1.1
 rw[←hrr] at kk2 hr1
 generalize k.reg.toNat=r at*
 have hr4:r<4:=by omega
 have hr0:(0:Int)≤r:=by omega
 have hr4':(r:Int)<4:=by omega
 have kr:W5.cell? ⟨w.heap.size,1+r,none⟩=some (.int .i64 (c.regs.getD r 0)):=(HA5.cell _).trans (cell_reg hwf hr4)
 clear hrr r1 r2 kk3
 go_wp2_with fail
 go_region_with (go_at_call 141;refine(bit_any _ _).mono ?_;rintro e w' ⟨rfl,rfl⟩)
 all_goals
  have HA6:=((HA5.set (1+r) (.int .i64 (bitI is))).same (cell_set_reg hwf hr4 _)).drew
  have hOn:=(Only.set W5 w.heap.size (1+r) (.int .i64 (bitI is))).trans (Only.drew w.heap.size _)
  have HC6:=hOn.blk HC5 Om
  have bw6:=bw5.only hOn Om
  have own6:=hOn.ownAs own5 Om
  generalize (W5.setCell ⟨w.heap.size,1+r,none⟩ (.int .i64 (bitI is))).drew=W6 at*
  have hwf6:=Cel.wf_set hwf r (bitI is)
  have LEN6:=hide (cellL_len (ov:=.slice A2 c.out.length c2) hwf6)
  have ONE6:=hide (cellL_one _ hwf6 A2 c.out.length c2)
  go_wp2_with (first
   |(refine wpList_load_whole rfl 75 _ rfl _ _ _ HA6 rfl _ Tryz.underlying75 rfl (info_cell.trans (congrArg some LEN6.out.symm)) ?_)
   |(refine wpList_store_whole rfl 75 _ _ rfl _ _ _ (cellL {c with regs:=c.regs.set r (bitI is)} (.slice A2 c.out.length c2)).toArray HC6 rfl rfl (by rw[List.size_toArray,LEN6.out];rfl) (info_cell.trans (congrArg some (by rw[List.size_toArray,LEN6.out]))) ONE6.out ?_;intro ws1 hs1 ho1))
  refine bodyPost_ret (v:=.tuple #[.agg (cellL {c with regs:=c.regs.set r (bitI is)} (.slice A2 c.out.length c2)).toArray,.int .i64 0]) (results_ct Tryz.results106 _ rfl rfl (run_load_blk hs1 Tryz.underlying75 rfl (info_cell.trans (congrArg some LEN6.out.symm)))) rfl ⟨_,rfl,hwf6,OwnAs.less (ho1.ownAs own6 Om) Om,(bw6).only ho1 Om⟩
set_option maxRecDepth 100000 in
set_option maxHeartbeats 4000000 in
theorem reply_get(c:Cel)(k:Wnt)(kind val:Int)(is:Bool)(ov:Value)(w:World)(hwf:c.wf)(ho:Ints w ov c.out)(hf:cellFine c=true)(hk:k.kind=13)(hkk:kind=1∨kind=2)(r1:regOk k.reg=true)(r2:regOk k.flag=true):
  Calls Tryz.prog 106 #[celV c ov,wntV k,.int .i64 kind,.int .i64 val,.bool is] w (CelErrBack w {c with regs:=(if is then c.regs.set k.reg.toNat val else c.regs).set k.flag.toNat (bitI is)} 0):=by
 have b12:(kind != 1&&kind != 2)=false:=by rcases hkk with rfl|rfl<;>rfl
 cases b1:kind != 1
 all_goals
  (try(have b2:(kind != 2)=false:=by simpa[b1] using b12))
  clear b12 hkk
  have hce:=fun w1 (hb:Below w.heap.size w w1)=>cellCheck_any c ov hwf w1 (ho.below hb)
  have HLEN:=hide (cellL_len (ov:=ov) hwf)
  have kk0:(wantL k)[0]?=some (.int .i64 k.kind):=rfl
  have kk2:(wantL k)[2]?=some (.int .i64 k.reg):=rfl
  have kk3:(wantL k)[3]?=some (.int .i64 k.flag):=rfl
  rw[hk] at kk0
  have HK:=hide hk
  clear hk
  have he:cellErr c=0:=by simp[cellErr,hf]
  rw[he] at hce
  have HCE:=hide hce
  have hol:c.out.length≤1048576:=by unfold cellFine at hf;simp only[decide_eq_true_eq] at hf;omega
  have HCL:=hide (fun w1 (hb:Below w.heap.size w w1)=>cloneInt_any (ho.below hb) hol)
  have hou:=cell_out (ov:=ov) hwf
  have HWF:=hide hwf
  clear hce he hf ho hwf hol
  unfold celV wntV at*
  go_enter Tryz.func106,Tryz.ntmps106
  go_upto_region 3 with(first
   |(refine wpList_load_whole rfl 75 _ rfl _ _ _ (Blk.alloc (Blk.alloc (Blk.new w _ _) _) _) rfl _ Tryz.underlying75 rfl (info_cell.trans (congrArg some HLEN.out.symm)) ?_)
   |(go_at_call 137;refine(HCE.out _ (by exact Rb)).mono ?_;rintro e w1 ⟨rfl,hb1⟩;have HA1:=((Blk.new w _ _).alloc _ |>.alloc _).kept hb1;have HB1:=((Blk.new1 w _ _ _).alloc _).kept hb1;have HC1:=(Blk.new2 w _ _ _ _).kept hb1;have ea1:=HA1.cell;have eb1:=HB1.cell;have ec1:=HC1.cell;have fa1:=HA1.frozen;have fb1:=HB1.frozen;have fc1:=HC1.frozen;have bw1:Below w.heap.size w _:=(Below.alloc1 (Below.alloc1 (Below.alloc1 (Below.refl w.heap.size w) _) _) _).via hb1;have sz1:=HC1.lt;clear hb1))
  clear fa1 fb1 fc1
  go_upto_region 9 with(go_at_call 140;refine(register_any _ _).mono ?_;rintro e w' ⟨rfl,rfl⟩)
  have hwf:=HWF.out
  go_upto_region 10 with(go_at_call 84;refine(HCL.out _ bw1).mono ?_;rintro e w2 ⟨A2,c2,rfl,hown2,hb2⟩;have HA2:=HA1.kept hb2;have HB2:=HB1.kept hb2;have HC2:=HC1.kept hb2;have bw2:=bw1.via hb2;have ea2:=HA2.cell;have fa2:=HA2.frozen;have sz2:=hb2.size;clear hb2)
  have hOn:=Only.set w2 w.heap.size 14 (.slice A2 c.out.length c2)
  have HA5:Blk (w2.setCell ⟨w.heap.size,14,none⟩ (.slice A2 c.out.length c2)) w.heap.size 75 (cellL c (.slice A2 c.out.length c2)):=(HA2.set 14 _).same (cell_set_out hwf c.out _)
  have HB5:=hOn.blk HB2 Om
  have HC5:=hOn.blk HC2 Om
  have bw5:=bw2.only hOn Om
  have own5:OwnAs 3 (w2.setCell ⟨w.heap.size,14,none⟩ (.slice A2 c.out.length c2)) (w.heap.size+1+1+1) (.slice A2 c.out.length c2) c.out:=hOn.ownAs (OwnAs.of_own hown2 Om) Om
  generalize w2.setCell ⟨w.heap.size,14,none⟩ (.slice A2 c.out.length c2)=W5 at*
  clear HA1 HB1 HC1 ea1 eb1 ec1 bw1 HA2 HB2 HC2 ea2 fa2 bw2 hown2 hOn
  have eb5:=HB5.cell
  have fa5:=HA5.frozen
  have LEN:=hide (cellL_len (ov:=.slice A2 c.out.length c2) hwf)
  have ONE:=hide (cellL_one c hwf A2 c.out.length c2)
  have hr1:=r1
  have hr2:=r2
  unfold regOk at hr1 hr2
  simp only[decide_eq_true_eq] at hr1 hr2
  have hrr:(k.reg.toNat:Int)=k.reg:=Int.toNat_of_nonneg hr1.1
  have hff:(k.flag.toNat:Int)=k.flag:=Int.toNat_of_nonneg hr2.1
  rw[←hrr] at kk2 hr1
  rw[←hff] at kk3 hr2
  generalize k.reg.toNat=r at*
  generalize k.flag.toNat=f at*
  have hr4:r<4:=by omega
  have hf4:f<4:=by omega
  have hr0:(0:Int)≤r:=by omega
  have hr4':(r:Int)<4:=by omega
  have hf0:(0:Int)≤f:=by omega
  have hf4':(f:Int)<4:=by omega
  have kr:W5.cell? ⟨w.heap.size,1+r,none⟩=some (.int .i64 (c.regs.getD r 0)):=(HA5.cell _).trans (cell_reg hwf hr4)
  clear hrr hff r1 r2
  cases is
  ·have kf:W5.cell? ⟨w.heap.size,1+f,none⟩=some (.int .i64 (c.regs.getD f 0)):=(HA5.cell _).trans (cell_reg hwf hf4)
   clear kr
   go_wp2_with fail
   go_region_with (go_at_call 141;refine(bit_any _ _).mono ?_;rintro e w' ⟨rfl,rfl⟩)
   all_goals
    have HA6:=((HA5.set (1+f) (.int .i64 (bitI false))).same (cell_set_reg hwf hf4 _)).drew
    have hOn:=(Only.set W5 w.heap.size (1+f) (.int .i64 (bitI false))).trans (Only.drew w.heap.size _)
    have HC6:=hOn.blk HC5 Om
    have bw6:=bw5.only hOn Om
    have own6:=hOn.ownAs own5 Om
    generalize (W5.setCell ⟨w.heap.size,1+f,none⟩ (.int .i64 (bitI false))).drew=W6 at*
    have hwf6:=Cel.wf_set hwf f (bitI false)
    have LEN6:=hide (cellL_len (ov:=.slice A2 c.out.length c2) hwf6)
    have ONE6:=hide (cellL_one _ hwf6 A2 c.out.length c2)
    go_wp2_with (first
     |(refine wpList_load_whole rfl 75 _ rfl _ _ _ HA6 rfl _ Tryz.underlying75 rfl (info_cell.trans (congrArg some LEN6.out.symm)) ?_)
     |(refine wpList_store_whole rfl 75 _ _ rfl _ _ _ (cellL {c with regs:=c.regs.set f (bitI false)} (.slice A2 c.out.length c2)).toArray HC6 rfl rfl (by rw[List.size_toArray,LEN6.out];rfl) (info_cell.trans (congrArg some (by rw[List.size_toArray,LEN6.out]))) ONE6.out ?_;intro ws1 hs1 ho1))
    refine bodyPost_ret (v:=.tuple #[.agg (cellL {c with regs:=c.regs.set f (bitI false)} (.slice A2 c.out.length c2)).toArray,.int .i64 0]) (results_ct Tryz.results106 _ rfl rfl (run_load_blk hs1 Tryz.underlying75 rfl (info_cell.trans (congrArg some LEN6.out.symm)))) rfl ⟨_,rfl,hwf6,OwnAs.less (ho1.ownAs own6 Om) Om,(bw6).only ho1 Om⟩
  ·go_upto_region 16 with fail
   have HA4:=(HA5.set (1+r) (.int .i64 val)).same (cell_set_reg hwf hr4 _)
   have hOn:=Only.set W5 w.heap.size (1+r) (.int .i64 val)
   have HB4:=hOn.blk HB5 Om
   have HC4:=hOn.blk HC5 Om
   have bw4:=bw5.only hOn Om
   have own4:=hOn.ownAs own5 Om
   generalize W5.setCell ⟨w.heap.size,1+r,none⟩ (.int .i64 val)=W4 at*
   have hwf4:=Cel.wf_set hwf r val
   clear hOn HA5 HB5 HC5 bw5 own5 eb5 fa5 kr
   have eb4:=HB4.cell
   have fa4:=HA4.frozen
   have kf:W4.cell? ⟨w.heap.size,1+f,none⟩=some (.int .i64 ((c.regs.set r val).getD f 0)):=(HA4.cell _).trans (cell_reg hwf4 hf4)
   generalize (c.regs.set r val).getD f 0=oldf at kf
   go_region_with (go_at_call 141;refine(bit_any _ _).mono ?_;rintro e w' ⟨rfl,rfl⟩)
   all_goals
    have HA6:=((HA4.set (1+f) (.int .i64 (bitI true))).same (cell_set_reg hwf4 hf4 _)).drew
    have hOn:=(Only.set W4 w.heap.size (1+f) (.int .i64 (bitI true))).trans (Only.drew w.heap.size _)
    have HC6:=hOn.blk HC4 Om
    have bw6:=bw4.only hOn Om
    have own6:=hOn.ownAs own4 Om
    generalize (W4.setCell ⟨w.heap.size,1+f,none⟩ (.int .i64 (bitI true))).drew=W6 at*
    have hwf6:=Cel.wf_set hwf4 f (bitI true)
    have LEN6:=hide (cellL_len (ov:=.slice A2 c.out.length c2) hwf6)
    have ONE6:=hide (cellL_one _ hwf6 A2 c.out.length c2)
    go_wp2_with (first
     |(refine wpList_load_whole rfl 75 _ rfl _ _ _ HA6 rfl _ Tryz.underlying75 rfl (info_cell.trans (congrArg some LEN6.out.symm)) ?_)
     |(refine wpList_store_whole rfl 75 _ _ rfl _ _ _ (cellL {c with regs:=(c.regs.set r val).set f (bitI true)} (.slice A2 c.out.length c2)).toArray HC6 rfl rfl (by rw[List.size_toArray,LEN6.out];rfl) (info_cell.trans (congrArg some (by rw[List.size_toArray,LEN6.out]))) ONE6.out ?_;intro ws1 hs1 ho1))
    refine bodyPost_ret (v:=.tuple #[.agg (cellL {c with regs:=(c.regs.set r val).set f (bitI true)} (.slice A2 c.out.length c2)).toArray,.int .i64 0]) (results_ct Tryz.results106 _ rfl rfl (run_load_blk hs1 Tryz.underlying75 rfl (info_cell.trans (congrArg some LEN6.out.symm)))) rfl ⟨_,rfl,hwf6,OwnAs.less (ho1.ownAs own6 Om) Om,(bw6).only ho1 Om⟩
end
section
open Go.RowKit
set_option maxRecDepth 100000
theorem stepO{p:Prt}{c c':Cel}{k':Wnt}{cv iv ov:Value}{w:World}(hc:Code_ w cv p.code)(hi:Ints w iv p.inp)(ho:Ints w ov c.out)(hwf:c.wf)(h0:stepErr p c=0)(hs:stepOf p c=(c',k')):
  Calls Tryz.prog 103 #[.agg #[cv,iv],celV c ov] w fun e w'=>∃A k,e=.returned (.tuple #[celV c' (.slice A c'.out.length k),wntV k',.int .i64 0])∧OwnRes w w' (fun u=>OwnInts u 0 (.slice A c'.out.length k) c'.out)∧Below w.heap.size w w':=by
 have:=cellStep_any p c cv iv ov w hwf ho hc hi
 rw[if_pos h0,hs] at this
 refine this.mono fun e w' ⟨ov',he,_,hown,hb⟩=>?_
 obtain⟨A,k,rfl⟩:=hown.form rfl
 exact⟨A,k,he,OwnRes.ownB hown.own,hb⟩
theorem reply_all(c:Cel)(k:Wnt)(kind val:Int)(is:Bool)(ov:Value)(w:World)(hwf:c.wf)(ho:Ints w ov c.out):
  Calls Tryz.prog 106 #[celV c ov,wntV k,.int .i64 kind,.int .i64 val,.bool is] w (CelErrBack w (if replyErr c k kind=0 then replyOf c k kind val is else Cel.zero) (replyErr c k kind)):=by
 cases hf:cellFine c with
 |false=>
  have e:replyErr c k kind=1:=by simp[replyErr,hf]
  rw[e,if_neg Dc]
  exact reply_form c k kind val is ov w hwf ho hf
 |true=>
  by_cases hk:(k.kind≠12∧k.kind≠13)∨(kind≠1∧kind≠2)
  ·have e:replyErr c k kind=4:=by unfold replyErr;rw[if_neg (by simp[hf]),if_pos hk]
   rw[e,if_neg Dc]
   exact reply_kind c k kind val is ov w hwf ho hf hk
  ·cases hr:(regOk k.reg&&regOk k.flag) with
   |false=>
    have e:replyErr c k kind=3:=by unfold replyErr;rw[if_neg (by simp[hf]),if_neg hk,if_neg (by simp[hr])]
    rw[e,if_neg Dc]
    exact reply_range c k kind val is ov w hwf ho hf hk hr
   |true=>
    have e:replyErr c k kind=0:=by unfold replyErr;rw[if_neg (by simp[hf]),if_neg hk,if_pos hr]
    rw[e,if_pos rfl]
    have hrr:regOk k.reg=true∧regOk k.flag=true:=by simpa using hr
    by_cases h12:k.kind=12
    ·have hkk:kind=1∨kind=2:=by omega
     rcases hkk with rfl|rfl
     ·have:replyOf c k 1 val is=c:=by simp[replyOf,h12]
      rw[this]
      exact reply_sample c k val is ov w hwf ho hf h12 hrr.1 hrr.2
     ·have:replyOf c k 2 val is={c with regs:=c.regs.set k.reg.toNat (bitI is)}:=by simp[replyOf,h12]
      rw[this]
      exact reply_queue c k val is ov w hwf ho hf h12 hrr.1 hrr.2
    ·have:replyOf c k kind val is={c with regs:=(if is then c.regs.set k.reg.toNat val else c.regs).set k.flag.toNat (bitI is)}:=by simp[replyOf,h12]
     rw[this]
     exact reply_get c k kind val is ov w hwf ho hf Om Om hrr.1 hrr.2
theorem replyO{c c':Cel}{k:Wnt}{kind val:Int}{is:Bool}{ov:Value}{w:World}(ho:Ints w ov c.out)(hwf:c.wf)(h0:replyErr c k kind=0)(hs:replyOf c k kind val is=c'):
  Calls Tryz.prog 106 #[celV c ov,wntV k,.int .i64 kind,.int .i64 val,.bool is] w fun e w'=>∃A n,e=.returned (.tuple #[celV c' (.slice A c'.out.length n),.int .i64 0])∧OwnRes w w' (fun u=>OwnInts u 0 (.slice A c'.out.length n) c'.out)∧Below w.heap.size w w':=by
 have:=reply_all c k kind val is ov w hwf ho
 rw[h0,if_pos rfl,hs] at this
 refine this.mono fun e w' ⟨ov',he,_,hown,hb⟩=>?_
 obtain⟨A,k,rfl⟩:=hown.form rfl
 exact⟨A,k,he,OwnRes.ownB hown.own,hb⟩
end
section
open Go.ChangeShapes Go.WideShapes Go.ChangeAt Go.RowKit
set_option maxRecDepth 100000
section
variable {H:Type} {enc:TypeId×Value→H} {w:World} {base base':Nat} {r:Reach} {spare:Nat→Bool} {held:Bool} {v:Value} {d:DataW H} {p:List MemPlace}
end
theorem doOf_wf{i:Ins}{c:Cel}{inp:List Int}{x:Cel×Wnt}(h:c.wf)(hd:doOf i c inp=some x):x.1.wf:=by
 unfold doOf at hd
 dsimp only at hd
 split at hd
 all_goals(try split at hd)
 all_goals(try cases hd)
 all_goals first|exact h|exact⟨by simpa using h.1,by simpa using h.2⟩
theorem stepOf_wf{p:Prt}{c:Cel}(h:c.wf):(stepOf p c).1.wf:=by
 unfold stepOf
 split
 ·exact h
 ·split
  ·exact h
  ·split
   ·exact h
   ·rename_i hd
    exact doOf_wf h hd
theorem replyOf_wf{c:Cel}{k:Wnt}{kind val:Int}{is:Bool}(h:c.wf):(replyOf c k kind val is).wf:=by
 unfold replyOf
 split
 ·split
  ·exact⟨by simpa using h.1,h.2⟩
  ·exact h
 ·refine⟨?_,h.2⟩
  cases is<;>simpa using h.1
end
section
open Go.ChangeShapes Go.WideShapes Go.ChangeAt Go.RowKit
set_option maxRecDepth 100000
theorem chkIns_op{i:Ins}(h:chkIns i=0):(1≤i.op∧i.op≤15)∧(i.op=8∨i.op=9→0≤i.n∧i.n<20)∧(i.op=12∨i.op=13→0≤i.n∧i.n<6):=by
 unfold chkIns chkI at h
 by_cases h1:¬(1≤i.op∧i.op≤15)
 ·rw[if_pos h1] at h;cases h
 ·rw[if_neg h1] at h
  by_cases h2:(hasA i.op&& !regOk i.a||hasB i.op&& !regOk i.b)=true
  ·rw[if_pos h2] at h;cases h
  ·rw[if_neg h2] at h
   by_cases h3:numOk i.op i.n=false
   ·rw[if_pos h3] at h;cases h
   ·have h4:numOk i.op i.n=true:=by simpa using h3
    refine⟨by simpa using h1,fun h8=>?_,fun h12=>?_⟩
    ·unfold numOk at h4
     rw[if_pos h8] at h4
     simpa using h4
    ·unfold numOk at h4
     rw[if_neg Om,if_pos h12] at h4
     simpa using h4
structure Goes(c d:Cel)(n:Nat):Prop where
 fine:cellFine d=true
 read:d.read≤n
 told:d.out.take c.out.length=c.out
 len:c.out.length≤d.out.length
 lo:c.read≤d.read
 hi:d.read≤c.read+1
theorem doOf_goes{i:Ins}{c:Cel}{inp:List Int}{x:Cel×Wnt}(hi:chkIns i=0)(hd:doOf i c inp=some x)(hf:cellFine c=true)(hat:c.at_<20)(hrd:c.read≤inp.length)(hin:inp.length≤12):Goes c x.1 inp.length:=by
 obtain⟨hop,hj,-⟩:=chkIns_op hi
 have hf':0≤c.at_∧c.at_≤20∧0≤c.read∧c.read≤12∧0≤c.end_∧c.end_≤2∧c.out.length≤16:=by simpa[cellFine] using hf
 unfold doOf at hd
 dsimp only at hd
 split at hd
 all_goals(try split at hd)
 all_goals first|(cases hd;done)|(simp only[Option.some.injEq] at hd;subst hd)
 all_goals refine⟨?_,?_,?_,?_,?_,?_⟩
 all_goals simp only[cellFine,decide_eq_true_eq]
 all_goals first
  |omega
  |(simp;done)
  |(split<;>first|omega|(simp;done)|(simp;omega))
  |(repeat' split)<;>first|omega|(simp;done)|(simp;omega)
theorem stepErr_zero{p:Prt}{c:Cel}(h0:stepErr p c=0):chkCode p.code=0∧p.inp.length≤12∧cellFine c=true∧c.read≤p.inp.length:=by
 unfold stepErr at h0
 split at h0
 ·exact absurd h0 Am
 ·split at h0
  ·cases h0
  ·split at h0
   ·rename_i h1 h2 h3
    exact⟨by simpa using h1,by omega,h3.1,h3.2⟩
   ·cases h0
theorem stepOf_goes{p:Prt}{c:Cel}(h0:stepErr p c=0):Goes c (stepOf p c).1 p.inp.length∧(c.end_≠0→stepOf p c=(c,Wnt.zero)):=by
 obtain⟨hc,hin,hf,hr⟩:=stepErr_zero h0
 obtain⟨⟨hl1,hl2⟩,hall⟩:=chkCode_all hc
 have hf':0≤c.at_∧c.at_≤20∧0≤c.read∧c.read≤12∧0≤c.end_∧c.end_≤2∧c.out.length≤16:=by simpa[cellFine] using hf
 have self:Goes c c p.inp.length:=⟨hf,hr,by simp,by omega,by omega,by omega⟩
 have fault:Goes c {c with end_:=2} p.inp.length:=⟨by simp[cellFine];omega,hr,by simp,by simp,by simp,by simp;omega⟩
 refine⟨?_,fun he=>by unfold stepOf;rw[if_pos he]⟩
 unfold stepOf
 split
 ·exact self
 ·split
  ·exact fault
  ·rename_i i hi
   have hlt:=(List.getElem?_eq_some_iff.1 hi).1
   split
   ·exact fault
   ·rename_i x hx
    exact doOf_goes (hall i (List.mem_of_getElem? hi)) hx hf Om hr Om
end
end Go.Proofs.YtndcjmopebcdgaaGreatDoor
