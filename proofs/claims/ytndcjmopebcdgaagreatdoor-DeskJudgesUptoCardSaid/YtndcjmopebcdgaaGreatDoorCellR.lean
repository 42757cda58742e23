/- The reference's StepOf answers stepOf: a cell that has ended, or stands behind the program. The reference's StepOf answers stepOf: an instruction is done. The reference's StepOf answers stepOf: In and Out. The reference's ReplyOf. -/
import Derived.Test.YtndcjmopebcdgaaGreatDoorCellB
import Derived.Deep.CutBlock
import Derived.Test.YtndcjmopebcdgaaGreatDoorTys
import Derived.Test.YtndcjmopebcdgaaGreatDoorSysB
import Derived.Test.YtndcjmopebcdgaaGreatDoorDkP
set_option linter.unusedSimpArgs false
set_option linter.unusedVariables false
namespace Go.Proofs.YtndcjmopebcdgaaGreatDoor
section
open Go.RowKit
def CelWantBack(w0:World)(r:Cel×Wnt)(e:Ending)(w':World):Prop:=
 ∃ov,e=.returned (.tuple #[celV r.1 ov,wntV r.2])∧r.1.wf∧OwnAs 3 w' w0.heap.size ov r.1.out∧Below w0.heap.size w0 w'
theorem ownCell_abs(c:Cel)(ov:Value)(hwf:c.wf)(w:World)(ho:Ints w ov c.out)(hlen:c.out.length≤1048576)(w1:World)(hb:Below w.heap.size w w1):
 Calls Tryz.prog 145 #[.agg (cellL c ov).toArray] w1 fun e w'=>∃A k,e=.returned (.agg (cellL c (.slice A c.out.length k)).toArray)∧OwnAs 3 w' w1.heap.size (.slice A c.out.length k) c.out∧Below w1.heap.size w1 w':=
 (ownCell_any c ov hwf w1 (ho.below hb) hlen).mono fun e w' ⟨ov',he,_,hown,hb'⟩=>by
  obtain⟨A,k,rfl⟩:=hown.form rfl
  exact⟨A,k,he,hown,hb'⟩
theorem regs_set(r0 r1 r2 r3 v:Int){r:Nat}(hr:r<4):∃q0 q1 q2 q3:Int,[r0,r1,r2,r3].set r v=[q0,q1,q2,q3]∧∀x m0 m1 m2 m3 m4 m5 m6 m7 rd ov en:Value,
 ([x,.int .i64 r0,.int .i64 r1,.int .i64 r2,.int .i64 r3,m0,m1,m2,m3,m4,m5,m6,m7,rd,ov,en]:List Value).set (0+1+r*1) (.int .i64 v)=[x,.int .i64 q0,.int .i64 q1,.int .i64 q2,.int .i64 q3,m0,m1,m2,m3,m4,m5,m6,m7,rd,ov,en]:=by
 match r,hr with
 |0,_=>exact⟨v,r1,r2,r3,rfl,fun _ _ _ _ _ _ _ _ _ _ _ _=>rfl⟩
 |1,_=>exact⟨r0,v,r2,r3,rfl,fun _ _ _ _ _ _ _ _ _ _ _ _=>rfl⟩
 |2,_=>exact⟨r0,r1,v,r3,rfl,fun _ _ _ _ _ _ _ _ _ _ _ _=>rfl⟩
 |3,_=>exact⟨r0,r1,r2,v,rfl,fun _ _ _ _ _ _ _ _ _ _ _ _=>rfl⟩
theorem regs_get(r0 r1 r2 r3:Int){r:Nat}(hr:r<4)(x:Value)(l:List Value):(x::.int .i64 r0::.int .i64 r1::.int .i64 r2::.int .i64 r3::l)[0+1+r*1]?=some (.int .i64 ([r0,r1,r2,r3].getD r 0)):=by
 match r,hr with
 |0,_=>rfl
 |1,_=>rfl
 |2,_=>rfl
 |3,_=>rfl
theorem cell_set_end{c:Cel}{ov:Value}(h:c.wf)(v:Int):(cellL c ov).set 15 (.int .i64 v)=cellL {c with end_:=v} ov:=by
 obtain⟨at_,regs,mem,read,out,end_⟩:=c
 obtain⟨a0,a1,a2,a3,hr⟩:=len_four h.1
 obtain⟨m0,m1,m2,m3,m4,m5,m6,m7,hm⟩:=len_eight h.2
 simp only at hr hm
 subst hr hm
 rfl
set_option maxRecDepth 100000 in
set_option maxHeartbeats 1000000 in
theorem stepR_ended(p:Prt)(c:Cel)(cv iv ov:Value)(w:World)(hwf:c.wf)(ho:Ints w ov c.out)(hol:c.out.length≤1048576)(he:c.end_≠0):
 Calls Tryz.prog 116 #[.agg #[cv,iv],celV c ov] w (CelWantBack w (stepOf p c)):=by
 have hst:stepOf p c=(c,Wnt.zero):=by unfold stepOf;rw[if_pos he]
 rw[hst]
 have d4:(c.end_ != 0)=true:=by simpa using he
 have HWF:=hide hwf
 have hen:=cell_end (ov:=ov) hwf
 have HLEN:=hide (cellL_len (ov:=ov) hwf)
 have HOWN:=hide (ownCell_abs c ov hwf w ho hol)
 have HONE:=hide (fun A1 c1=>cellL_one c hwf A1 c.out.length c1)
 have HL2:=hide (fun A1 c1=>cellL_len (ov:=.slice A1 c.out.length c1) hwf)
 have hen2:=fun A1 c1=>cell_end (ov:=.slice A1 c.out.length c1) hwf
 clear he hst ho hol hwf
 unfold celV at*
 go_enter Tryz.func116,Tryz.ntmps116
 go_upto_region 2 with(first
  |(refine wpList_load_whole rfl 75 _ rfl _ _ _ ((Blk.new1 w _ _ _).alloc _ |>.alloc _) rfl _ Tryz.underlying75 rfl (info_cell.trans (congrArg some HLEN.out.symm)) ?_)
  |(go_at_call 145;refine(HOWN.out _ (by exact Rb)).mono ?_;rintro e w1 ⟨A1,c1,rfl,hown1,hb1⟩;have HA1:=(((Blk.new w _ _).alloc _).alloc _ |>.alloc _).kept hb1;have HB1:=((Blk.new1 w _ _ _).alloc _ |>.alloc _).kept hb1;have HC1:=((Blk.new2 w _ _ _ _).alloc _).kept hb1;have HD1:=(Blk.new3 w _ _ _ _ _).kept hb1;have ea1:=HA1.cell;have eb1:=HB1.cell;have ec1:=HC1.cell;have ed1:=HD1.cell;have fa1:=HA1.frozen;have fb1:=HB1.frozen;have fc1:=HC1.frozen;have fd1:=HD1.frozen;have bw1:Below w.heap.size w _:=(Below.alloc1 (Below.alloc1 (Below.alloc1 (Below.alloc1 (Below.refl w.heap.size w) _) _) _) _).via hb1;have sz1:=HD1.lt;clear hb1)
  |(refine wpList_store_list rfl 75 _ _ rfl _ _ _ (cellL c (.slice A1 c.out.length c1)) HB1 rfl rfl HLEN.out (HL2.out A1 c1) info_cell (HONE.out A1 c1) ?_;intro w2 HB2 hO2;have HA2:=hO2.blk HA1 Om;have HC2:=hO2.blk HC1 Om;have HD2:=hO2.blk HD1 Om;have bw2:=bw1.only hO2 Om;have own2:OwnAs 3 w2 (w.heap.size+1+1+1+1) (.slice A1 c.out.length c1) c.out:=hO2.ownAs (OwnAs.less hown1 Si) Om;have sz2:=HD2.lt;clear HA1 HB1 HC1 HD1 bw1 ea1 eb1 ec1 ed1 fa1 fb1 fc1 fd1 hown1 hO2 sz1))
 have ea2:=HA2.cell
 have eb2:=HB2.cell
 have fb2:=HB2.frozen
 replace hen2:=hen2 A1 c1
 go_wp2_with (first
  |(refine wpList_load_whole rfl 75 _ rfl _ _ _ HB2 rfl _ Tryz.underlying75 rfl (info_cell.trans (congrArg some (HL2.out A1 c1).symm)) ?_)
  |(refine wpList_store_list rfl 75 _ _ rfl _ _ _ (cellL c (.slice A1 c.out.length c1)) HC2 rfl rfl rfl (HL2.out A1 c1) info_cell (HONE.out A1 c1) ?_;intro ws1 hs1 ho1;have HS2:=ho1.blk HD2 Om)
  |(refine wpList_store_list rfl 191 _ _ rfl _ _ _ zeros5 HS2 rfl rfl rfl rfl info_want zeros5_one ?_;intro ws2 hs2 ho2;have hs3:=ho2.blk hs1 Om))
 refine bodyPost_ret (v:=.tuple #[.agg (cellL c (.slice A1 c.out.length c1)).toArray,.agg zeros5.toArray]) (results_cc Tryz.results116 _ rfl rfl (run_load_blk hs3 Tryz.underlying75 rfl (info_cell.trans (congrArg some (HL2.out A1 c1).symm))) (run_load_blk hs2 Tryz.underlying191 rfl info_want)) rfl ⟨_,rfl,HWF.out,OwnAs.less (ho2.ownAs (ho1.ownAs own2 Om) Om) Om,(bw2.only ho1 Om).only ho2 Om⟩
set_option maxRecDepth 100000 in
set_option maxHeartbeats 1000000 in
theorem stepR_past(p:Prt)(c:Cel)(cv iv ov:Value)(w:World)(hwf:c.wf)(ho:Ints w ov c.out)(hol:c.out.length≤1048576)(hc:Code_ w cv p.code)(he:c.end_=0)(h0:0≤c.at_)(hp:p.code.length≤c.at_):
 Calls Tryz.prog 116 #[.agg #[cv,iv],celV c ov] w (CelWantBack w (stepOf p c)):=by
 have hst:stepOf p c=({c with end_:=2},Wnt.zero):=by
  unfold stepOf
  rw[if_neg (by simp[he]),List.getElem?_eq_none Om]
 rw[hst]
 have d4:(c.end_ != 0)=false:=by simp[he]
 obtain⟨A,cap,rfl⟩:=hc.form rfl
 have d5:decide ((p.code.length:Int)≤c.at_)=true:=by simpa using hp
 generalize p.code.length=m at*
 have HWF:=hide hwf
 have hen:=cell_end (ov:=ov) hwf
 have HLEN:=hide (cellL_len (ov:=ov) hwf)
 have HOWN:=hide (ownCell_abs c ov hwf w ho hol)
 have HONE:=hide (fun A1 c1=>cellL_one c hwf A1 c.out.length c1)
 have HL2:=hide (fun A1 c1=>cellL_len (ov:=.slice A1 c.out.length c1) hwf)
 have hen2:=fun A1 c1=>cell_end (ov:=.slice A1 c.out.length c1) hwf
 have hat2:=fun A1 c1=>cell_at (c:=c) (ov:=.slice A1 c.out.length c1)
 clear he hst ho hol hwf hc hp h0
 unfold celV at*
 go_enter Tryz.func116,Tryz.ntmps116
 go_upto_region 2 with(first
  |(refine wpList_load_whole rfl 75 _ rfl _ _ _ ((Blk.new1 w _ _ _).alloc _ |>.alloc _) rfl _ Tryz.underlying75 rfl (info_cell.trans (congrArg some HLEN.out.symm)) ?_)
  |(go_at_call 145;refine(HOWN.out _ (by exact Rb)).mono ?_;rintro e w1 ⟨A1,c1,rfl,hown1,hb1⟩;have HA1:=(((Blk.new w _ _).alloc _).alloc _ |>.alloc _).kept hb1;have HB1:=((Blk.new1 w _ _ _).alloc _ |>.alloc _).kept hb1;have HC1:=((Blk.new2 w _ _ _ _).alloc _).kept hb1;have HD1:=(Blk.new3 w _ _ _ _ _).kept hb1;have ea1:=HA1.cell;have eb1:=HB1.cell;have ec1:=HC1.cell;have ed1:=HD1.cell;have fa1:=HA1.frozen;have fb1:=HB1.frozen;have fc1:=HC1.frozen;have fd1:=HD1.frozen;have bw1:Below w.heap.size w _:=(Below.alloc1 (Below.alloc1 (Below.alloc1 (Below.alloc1 (Below.refl w.heap.size w) _) _) _) _).via hb1;have sz1:=HD1.lt;clear hb1)
  |(refine wpList_store_list rfl 75 _ _ rfl _ _ _ (cellL c (.slice A1 c.out.length c1)) HB1 rfl rfl HLEN.out (HL2.out A1 c1) info_cell (HONE.out A1 c1) ?_;intro w2 HB2 hO2;have HA2:=hO2.blk HA1 Om;have HC2:=hO2.blk HC1 Om;have HD2:=hO2.blk HD1 Om;have bw2:=bw1.only hO2 Om;have own2:OwnAs 3 w2 (w.heap.size+1+1+1+1) (.slice A1 c.out.length c1) c.out:=hO2.ownAs (OwnAs.less hown1 Si) Om;have sz2:=HD2.lt;clear HA1 HB1 HC1 HD1 bw1 ea1 eb1 ec1 ed1 fa1 fb1 fc1 fd1 hown1 hO2 sz1))
 have ea2:=HA2.cell
 have eb2:=HB2.cell
 have fb2:=HB2.frozen
 replace hen2:=hen2 A1 c1
 replace hat2:=hat2 A1 c1
 go_upto_region 6 with fail
 have HB3:=(HB2.set 15 (.int .i64 2)).same (cell_set_end HWF.out 2)
 have hO3:=Only.set w2 (w.heap.size+1) 15 (.int .i64 2)
 have HC3:=hO3.blk HC2 Om
 have HD3:=hO3.blk HD2 Om
 have bw3:=bw2.only hO3 Om
 have own3:=hO3.ownAs own2 Om
 generalize w2.setCell ⟨w.heap.size+1,15,none⟩ (.int .i64 2)=w3 at*
 have hwf3:({c with end_:=2}:Cel).wf:=HWF.out
 go_wp2_with (first
  |(refine wpList_load_whole rfl 75 _ rfl _ _ _ HB3 rfl _ Tryz.underlying75 rfl (info_cell.trans (congrArg some (cellL_len (ov:=.slice A1 c.out.length c1) hwf3).symm)) ?_)
  |(refine wpList_store_list rfl 75 _ _ rfl _ _ _ (cellL {c with end_:=2} (.slice A1 c.out.length c1)) HC3 rfl rfl rfl (cellL_len (ov:=.slice A1 c.out.length c1) hwf3) info_cell (cellL_one _ hwf3 A1 c.out.length c1) ?_;intro ws1 hs1 ho1;have HS2:=ho1.blk HD3 Om)
  |(refine wpList_store_list rfl 191 _ _ rfl _ _ _ zeros5 HS2 rfl rfl rfl rfl info_want zeros5_one ?_;intro ws2 hs2 ho2;have hs3:=ho2.blk hs1 Om))
 refine bodyPost_ret (v:=.tuple #[.agg (cellL {c with end_:=2} (.slice A1 c.out.length c1)).toArray,.agg zeros5.toArray]) (results_cc Tryz.results116 _ rfl rfl (run_load_blk hs3 Tryz.underlying75 rfl (info_cell.trans (congrArg some (cellL_len (ov:=.slice A1 c.out.length c1) hwf3).symm))) (run_load_blk hs2 Tryz.underlying191 rfl info_want)) rfl ⟨_,rfl,hwf3,OwnAs.less (ho2.ownAs (ho1.ownAs own3 Om) Om) Om,(bw3.only ho1 Om).only ho2 Om⟩
end
section
open Go.RowKit
theorem within_true(n lo hi:Int)(h:lo≤n∧n≤hi)(w:World):Calls Tryz.prog 23 #[.int .i64 n,.int .i64 lo,.int .i64 hi] w fun e w'=>e=.returned (.bool true)∧w=w':=by
 have:=within_any n lo hi w
 rwa [show(decide (lo≤n)&&decide (n≤hi))=true by simp[h.1,h.2]] at this
theorem within_false(n lo hi:Int)(h:¬(lo≤n∧n≤hi))(w:World):Calls Tryz.prog 23 #[.int .i64 n,.int .i64 lo,.int .i64 hi] w fun e w'=>e=.returned (.bool false)∧w=w':=by
 have:=within_any n lo hi w
 rwa [show(decide (lo≤n)&&decide (n≤hi))=false by rw[Bool.and_eq_false_iff,decide_eq_false_iff_not,decide_eq_false_iff_not];omega] at this
theorem cell_mem{c:Cel}{ov:Value}(h:c.wf){a:Nat}(ha:a<8):(cellL c ov)[5+a]?=some (.int .i64 (c.mem.getD a 0)):=by
 have:=work_mem (ov:=ov) (iv:=.nilIface) (k:=Wnt.zero) h ha
 unfold workL at this
 rwa [List.getElem?_append_left (by rw[cellL_len h];omega)] at this
theorem cell_set_mem{c:Cel}{ov:Value}(h:c.wf){a:Nat}(ha:a<8)(v:Int):(cellL c ov).set (5+a) (.int .i64 v)=cellL {c with mem:=c.mem.set a v} ov:=by
 obtain⟨at_,regs,mem,read,out,end_⟩:=c
 obtain⟨a0,a1,a2,a3,hr⟩:=len_four h.1
 obtain⟨m0,m1,m2,m3,m4,m5,m6,m7,hm⟩:=len_eight h.2
 simp only at hr hm
 subst hr hm
 match a,ha with
 |0,_=>rfl
 |1,_=>rfl
 |2,_=>rfl
 |3,_=>rfl
 |4,_=>rfl
 |5,_=>rfl
 |6,_=>rfl
 |7,_=>rfl
def SRJoin(r:Cel×Wnt)(w:World)(F:Nat)(s7:Value)(wc:World):Prop:=
 ∃c' k' nx A n k,r=(({c' with at_:=nx}:Cel),k')∧s7=.int .i64 nx∧c'.wf∧c'.out.length=n∧Blk wc (w.heap.size+1) 75 (cellL c' (.slice A n k))∧Blk wc (w.heap.size+1+1) 75 zeros16∧
  Blk wc (w.heap.size+1+1+1) 191 zeros5∧Blk wc F 191 (wantL k')∧OwnAs 3 wc (w.heap.size+1+1+1+1) (.slice A n k) c'.out∧Below w.heap.size w wc
theorem SRJoin.cell{r:Cel×Wnt}{w W wc:World}{F:Nat}{c':Cel}{nx:Int}{A:Option Addr}{n k:Nat}(hr:r=(({c' with at_:=nx}:Cel),Wnt.zero))(hwf:c'.wf)(hn:c'.out.length=n)(hB:Blk wc (w.heap.size+1) 75 (cellL c' (.slice A n k)))
 (hO:Only (w.heap.size+1) W wc) (hC:Blk W (w.heap.size+1+1) 75 zeros16) (hD:Blk W (w.heap.size+1+1+1) 191 zeros5) (hF:Blk W F 191 zeros5) (hown:OwnAs 3 W (w.heap.size+1+1+1+1) (.slice A n k) c'.out)
 (hb:Below w.heap.size w W) (hf:w.heap.size+1+1+1<F):SRJoin r w F (.int .i64 nx) wc:=
 ⟨c',Wnt.zero,nx,A,n,k,hr,rfl,hwf,hn,hB,hO.blk hC Om,hO.blk hD Om,hO.blk hF Om,hO.ownAs hown Om,hb.only hO Om⟩
theorem Only.ownNe{b:Nat}{w w':World}(h:Only b w w'){T:TypeId}{base:Nat}{v:Value}{xs:List Int}(ho:OwnAs T w base v xs)(hne:∀g,v.ownBlock=some g→g≠b):OwnAs T w' base v xs:=by
 refine⟨ho.1,?_⟩
 rcases ho.2 with h2|⟨g,cap,cur,hv,hg,hh,r⟩
 ·exact .inl h2
 ·exact .inr ⟨g,cap,cur,hv,hg,(h.block g (hne g (by rw[hv];simp[Value.ownBlock]))).trans hh,r⟩
theorem SRJoin.want{r:Cel×Wnt}{w W wc:World}{F:Nat}{c':Cel}{k':Wnt}{nx:Int}{A:Option Addr}{n k:Nat}(hr:r=(({c' with at_:=nx}:Cel),k'))(hwf:c'.wf)(hn:c'.out.length=n)(hB:Blk W (w.heap.size+1) 75 (cellL c' (.slice A n k)))
 (hO:Only F W wc) (hC:Blk W (w.heap.size+1+1) 75 zeros16) (hD:Blk W (w.heap.size+1+1+1) 191 zeros5) (hF:Blk wc F 191 (wantL k')) (hown:OwnAs 3 W (w.heap.size+1+1+1+1) (.slice A n k) c'.out)
 (hb:Below w.heap.size w W) (hf:w.heap.size+1+1+1<F) (hg:∀g,(Value.slice A n k).ownBlock=some g→g<F):SRJoin r w F (.int .i64 nx) wc:=
 ⟨c',k',nx,A,n,k,hr,rfl,hwf,hn,hO.blk hB Om,hO.blk hC Om,hO.blk hD Om,hF,hO.ownNe hown (fun g h=>by have:=hg g h;omega),hb.only hO Om⟩
set_option maxRecDepth 100000 in
set_option maxHeartbeats 4000000 in
theorem stepR_ins(p:Prt)(c:Cel)(cv iv ov:Value)(w:World)(hwf:c.wf)(ho:Ints w ov c.out)(hol:c.out.length≤1048576)(hc:Code_ w cv p.code)(hi:Ints w iv p.inp)(hcode:∀i∈p.code,chkIns i=0)(he:c.end_=0)(h0:0≤c.at_)(h20:c.at_≤20)(hp:c.at_<p.code.length)
 (hrd0:0≤c.read) (hrd1:c.read≤p.inp.length) (hrd2:c.read≤12) (hno:∀i,p.code[c.at_.toNat]?=some i→i.op≠10∧i.op≠11):
 Calls Tryz.prog 116 #[.agg #[cv,iv],celV c ov] w (CelWantBack w (stepOf p c)):=by
 have d4:(c.end_ != 0)=false:=by simp[he]
 obtain⟨A,cap,rfl,hcc,hm,hr⟩:=hc
 obtain⟨at',ha⟩:=Int.eq_ofNat_of_zero_le h0
 have hal:at'<p.code.length:=by omega
 obtain⟨ad,rfl,hcell0,hcell⟩:=flat_at Ins.cells_len hr hal
 have hd:chkIns p.code[at']=0:=hcode _ (List.getElem_mem hal)
 have hst:stepOf p c=match doOf p.code[at'] c p.inp with
  |none=>({c with end_:=2},Wnt.zero)
  |some r=>r:=by
  unfold stepOf
  rw[if_neg (by simp[he]),ha,Int.toNat_natCast,List.getElem?_eq_getElem hal]
  rfl
 have HNO:=hide (hno _ (by rw[ha,Int.toNat_natCast];exact List.getElem?_eq_getElem hal))
 clear hno
 generalize p.code[at']=i at*
 have d5:decide ((p.code.length:Int)≤(at':Int))=false:=by simp<;>omega
 have dl:(at':Int)<(p.code.length:Int):=by omega
 have dl0:(0:Int)≤(at':Int):=by omega
 generalize p.code.length=m at*
 obtain⟨Ai,ci,rfl⟩:=hi.form rfl
 have HWF:=hide hwf
 have hen:=cell_end (ov:=ov) hwf
 have HLEN:=hide (cellL_len (ov:=ov) hwf)
 have HOWN:=hide (ownCell_abs c ov hwf w ho hol)
 have HONE:=hide (fun A1 c1=>cellL_one c hwf A1 c.out.length c1)
 have HL2:=hide (fun A1 c1=>cellL_len (ov:=.slice A1 c.out.length c1) hwf)
 have hen2:=fun A1 c1=>cell_end (ov:=.slice A1 c.out.length c1) hwf
 have hat2:=fun A1 c1=>cell_at (c:=c) (ov:=.slice A1 c.out.length c1)
 rw[ha] at hat2
 have HST:=hide hst
 have HCELL:=hide (And.intro (hcell0 _ rfl) (And.intro (hcell 0 _ rfl) (And.intro (hcell 1 _ rfl) (hcell 2 _ rfl))))
 have HI:=hide (And.intro hi (And.intro hrd0 (And.intro hrd1 hrd2)))
 have HAT:=hide (And.intro ha (And.intro h20 hd))
 clear he hst ho hol hwf hp h0 hcell hcell0 hr hi hrd0 hrd1 hrd2 ha h20 hd hcode hcc hm hal
 unfold celV at*
 go_enter Tryz.func116,Tryz.ntmps116
 go_upto_region 2 with(first
  |(refine wpList_load_whole rfl 75 _ rfl _ _ _ ((Blk.new1 w _ _ _).alloc _ |>.alloc _) rfl _ Tryz.underlying75 rfl (info_cell.trans (congrArg some HLEN.out.symm)) ?_)
  |(go_at_call 145;refine(HOWN.out _ (by exact Rb)).mono ?_;rintro e w1 ⟨A1,c1,rfl,hown1,hb1⟩;have HA1:=(((Blk.new w _ _).alloc _).alloc _ |>.alloc _).kept hb1;have HB1:=((Blk.new1 w _ _ _).alloc _ |>.alloc _).kept hb1;have HC1:=((Blk.new2 w _ _ _ _).alloc _).kept hb1;have HD1:=(Blk.new3 w _ _ _ _ _).kept hb1;have ea1:=HA1.cell;have eb1:=HB1.cell;have ec1:=HC1.cell;have ed1:=HD1.cell;have fa1:=HA1.frozen;have fb1:=HB1.frozen;have fc1:=HC1.frozen;have fd1:=HD1.frozen;have bw1:Below w.heap.size w _:=(Below.alloc1 (Below.alloc1 (Below.alloc1 (Below.alloc1 (Below.refl w.heap.size w) _) _) _) _).via hb1;have sz1:=HD1.lt;clear hb1)
  |(refine wpList_store_list rfl 75 _ _ rfl _ _ _ (cellL c (.slice A1 c.out.length c1)) HB1 rfl rfl HLEN.out (HL2.out A1 c1) info_cell (HONE.out A1 c1) ?_;intro w2 HB2 hO2;have HA2:=hO2.blk HA1 Om;have HC2:=hO2.blk HC1 Om;have HD2:=hO2.blk HD1 Om;have bw2:=bw1.only hO2 Om;have own2:OwnAs 3 w2 (w.heap.size+1+1+1+1) (.slice A1 c.out.length c1) c.out:=hO2.ownAs (OwnAs.less hown1 Si) Om;have sz2:=HD2.lt;clear HA1 HB1 HC1 HD1 bw1 ea1 eb1 ec1 ed1 fa1 fb1 fc1 fd1 hown1 hO2 sz1))
 have ea2:=HA2.cell
 have eb2:=HB2.cell
 have fb2:=HB2.frozen
 replace hen2:=hen2 A1 c1
 replace hat2:=hat2 A1 c1
 obtain⟨i0,i1,i2,i3⟩:=HCELL.out
 replace i0:=cell_below bw2 i0
 replace i1:=cell_below bw2 i1
 replace i2:=cell_below bw2 i2
 replace i3:=cell_below bw2 i3
 go_upto_region 8 with fail
 obtain⟨op,ia,ib,n⟩:=i
 obtain⟨hop,⟨a0,a4⟩,b0,b4⟩:=chk_regs HAT.out.2.2
 dsimp only at hop a0 a4 b0 b4
 obtain⟨a,rfl⟩:=Int.eq_ofNat_of_zero_le a0
 obtain⟨b,rfl⟩:=Int.eq_ofNat_of_zero_le b0
 have HOP:=hide hop
 have hna:a<4:=by omega
 have hnb:b<4:=by omega
 have hE:=HD2.lt
 have HE3:Blk (w2.alloc (.cells #[.int .i64 op,.int .i64 a,.int .i64 b,.int .i64 n] 118)) w2.heap.size 118 [.int .i64 op,.int .i64 a,.int .i64 b,.int .i64 n]:=Blk.new _ _ _
 have HA3:=HA2.alloc (.cells #[.int .i64 op,.int .i64 a,.int .i64 b,.int .i64 n] 118)
 have HB3:=HB2.alloc (.cells #[.int .i64 op,.int .i64 a,.int .i64 b,.int .i64 n] 118)
 have HC3:=HC2.alloc (.cells #[.int .i64 op,.int .i64 a,.int .i64 b,.int .i64 n] 118)
 have HD3:=HD2.alloc (.cells #[.int .i64 op,.int .i64 a,.int .i64 b,.int .i64 n] 118)
 have bw3:=bw2.alloc1 (.cells #[.int .i64 op,.int .i64 a,.int .i64 b,.int .i64 n] 118)
 have own3:=own2.below ((Below.refl w2.heap.size w2).alloc (Nat.le_refl _) (.cells #[.int .i64 op,.int .i64 a,.int .i64 b,.int .i64 n] 118))
 have hs3:(w2.alloc (.cells #[.int .i64 op,.int .i64 a,.int .i64 b,.int .i64 n] 118)).heap.size=w2.heap.size+1:=World.size_alloc _ _
 generalize w2.alloc (.cells #[.int .i64 op,.int .i64 a,.int .i64 b,.int .i64 n] 118)=W3 at*
 generalize w2.heap.size=E at*
 clear HA2 HB2 HC2 HD2 bw2 own2 ea2 eb2 fb2 sz2 i0 i1 i2 i3 hen2 HCELL HOWN HLEN hen hop
 have hwf:=HWF.out
 have k0:W3.cell? ⟨w.heap.size+1,0,none⟩=some (.int .i64 at'):=by rw[HB3.cell,hat2]
 have ee3:=HE3.cell
 obtain⟨ra,hra⟩:∃r,c.regs.getD a 0=r:=⟨_,rfl⟩
 obtain⟨rb,hrb⟩:∃r,c.regs.getD b 0=r:=⟨_,rfl⟩
 have kra:W3.cell? ⟨w.heap.size+1,1+a,none⟩=some (.int .i64 ra):=by rw[HB3.cell,cell_reg hwf hna,hra]
 have krb:W3.cell? ⟨w.heap.size+1,1+b,none⟩=some (.int .i64 rb):=by rw[HB3.cell,cell_reg hwf hnb,hrb]
 have HRA:=hide hra
 have HRB:=hide hrb
 have h20:(at':Int)≤20:=by have:=HAT.out.2.1;rwa [HAT.out.1] at this
 clear hra hrb
 go_upto_region 9 with fail
 go_quiet (fail)
 go_upto_region 11 with fail
 have HF4:Blk ((W3.drewN nq).alloc (.cells #[.int .i64 0,.int .i64 0,.int .i64 0,.int .i64 0,.int .i64 0] 191)) (E+1) 191 zeros5:=by
  have:=Blk.new (W3.drewN nq) #[.int .i64 0,.int .i64 0,.int .i64 0,.int .i64 0,.int .i64 0] 191
  rw[World.heap_drewN,hs3] at this
  exact this
 have HA4:=(HA3.drewN nq).alloc (.cells #[.int .i64 0,.int .i64 0,.int .i64 0,.int .i64 0,.int .i64 0] 191)
 have HB4:=(HB3.drewN nq).alloc (.cells #[.int .i64 0,.int .i64 0,.int .i64 0,.int .i64 0,.int .i64 0] 191)
 have HC4:=(HC3.drewN nq).alloc (.cells #[.int .i64 0,.int .i64 0,.int .i64 0,.int .i64 0,.int .i64 0] 191)
 have HD4:=(HD3.drewN nq).alloc (.cells #[.int .i64 0,.int .i64 0,.int .i64 0,.int .i64 0,.int .i64 0] 191)
 have HE4:=(HE3.drewN nq).alloc (.cells #[.int .i64 0,.int .i64 0,.int .i64 0,.int .i64 0,.int .i64 0] 191)
 have bw4:=(bw3.drewN1 nq).alloc1 (.cells #[.int .i64 0,.int .i64 0,.int .i64 0,.int .i64 0,.int .i64 0] 191)
 have own4:=(own3.drewN nq).below ((Below.refl (W3.drewN nq).heap.size (W3.drewN nq)).alloc (Nat.le_refl _) (.cells #[.int .i64 0,.int .i64 0,.int .i64 0,.int .i64 0,.int .i64 0] 191))
 have hgl:∀g,(Value.slice A1 c.out.length c1).ownBlock=some g→g<E+1:=fun g h=>by have:=(World.ownsRow.lt own3 g h).2;rwa [hs3] at this
 generalize (W3.drewN nq).alloc (.cells #[.int .i64 0,.int .i64 0,.int .i64 0,.int .i64 0,.int .i64 0] 191)=W4 at*
 clear HA3 HB3 HC3 HD3 HE3 bw3 own3 hs3 k0 kra krb ee3
 have ee4:=HE4.cell
 have fb4:=HB4.frozen
 have kra:W4.cell? ⟨w.heap.size+1,1+a,none⟩=some (.int .i64 ra):=by rw[HB4.cell,cell_reg hwf hna,HRA.out]
 have hsz:w.heap.size+1+1+1<E+1:=by omega
 go_upto_block 0 with fail
 go_cut [7] (fun s7 wc=>SRJoin (stepOf p c) w (E+1) s7 wc)
 case first=>
  rcases op_cases HOP.out with rfl|rfl|rfl|rfl|rfl|rfl|rfl|rfl|rfl|rfl|rfl|rfl|rfl|rfl|rfl
  ·skip
   go_wp2_with fail
   go_meet
   refine SRJoin.cell (c':={c with regs:=c.regs.set a (n)}) ?_ (Cel.wf_set hwf a _) rfl ((HB4.set (1+a) _).same (cell_set_reg hwf hna _)) (Only.set W4 (w.heap.size+1) (1+a) _) HC4 HD4 HF4 own4 bw4 hsz
   have h1:=HRA.out
   have h2:=HRB.out
   have h3:=HAT.out.1
   subst h1
   subst h2
   rw[HST.out]
   first|(rw[←h3];rfl)|rfl
  ·skip
   go_wp2_with fail
   go_meet
   refine SRJoin.cell (c':={c with regs:=c.regs.set a (rb)}) ?_ (Cel.wf_set hwf a _) rfl ((HB4.set (1+a) _).same (cell_set_reg hwf hna _)) (Only.set W4 (w.heap.size+1) (1+a) _) HC4 HD4 HF4 own4 bw4 hsz
   have h1:=HRA.out
   have h2:=HRB.out
   have h3:=HAT.out.1
   subst h1
   subst h2
   rw[HST.out]
   first|(rw[←h3];rfl)|rfl
  ·skip
   go_wp2_with fail
   go_meet
   refine SRJoin.cell (c':={c with regs:=c.regs.set a (wrap64 (ra+rb))}) ?_ (Cel.wf_set hwf a _) rfl ((HB4.set (1+a) _).same (cell_set_reg hwf hna _)) (Only.set W4 (w.heap.size+1) (1+a) _) HC4 HD4 HF4 own4 bw4 hsz
   have h1:=HRA.out
   have h2:=HRB.out
   have h3:=HAT.out.1
   subst h1
   subst h2
   rw[HST.out]
   first|(rw[←h3];rfl)|rfl
  ·skip
   go_wp2_with fail
   go_meet
   refine SRJoin.cell (c':={c with regs:=c.regs.set a (wrap64 (ra - rb))}) ?_ (Cel.wf_set hwf a _) rfl ((HB4.set (1+a) _).same (cell_set_reg hwf hna _)) (Only.set W4 (w.heap.size+1) (1+a) _) HC4 HD4 HF4 own4 bw4 hsz
   have h1:=HRA.out
   have h2:=HRB.out
   have h3:=HAT.out.1
   subst h1
   subst h2
   rw[HST.out]
   first|(rw[←h3];rfl)|rfl
  ·have HBx:=(HB4.set (1+a) (.int .i64 0)).same (cell_set_reg hwf hna 0)
   have hOx:=Only.set W4 (w.heap.size+1) (1+a) (.int .i64 0)
   cases hlt:decide (ra<rb)
   ·have HR:=hide (show stepOf p c=(({({c with regs:=c.regs.set a 0}:Cel) with at_:=(at':Int)+1}:Cel),Wnt.zero) by
     rw[HST.out,←HAT.out.1]
     show(({c with regs:=c.regs.set a (bitI (decide (c.regs.getD a 0<c.regs.getD b 0))),at_:=c.at_+1}:Cel),Wnt.zero)=_
     rw[HRA.out,HRB.out,hlt]
     rfl)
    go_wp2_with fail
    go_meet
    exact SRJoin.cell (c':={c with regs:=c.regs.set a 0}) HR.out (Cel.wf_set hwf a _) rfl HBx hOx HC4 HD4 HF4 own4 bw4 hsz
   ·have HR:=hide (show stepOf p c=(({({c with regs:=(c.regs.set a 0).set a 1}:Cel) with at_:=(at':Int)+1}:Cel),Wnt.zero) by
     rw[HST.out,←HAT.out.1,List.set_set]
     show(({c with regs:=c.regs.set a (bitI (decide (c.regs.getD a 0<c.regs.getD b 0))),at_:=c.at_+1}:Cel),Wnt.zero)=_
     rw[HRA.out,HRB.out,hlt]
     rfl)
    go_wp2_with fail
    go_meet
    exact SRJoin.cell (c':={c with regs:=(c.regs.set a 0).set a 1}) HR.out (Cel.wf_set (Cel.wf_set hwf a _) a _) rfl ((HBx.set (1+a) (.int .i64 1)).same (cell_set_reg (Cel.wf_set hwf a _) hna 1)) (hOx.trans (Only.set _ (w.heap.size+1) (1+a) _)) HC4 HD4 HF4 own4 bw4 hsz
  ·by_cases hr:0≤rb∧rb<8
   ·have HR0:=hide hr
    have hrb0:(0:Int)≤rb:=hr.1
    have hrb8:rb<8:=hr.2
    have km:W4.cell? ⟨w.heap.size+1,5+rb.toNat,none⟩=some (.int .i64 (c.mem.getD rb.toNat 0)):=by rw[HB4.cell];exact cell_mem hwf Om
    obtain⟨mv,hmv⟩:∃v,c.mem.getD rb.toNat 0=v:=⟨_,rfl⟩
    rw[hmv] at km
    have HWI:=hide (within_true rb 0 7 Om)
    have HR:=hide (show stepOf p c=(({({c with regs:=c.regs.set a mv}:Cel) with at_:=(at':Int)+1}:Cel),Wnt.zero) by
     have h2:=HRB.out
     subst h2
     subst hmv
     rw[HST.out,←HAT.out.1]
     show(match(if 0≤c.regs.getD b 0∧c.regs.getD b 0<8 then some (({c with regs:=c.regs.set a (c.mem.getD (c.regs.getD b 0).toNat 0),at_:=c.at_+1}:Cel),Wnt.zero) else none) with
      |none=>(({c with end_:=2}:Cel),Wnt.zero)
      |some r=>r)=_
     rw[if_pos HR0.out])
    clear hr hmv
    go_wp2_with (go_at_call 23;refine(HWI.out _).mono ?_;rintro e w' ⟨rfl,rfl⟩)
    go_region
    all_goals
     go_wp2_with fail
     go_meet
     exact SRJoin.cell (c':={c with regs:=c.regs.set a mv}) HR.out (Cel.wf_set hwf a _) rfl ((HB4.set (1+a) (.int .i64 mv)).same (cell_set_reg hwf hna _)).drew ((Only.set W4 (w.heap.size+1) (1+a) (.int .i64 mv)).trans (Only.drew _ _)) HC4 HD4 HF4 own4 bw4 hsz
   ·have HWI:=hide (within_false rb 0 7 Om)
    have HR:=hide (show stepOf p c=(({c with end_:=2}:Cel),Wnt.zero) by
     have h2:=HRB.out
     subst h2
     rw[HST.out]
     show(match(if 0≤c.regs.getD b 0∧c.regs.getD b 0<8 then some (({c with regs:=c.regs.set a (c.mem.getD (c.regs.getD b 0).toNat 0),at_:=c.at_+1}:Cel),Wnt.zero) else none) with
      |none=>(({c with end_:=2}:Cel),Wnt.zero)
      |some r=>r)=_
     rw[if_neg hr])
    clear hr
    have k15:W4.cell? ⟨w.heap.size+1,15,none⟩=some (.int .i64 c.end_):=by rw[HB4.cell,cell_end hwf]
    go_upto_region 28 with(go_at_call 23;refine(HWI.out _).mono ?_;rintro e w' ⟨rfl,rfl⟩)
    have HB5:=(HB4.set 15 (.int .i64 2)).same (cell_set_end hwf 2)
    have hO5:=Only.set W4 (w.heap.size+1) 15 (.int .i64 2)
    have HC5:=hO5.blk HC4 Om
    have HD5:=hO5.blk HD4 Om
    have bw5:=bw4.only hO5 Om
    have own5:=hO5.ownAs own4 Om
    generalize W4.setCell ⟨w.heap.size+1,15,none⟩ (.int .i64 2)=w5 at*
    have hwf5:({c with end_:=2}:Cel).wf:=hwf
    have LEN5:=hide (cellL_len (ov:=.slice A1 c.out.length c1) hwf5)
    have ONE5:=hide (cellL_one _ hwf5 A1 c.out.length c1)
    go_wp2_with (first
     |(refine wpList_load_whole rfl 75 _ rfl _ _ _ HB5 rfl _ Tryz.underlying75 rfl (info_cell.trans (congrArg some LEN5.out.symm)) ?_)
     |(refine wpList_store_list rfl 75 _ _ rfl _ _ _ (cellL {c with end_:=2} (.slice A1 c.out.length c1)) HC5 rfl rfl rfl LEN5.out info_cell ONE5.out ?_;intro ws1 hs1 ho1;have HS2:=ho1.blk HD5 Om)
     |(refine wpList_store_list rfl 191 _ _ rfl _ _ _ zeros5 HS2 rfl rfl rfl rfl info_want zeros5_one ?_;intro ws2 hs2 ho2;have hs3:=ho2.blk hs1 Om))
    rw[HR.out]
    exact bodyPost_ret (v:=.tuple #[.agg (cellL {c with end_:=2} (.slice A1 c.out.length c1)).toArray,.agg zeros5.toArray]) (results_cc Tryz.results116 _ rfl rfl (run_load_blk hs3 Tryz.underlying75 rfl (info_cell.trans (congrArg some LEN5.out.symm))) (run_load_blk hs2 Tryz.underlying191 rfl info_want)) rfl ⟨_,rfl,hwf5,OwnAs.less (ho2.ownAs (ho1.ownAs own5 Om) Om) Om,(bw5.only ho1 Om).only ho2 Om⟩
  ·by_cases hr:0≤rb∧rb<8
   ·have HR0:=hide hr
    have hrb0:(0:Int)≤rb:=hr.1
    have hrb8:rb<8:=hr.2
    have km:W4.cell? ⟨w.heap.size+1,5+rb.toNat,none⟩=some (.int .i64 (c.mem.getD rb.toNat 0)):=by rw[HB4.cell];exact cell_mem hwf Om
    generalize c.mem.getD rb.toNat 0=mv at km
    have hr8:rb.toNat<8:=by omega
    have HWI:=hide (within_true rb 0 7 Om)
    have HR:=hide (show stepOf p c=(({({c with mem:=c.mem.set rb.toNat ra}:Cel) with at_:=(at':Int)+1}:Cel),Wnt.zero) by
     have h1:=HRA.out
     have h2:=HRB.out
     subst h1
     subst h2
     rw[HST.out,←HAT.out.1]
     show(match(if 0≤c.regs.getD b 0∧c.regs.getD b 0<8 then some (({c with mem:=c.mem.set (c.regs.getD b 0).toNat (c.regs.getD a 0),at_:=c.at_+1}:Cel),Wnt.zero) else none) with
      |none=>(({c with end_:=2}:Cel),Wnt.zero)
      |some r=>r)=_
     rw[if_pos HR0.out])
    clear hr
    go_wp2_with (go_at_call 23;refine(HWI.out _).mono ?_;rintro e w' ⟨rfl,rfl⟩)
    go_meet
    exact SRJoin.cell (c':={c with mem:=c.mem.set rb.toNat ra}) HR.out ⟨hwf.1,by simpa using hwf.2⟩ rfl ((HB4.set (5+rb.toNat) (.int .i64 ra)).same (cell_set_mem hwf hr8 _)) (Only.set W4 (w.heap.size+1) (5+rb.toNat) (.int .i64 ra)) HC4 HD4 HF4 own4 bw4 hsz
   ·have HWI:=hide (within_false rb 0 7 Om)
    have HR:=hide (show stepOf p c=(({c with end_:=2}:Cel),Wnt.zero) by
     have h1:=HRA.out
     have h2:=HRB.out
     subst h1
     subst h2
     rw[HST.out]
     show(match(if 0≤c.regs.getD b 0∧c.regs.getD b 0<8 then some (({c with mem:=c.mem.set (c.regs.getD b 0).toNat (c.regs.getD a 0),at_:=c.at_+1}:Cel),Wnt.zero) else none) with
      |none=>(({c with end_:=2}:Cel),Wnt.zero)
      |some r=>r)=_
     rw[if_neg hr])
    clear hr
    have k15:W4.cell? ⟨w.heap.size+1,15,none⟩=some (.int .i64 c.end_):=by rw[HB4.cell,cell_end hwf]
    go_upto_region 28 with(go_at_call 23;refine(HWI.out _).mono ?_;rintro e w' ⟨rfl,rfl⟩)
    have HB5:=(HB4.set 15 (.int .i64 2)).same (cell_set_end hwf 2)
    have hO5:=Only.set W4 (w.heap.size+1) 15 (.int .i64 2)
    have HC5:=hO5.blk HC4 Om
    have HD5:=hO5.blk HD4 Om
    have bw5:=bw4.only hO5 Om
    have own5:=hO5.ownAs own4 Om
    generalize W4.setCell ⟨w.heap.size+1,15,none⟩ (.int .i64 2)=w5 at*
    have hwf5:({c with end_:=2}:Cel).wf:=hwf
    have LEN5:=hide (cellL_len (ov:=.slice A1 c.out.length c1) hwf5)
    have ONE5:=hide (cellL_one _ hwf5 A1 c.out.length c1)
    go_wp2_with (first
     |(refine wpList_load_whole rfl 75 _ rfl _ _ _ HB5 rfl _ Tryz.underlying75 rfl (info_cell.trans (congrArg some LEN5.out.symm)) ?_)
     |(refine wpList_store_list rfl 75 _ _ rfl _ _ _ (cellL {c with end_:=2} (.slice A1 c.out.length c1)) HC5 rfl rfl rfl LEN5.out info_cell ONE5.out ?_;intro ws1 hs1 ho1;have HS2:=ho1.blk HD5 Om)
     |(refine wpList_store_list rfl 191 _ _ rfl _ _ _ zeros5 HS2 rfl rfl rfl rfl info_want zeros5_one ?_;intro ws2 hs2 ho2;have hs3:=ho2.blk hs1 Om))
    rw[HR.out]
    exact bodyPost_ret (v:=.tuple #[.agg (cellL {c with end_:=2} (.slice A1 c.out.length c1)).toArray,.agg zeros5.toArray]) (results_cc Tryz.results116 _ rfl rfl (run_load_blk hs3 Tryz.underlying75 rfl (info_cell.trans (congrArg some LEN5.out.symm))) (run_load_blk hs2 Tryz.underlying191 rfl info_want)) rfl ⟨_,rfl,hwf5,OwnAs.less (ho2.ownAs (ho1.ownAs own5 Om) Om) Om,(bw5.only ho1 Om).only ho2 Om⟩
  ·go_wp2_with fail
   go_meet
   refine SRJoin.cell (c':=c) ?_ hwf rfl HB4 (Only.refl _ _) HC4 HD4 HF4 own4 bw4 hsz
   have h1:=HRA.out
   have h2:=HRB.out
   have h3:=HAT.out.1
   subst h1
   subst h2
   rw[HST.out]
   first|(rw[←h3];rfl)|rfl
  ·by_cases hz:ra=0
   ·have hz':(ra==0)=true:=by simpa using hz
    have HR:=hide (show stepOf p c=(({c with at_:=n}:Cel),Wnt.zero) by
     rw[HST.out]
     show(({c with at_:=if c.regs.getD a 0=0 then n else c.at_+1}:Cel),Wnt.zero)=_
     rw[HRA.out,if_pos hz])
    clear hz
    go_wp2_with fail
    go_meet
    exact SRJoin.cell (c':=c) HR.out hwf rfl HB4 (Only.refl _ _) HC4 HD4 HF4 own4 bw4 hsz
   ·have hz':(ra==0)=false:=by simpa using hz
    have HR:=hide (show stepOf p c=(({c with at_:=(at':Int)+1}:Cel),Wnt.zero) by
     rw[HST.out,←HAT.out.1]
     show(({c with at_:=if c.regs.getD a 0=0 then n else c.at_+1}:Cel),Wnt.zero)=_
     rw[HRA.out,if_neg hz])
    clear hz
    go_wp2_with fail
    go_meet
    exact SRJoin.cell (c':=c) HR.out hwf rfl HB4 (Only.refl _ _) HC4 HD4 HF4 own4 bw4 hsz
  ·exact absurd rfl HNO.out.1
  ·exact absurd rfl HNO.out.2
  ·skip
   have HW1:=hide (wantL_one ⟨12,n,a,0,ra⟩)
   go_wp2_with (refine wpList_store_list rfl 191 _ _ rfl _ _ _ (wantL ⟨12,n,a,0,ra⟩) HF4 rfl rfl rfl rfl info_want HW1.out ?_;intro w9 HF9 hO9)
   go_meet
   refine SRJoin.want (c':=c) (k':=⟨12,n,a,0,ra⟩) ?_ hwf rfl HB4 hO9 HC4 HD4 HF9 own4 bw4 hsz hgl
   have h1:=HRA.out
   have h2:=HRB.out
   have h3:=HAT.out.1
   subst h1
   subst h2
   rw[HST.out]
   first|(rw[←h3];rfl)|rfl
  ·skip
   have HW1:=hide (wantL_one ⟨13,n,a,b,0⟩)
   go_wp2_with (refine wpList_store_list rfl 191 _ _ rfl _ _ _ (wantL ⟨13,n,a,b,0⟩) HF4 rfl rfl rfl rfl info_want HW1.out ?_;intro w9 HF9 hO9)
   go_meet
   refine SRJoin.want (c':=c) (k':=⟨13,n,a,b,0⟩) ?_ hwf rfl HB4 hO9 HC4 HD4 HF9 own4 bw4 hsz hgl
   have h1:=HRA.out
   have h2:=HRB.out
   have h3:=HAT.out.1
   subst h1
   subst h2
   rw[HST.out]
   first|(rw[←h3];rfl)|rfl
  ·go_wp2_with fail
   go_meet
   refine SRJoin.cell (c':=c) ?_ hwf rfl HB4 (Only.refl _ _) HC4 HD4 HF4 own4 bw4 hsz
   have h1:=HRA.out
   have h2:=HRB.out
   have h3:=HAT.out.1
   subst h1
   subst h2
   rw[HST.out]
   first|(rw[←h3];rfl)|rfl
  ·have k0:W4.cell? ⟨w.heap.size+1,0,none⟩=some (.int .i64 at'):=by rw[HB4.cell,hat2]
   have k15:W4.cell? ⟨w.heap.size+1,15,none⟩=some (.int .i64 c.end_):=by rw[HB4.cell,cell_end hwf]
   go_wp2_with fail
   go_meet
   refine SRJoin.cell (c':={c with end_:=1}) ?_ hwf rfl ((HB4.set 15 _).same (cell_set_end hwf _)) (Only.set W4 (w.heap.size+1) 15 _) HC4 HD4 HF4 own4 bw4 hsz
   have h1:=HRA.out
   have h2:=HRB.out
   have h3:=HAT.out.1
   subst h1
   subst h2
   rw[HST.out]
   first|(rw[←h3];rfl)|rfl
 case rest=>
  obtain⟨c',k',nx,A9,n9,k9,hr9,rfl,hwf9,hn9,HB9,HC9,HD9,HF9,own9,bw9⟩:=hcut
  have HR9:=hide hr9
  have k09:wc.cell? ⟨w.heap.size+1,0,none⟩=some (.int .i64 c'.at_):=by rw[HB9.cell,cell_at]
  have fb9:=HB9.frozen
  clear hr9 HA4 HB4 HC4 HD4 HE4 HF4 bw4 own4 ee4 fb4 kra hat2
  go_upto_region 53 with fail
  have HB10:Blk (wc.setCell ⟨w.heap.size+1,0,none⟩ (.int .i64 nx)) (w.heap.size+1) 75 (cellL {c' with at_:=nx} (.slice A9 n9 k9)):=(HB9.set 0 _).same rfl
  have hO:=Only.set wc (w.heap.size+1) 0 (.int .i64 nx)
  have HC10:=hO.blk HC9 Om
  have HD10:=hO.blk HD9 Om
  have HF10:=hO.blk HF9 Om
  have own10:=hO.ownAs own9 Om
  have bw10:=bw9.only hO Om
  generalize wc.setCell ⟨w.heap.size+1,0,none⟩ (.int .i64 nx)=W10 at*
  have hwf10:({c' with at_:=nx}:Cel).wf:=hwf9
  have hn10:({c' with at_:=nx}:Cel).out.length=n9:=hn9
  have own10':OwnAs 3 W10 (w.heap.size+1+1+1+1) (.slice A9 n9 k9) ({c' with at_:=nx}:Cel).out:=own10
  generalize ({c' with at_:=nx}:Cel)=c10 at*
  clear HB9 HC9 HD9 HF9 own9 bw9 k09 fb9 hO hwf9 hn9 own10
  subst hn10
  have H1:=hide (cellL_one c10 hwf10 A9 c10.out.length k9)
  have H2:=hide (wantL_one k')
  have HLEN':=hide (cellL_len (ov:=.slice A9 c10.out.length k9) hwf10)
  refine wp_region_held (S:=fun W=>Blk W (w.heap.size+1) 75 (cellL c10 (.slice A9 c10.out.length k9))∧Blk W (E+1) 191 (wantL k')) Kr ?_
  change wpAnyH _ _ _ _ _ _ _ _ (World.drew _)
  have HS:Blk W10.drew (w.heap.size+1) 75 (cellL c10 (.slice A9 c10.out.length k9))∧Blk W10.drew (E+1) 191 (wantL k'):=⟨HB10,HF10⟩
  refine wpAnyH_take (i:=0) (v:=.agg (cellL c10 (.slice A9 c10.out.length k9)).toArray) rfl Kr Kr Kr (fun _ _ _ h=>h) (yieldsIf_load_mid Kr 75 (.tmp 3) rfl (w.heap.size+1) 0 Kr _ _ (fun W hW=>hW.1.all) Tryz.underlying75 rfl (info_cell.trans (congrArg some HLEN'.out.symm))) HS ?_
  refine wpAnyH_take (i:=1) (v:=.agg (wantL k').toArray) rfl Kr Kr Kr (fun _ _ _ h=>h) (yieldsIf_load_mid Kr 191 (.tmp 10) rfl (E+1) 0 Kr _ _ (fun W hW=>hW.2.all) Tryz.underlying191 rfl info_want) HS ?_
  generalize hA:Act.put _ _ _=aa
  have q4:aa.eval (.tmp 4)=.pointer (some ⟨w.heap.size+1+1,0,none⟩):=by rw[←hA];as_aux_lemma=>kernel_rfl
  have q5:aa.eval (.tmp 5)=.pointer (some ⟨w.heap.size+1+1+1,0,none⟩):=by rw[←hA];as_aux_lemma=>kernel_rfl
  have qa:aa.eval (.tmp 190)=.agg (cellL c10 (.slice A9 c10.out.length k9)).toArray:=by rw[←hA];as_aux_lemma=>kernel_rfl
  have qb:aa.eval (.tmp 191)=.agg (wantL k').toArray:=by rw[←hA];as_aux_lemma=>kernel_rfl
  have qd:aa.defers=[]:=by rw[←hA];as_aux_lemma=>kernel_rfl
  clear hA
  refine wpAnyH_all (rs:=[2]) Kr Si ?_
  intro i hi
  obtain rfl:i=2:=by simpa using hi
  clear hi
  refine wpOp_step (o:={dst:=none,op:=.store 75 (.tmp 4) (.tmp 190),type:=0,pos:=_,after:=_,guard:=none}) rfl (fun K hK=>?_)
  rw[if_pos (by simp[Region.wanted])]
  refine wp_store_mid 75 (.tmp 4) (.tmp 190) rfl (w.heap.size+1+1) 0 (cellL c10 (.slice A9 c10.out.length k9)).toArray q4 qa ((HC10.drew).there (by simp[HLEN'.out,zeros16])) (info_cell.trans (congrArg some (by simp[HLEN'.out]))) H1.out ?_
  refine hK _ _ ?_
  clear hK K
  have hsc:=setCells_blk (cellL c10 (.slice A9 c10.out.length k9)).toArray.toList _ _ 0 HC10.drew
  have hsa:splice zeros16 0 (cellL c10 (.slice A9 c10.out.length k9)).toArray.toList=cellL c10 (.slice A9 c10.out.length k9):=by
   have:=splice_all (cellL c10 (.slice A9 c10.out.length k9)) [] zeros16 (by rw[HLEN'.out];rfl)
   simpa using this
  obtain⟨hR1,hO1⟩:=hsc
  replace hR1:=hR1.same hsa
  generalize World.setCells _ _ _ _=X1 at*
  have HS1:=And.intro (hO1.blk HS.1 Om) (hO1.blk HS.2 Om)
  have hHD1:=hO1.blk HD10.drew Om
  have hbw1:=(Below.drew bw10).only hO1 Om
  have hout1:=hO1.ownAs (own10'.drewN 1) Om
  clear hO1 hsa HS
  have HS:=HS1
  refine⟨HS,?_⟩
  refine wpAnyH_all (rs:=[3]) Kr Si ?_
  intro i hi
  obtain rfl:i=3:=by simpa using hi
  clear hi
  refine wpOp_step (o:={dst:=none,op:=.store 191 (.tmp 5) (.tmp 191),type:=0,pos:=_,after:=_,guard:=none}) rfl (fun K hK=>?_)
  rw[if_pos (by simp[Region.wanted])]
  refine wp_store_mid 191 (.tmp 5) (.tmp 191) rfl (w.heap.size+1+1+1) 0 (wantL k').toArray q5 qb (hHD1.there (by simp[wantL,zeros5])) info_want H2.out ?_
  refine hK _ _ ?_
  clear hK K
  have hsc:=setCells_blk (wantL k').toArray.toList _ _ 0 hHD1
  have hsa:splice zeros5 0 (wantL k').toArray.toList=wantL k':=by
   have:=splice_all (wantL k') [] zeros5 rfl
   simpa using this
  obtain⟨hR2,hO2⟩:=hsc
  replace hR2:=hR2.same hsa
  generalize World.setCells _ _ _ _=X2 at*
  have HS2:=And.intro (hO2.blk HS.1 Om) (hO2.blk HS.2 Om)
  replace hR1:=hO2.blk hR1 Om
  have hbw2:=hbw1.only hO2 Om
  have hout2:=hO2.ownAs hout1 Om
  clear hO2 hsa HS HS1
  refine⟨HS2,?_⟩
  refine wpAnyH_done Kr ?_ _
  go_wp2_with fail
  obtain⟨tm,df⟩:=aa
  simp only[Act.eval] at q4 q5
  rw[HR9.out]
  refine bodyPost_ret (v:=.tuple #[.agg (cellL c10 (.slice A9 c10.out.length k9)).toArray,.agg (wantL k').toArray]) (results_cc Tryz.results116 _ (b:=w.heap.size+1+1) (b':=w.heap.size+1+1+1) ?_ ?_ (run_load_blk hR1 Tryz.underlying75 rfl (info_cell.trans (congrArg some HLEN'.out.symm))) (run_load_blk hR2 Tryz.underlying191 rfl info_want)) qd ⟨_,rfl,hwf10,OwnAs.less hout2 Om,hbw2⟩
  ·simpa[Act.put] using q4
  ·simpa[Act.put] using q5
end
section
open Go.RowKit
theorem bs_CellIO_41_1_0(x0:Int)(w:World):(Instr.buildSlice 41 1 #[(0,(.int .i64 x0))]).run Tryz.prog w=.ok (.slice (some ⟨w.heap.size,0,none⟩) 1 1) (w.alloc (.cells #[(.int .i64 x0)] 3)):=by kernel_rfl
theorem bu_CellIO_191_(w:World):(Instr.build 191 #[]).run Tryz.prog w=.ok (.agg #[(.int .i64 0),(.int .i64 0),(.int .i64 0),(.int .i64 0),(.int .i64 0)]) w:=by kernel_rfl
set_option maxRecDepth 100000
theorem stepR_in{r:Nat}(hr4:r<4)(at':Nat)(r0 r1 r2 r3 m0 m1 m2 m3 m4 m5 m6 m7 rd:Int)(l:List Ins)(inp out:List Int)(Ac Ai Ao:Option Addr)(cc ci co:Nat)(w:World)
 (hC:RF w Ac l.length 4 (fun k=>[.int .i64 (l.getD k ⟨0,0,0,0⟩).op,.int .i64 (l.getD k ⟨0,0,0,0⟩).a,.int .i64 (l.getD k ⟨0,0,0,0⟩).b,.int .i64 (l.getD k ⟨0,0,0,0⟩).n])) (hlt:at'<l.length) (hl:l.length≤1048576)
 (hi:l.getD at' ⟨0,0,0,0⟩=⟨10,r,0,0⟩) (hI:RF w Ai inp.length 1 (fun k=>[.int .i64 (inp.getD k 0)])) (ho:Ints w (.slice Ao out.length co) out) (hol:out.length≤1048576) (hr0:0≤rd) (hr1:rd≤inp.length) (hr2:rd≤12):
 Calls Tryz.prog 116 #[.agg #[.slice Ac l.length cc,.slice Ai inp.length ci],.agg #[.int .i64 at',.int .i64 r0,.int .i64 r1,.int .i64 r2,.int .i64 r3,.int .i64 m0,.int .i64 m1,.int .i64 m2,.int .i64 m3,.int .i64 m4,.int .i64 m5,.int .i64 m6,.int .i64 m7,.int .i64 rd,.slice Ao out.length co,.int .i64 0]] w
  (CelWantBack w (⟨at'+1,if rd<inp.length then [r0,r1,r2,r3].set r (inp.getD rd.toNat 0) else [r0,r1,r2,r3].set r 0,[m0,m1,m2,m3,m4,m5,m6,m7],if rd<inp.length then rd+1 else rd,out,0⟩,Wnt.zero)):=by
 obtain⟨rn,rfl⟩:=Int.eq_ofNat_of_zero_le hr0
 have hown:=fun w1 (hb:Below w.heap.size w w1)=>ownCell_abs ⟨at',[r0,r1,r2,r3],[m0,m1,m2,m3,m4,m5,m6,m7],rn,out,0⟩ (.slice Ao out.length co) ⟨rfl,rfl⟩ w ho hol w1 hb
 refine enter Tryz.func116 rfl Tryz.ntmps116 rfl fun a hF=>?_
 have hW:=Wd.start w NoB
 refine c_sr<|pe<|e_box hF hW rfl rfl rfl rfl fun b1 a wc hF hW=>pe<|e_box hF hW rfl rfl rfl rfl fun b2 a wc hF hW=>pe<|e_alloc hF hW ze_75 rfl rfl rfl fun b3 a wc hF hW=>pe<|e_alloc hF hW ze_191 rfl rfl rfl fun b4 a wc hF hW=>lts<|pv hF hW (y_loadAll hF rfl 2 rfl Tryz.underlying75 rfl sz_75) fun a hF=>?_;refine pe (e_callA hF rfl rfl en_145 Rl (hown _ hW.below) ?_);rintro e w1 ⟨A1,c1,rfl,hown1,hb⟩;replace hW:=hW.got_row (v:=.slice A1 out.length c1) (n:=out.length) (cs:=out.map (.int .i64)) hb hown1;refine⟨_,rfl,fun a hF=>?_⟩;replace hF:=Fr.cast (v':=.agg #[.int .i64 at',.int .i64 r0,.int .i64 r1,.int .i64 r2,.int .i64 r3,.int .i64 m0,.int .i64 m1,.int .i64 m2,.int .i64 m3,.int .i64 m4,.int .i64 m5,.int .i64 m6,.int .i64 m7,.int .i64 rn,.slice A1 out.length c1,.int .i64 0]) rfl hF;refine pe<|e_storeAll rfl hF hW rfl rfl 3 rfl rfl rfl Kr sz_75 fun wc hW=>l_nil<|t_n<|c_s<|c_sr<|pq 1 hF rfl fun a hF=>pv hF hW (y_loadOwn hF rfl 3 rfl rfl Tryz.underlying3 rfl) fun a hF=>pq 1 hF rfl fun a hF=>?_;replace hF:=hF.ff;refine l_nil<|t_n<|c_f hF rfl<|wp_skip<|t_n<|c_s<|c_sr<|pq 1 hF rfl fun a hF=>pv hF hW (y_loadOwn hF rfl 3 rfl rfl Tryz.underlying3 rfl) fun a hF=>pq 1 hF rfl fun a hF=>pv hF hW (y_loadOwn hF rfl 4 rfl rfl Tryz.underlying40 rfl) fun a hF=>pq 2 hF rfl fun a hF=>?_;refine Fr.splitD hF (fun h5 hF=>?_) (fun h5 hF=>?_)
 first
  |(exfalso;omega)
  |(refine l_nil ?_
    refine t_n<|c_t hF rfl<|c_sr<|pq 1 hF rfl fun a hF=>pe<|e_store rfl hF hW rfl rfl 3 rfl rfl rfl sz_3 fun wc hW=>lts<|pv hF hW (y_loadAll hF rfl 3 rfl Tryz.underlying75 rfl sz_75) fun a hF=>pv hF hW (y_build hF rfl (fun w=>bu_CellIO_191_ w)) fun a hF=>?_;refine pe<|e_storeAll rfl hF hW rfl rfl 2 rfl rfl rfl Kr sz_75 fun wc hW=>pe<|e_storeAll rfl hF hW rfl rfl 1 rfl rfl rfl Kr sz_191 fun wc hW=>l_nil<|t_n<|wp_ret<|t_r<|ret2 Tryz.results116 hF (rv_c hF rfl hW 2 rfl Tryz.underlying75 rfl sz_75) (rv_c hF rfl hW 1 rfl Tryz.underlying191 rfl sz_191) ?_
    first
    |(revert hq2;intro hq2;have e4:[r0,r1,r2,r3].set r (inp.getD rn 0)=[q4,q5,q6,q7]:=(by rw[←hq2,←hq,List.set_set]);rw[if_pos (show(rn:Int)<inp.length by assumption),if_pos (show(rn:Int)<inp.length by assumption),Int.toNat_natCast,e4];exact⟨_,rfl,⟨rfl,rfl⟩,hW.row_own 0 rfl,hW.below⟩)
    |(rw[if_neg (show¬(rn:Int)<inp.length by assumption),if_neg (show¬(rn:Int)<inp.length by assumption),hq];exact⟨_,rfl,⟨rfl,rfl⟩,hW.row_own 0 rfl,hW.below⟩))
 first
  |(exfalso;omega)
  |(refine l_nil ?_
    refine t_n<|c_f hF rfl<|wp_skip<|t_n<|c_sr<|pq 1 hF rfl fun a hF=>pv hF hW (y_loadOwn hF rfl 4 rfl rfl Tryz.underlying40 rfl) fun a hF=>pq 1 hF rfl fun a hF=>pv hF hW (y_loadOwn hF rfl 3 rfl rfl Tryz.underlying3 rfl) fun a hF=>pv hF hW (y_indexS hF rfl rfl Od Tryz.underlying40 sz_118 (fun w h=>(hC).wd h)) fun a hF=>pv hF hW (y_loadRowW hF rfl (fun w h=>(hC).wd h) Od Tryz.underlying118 rfl sz_118) fun a hF=>?_;replace hF:=Fr.cast (v':=.agg #[.int .i64 10,.int .i64 (r:Int),.int .i64 0,.int .i64 0]) (by rw[hi]) hF;refine pe<|e_alloc hF hW ze_118 rfl rfl rfl fun b6 a wc hF hW=>pe<|e_storeAll rfl hF hW rfl rfl 0 rfl rfl rfl Kr sz_118 fun wc hW=>l_nil ?_;replace hF:=hF.ks [0,1,2,3,4,5,6,15,23] rfl;refine t_n<|c_sr<|pq 1 hF rfl fun a hF=>pv hF hW (y_loadOwn hF rfl 4 rfl rfl Tryz.underlying3 rfl) fun a hF=>pv hF hW (y_add hF rfl rfl (IntWalk.i64_in _ Om)) fun a hF=>pq 1 hF rfl fun a hF=>l_nil<|t_n<|c_sd mixed_ok hW (hW) ?_
    clear hW;intro wc hW hS
    refine dq 1 [0] hF hS rfl fun a hF=>dv 1 rfl hF hS (y_loadOwn hF rfl 0 rfl rfl Tryz.underlying3 rfl) fun a hF=>dq 1 [2] hF hS rfl fun a hF=>dv 3 rfl hF hS (y_indexA hF rfl rfl Od Tryz.underlying72 sz_3) fun a hF=>dv 4 rfl hF hS (y_loadOwn hF rfl 4 rfl (regs_get _ _ _ _ hr4 _ _) Tryz.underlying3 rfl) fun a hF=>dq 1 [5] hF hS rfl fun a hF=>dv 6 rfl hF hS (y_loadOwn hF rfl 0 rfl rfl Tryz.underlying3 rfl) fun a hF=>dq 1 [7] hF hS rfl fun a hF=>dv 8 rfl hF hS (y_indexA hF rfl rfl Od Tryz.underlying72 sz_3) fun a hF=>dv 9 rfl hF hS (y_loadOwn hF rfl 4 rfl rfl Tryz.underlying3 rfl) fun a hF=>dq 2 [10,11] hF hS rfl fun a hF=>?_;clear hS;refine d_nil Kr<|t_n<|c_sr<|pe<|e_alloc hF hW ze_191 rfl rfl rfl fun b7 a wc hF hW=>l_nil<|t_n<|c_s<|c_sr<|pq 1 hF rfl fun a hF=>pv hF hW (y_loadOwn hF rfl 1 rfl rfl Tryz.underlying3 rfl) fun a hF=>l_nil ?_;replace hF:=hF.ks [0,1,2,3,4,5,6,7,8,9,10,15,23,47] rfl;refine t_n<|wp_block<|c_sr<|pq 1 hF rfl fun a hF=>?_;replace hF:=hF.ff;refine pq 1 hF rfl fun a hF=>?_;replace hF:=hF.ff;refine l_nil<|t_n<|c_f hF rfl<|c_sr<|pq 1 hF rfl fun a hF=>?_;replace hF:=hF.ff;refine pq 1 hF rfl fun a hF=>?_;replace hF:=hF.ff;refine l_nil<|t_n<|c_f hF rfl<|c_sr<|pq 1 hF rfl fun a hF=>?_;replace hF:=hF.ff;refine pq 1 hF rfl fun a hF=>?_;replace hF:=hF.ff;refine l_nil<|t_n<|c_f hF rfl<|c_sr<|pq 1 hF rfl fun a hF=>?_;replace hF:=hF.ff;refine pq 1 hF rfl fun a hF=>?_;replace hF:=hF.ff;refine l_nil<|t_n<|c_f hF rfl<|c_sr<|pq 1 hF rfl fun a hF=>?_;replace hF:=hF.ff;refine pq 1 hF rfl fun a hF=>?_;replace hF:=hF.ff;refine l_nil<|t_n<|c_f hF rfl<|c_s<|c_sr<|pq 1 hF rfl fun a hF=>?_;replace hF:=hF.ff;refine pq 1 hF rfl fun a hF=>?_;replace hF:=hF.ff;refine l_nil<|t_n<|c_f hF rfl<|c_r<|pq 1 hF rfl fun a hF=>?_;replace hF:=hF.ff;refine pq 1 hF rfl fun a hF=>?_;replace hF:=hF.ff;refine l_nil<|t_n<|c_f hF rfl<|c_sr<|pq 1 hF rfl fun a hF=>?_;replace hF:=hF.ff;refine pq 1 hF rfl fun a hF=>?_;replace hF:=hF.ff;refine l_nil<|t_n<|c_f hF rfl<|c_sr<|pq 1 hF rfl fun a hF=>?_;replace hF:=hF.ff;refine pq 1 hF rfl fun a hF=>?_;replace hF:=hF.ff;refine l_nil<|t_n<|c_f hF rfl<|c_sr ?_
    refine pq 1 hF rfl fun a hF=>?_;replace hF:=hF.tt;refine pq 1 hF rfl fun a hF=>?_;replace hF:=hF.tt;refine l_nil<|t_n<|c_t hF rfl<|c_sr<|pq 1 hF rfl fun a hF=>pv hF hW (y_loadOwn hF rfl 1 rfl rfl Tryz.underlying3 rfl) fun a hF=>pq 1 hF rfl fun a hF=>pv hF hW (y_indexA hF rfl rfl Od Tryz.underlying72 sz_3) fun a hF=>pe<|e_store rfl hF hW rfl rfl 5 rfl (by simp<;>omega) rfl sz_3 fun wc hW=>?_
    obtain⟨q0,q1,q2,q3,hq,hl⟩:=regs_set r0 r1 r2 r3 0 hr4
    replace hW:=hW.cast 5 _ rfl (hl _ _ _ _ _ _ _ _ _ _ _ _);refine l_nil ?_;replace hF:=hF.ks [0,1,2,3,4,5,6,7,8,9,10,15,23,47,48,56,63,72,81,94,118,122,128] rfl;refine t_n<|c_sr<|pq 1 hF rfl fun a hF=>pv hF hW (y_loadOwn hF rfl 5 rfl rfl Tryz.underlying3 rfl) fun a hF=>pq 1 hF rfl fun a hF=>pv hF hW (y_loadOwn hF rfl 6 rfl rfl Tryz.underlying41 rfl) fun a hF=>pq 2 hF rfl fun a hF=>?_;refine Fr.splitD hF (fun h8 hF=>?_) (fun h8 hF=>?_)
    ·first
      |(exfalso;omega)
      |(refine l_nil ?_
        refine t_n<|c_t hF rfl<|c_sd mixed_ok hW ((hW.del 5 rfl)) ?_
        clear hW;intro wc hW hS
        refine dq 1 [0] hF hS rfl fun a hF=>dv 1 rfl hF hS (y_loadOwn hF rfl 1 rfl rfl Tryz.underlying3 rfl) fun a hF=>dq 1 [2] hF hS rfl fun a hF=>dv 3 rfl hF hS (y_loadOwn hF rfl 5 rfl rfl Tryz.underlying41 rfl) fun a hF=>dq 2 [4,8] hF hS rfl fun a hF=>d_1 5 Kr<|d_opval rfl hF rfl hW (y_loadOwn hF rfl 5 rfl rfl Tryz.underlying3 rfl) rfl rfl fun a hF=>ai (hW.del 5 rfl) fun hS=>dv 6 rfl hF hS (y_indexS hF rfl rfl Od Tryz.underlying41 sz_3 (fun w h=>(hI).wd h)) fun a hF=>dv 7 rfl hF hS (y_loadRow hF rfl (fun w h=>(hI).wd h) Od rfl Tryz.underlying3 rfl) fun a hF=>dv 9 rfl hF hS (y_indexA hF rfl rfl Od Tryz.underlying72 sz_3) fun a hF=>d_1 10 Kr<|d_op rfl rfl<|e_store rfl hF hW rfl rfl 5 rfl (by simp<;>omega) rfl sz_3 fun wc hW=>?_
        obtain⟨q4,q5,q6,q7,hq2,hl2⟩:=regs_set q0 q1 q2 q3 (inp.getD rn 0) hr4
        replace hW:=hW.cast 5 _ rfl (hl2 _ _ _ _ _ _ _ _ _ _ _ _);refine ai (hW.del 5 rfl) fun hS=>?_;clear hS;refine d_nil Kr ?_;replace hF:=hF.ks [0,1,2,3,4,5,6,7,8,9,10,15,23,47,48,56,63,72,81,94,118,122,128,139] rfl;refine t_n<|c_r<|pq 1 hF rfl fun a hF=>pv hF hW (y_loadOwn hF rfl 5 rfl rfl Tryz.underlying3 rfl) fun a hF=>pv hF hW (y_add hF rfl rfl (IntWalk.i64_in _ Om)) fun a hF=>pq 1 hF rfl fun a hF=>pe<|e_store rfl hF hW rfl rfl 5 rfl rfl rfl sz_3 fun wc hW=>l_nil<|b_n<|t_n<|c_sr<|pq 2 hF rfl fun a hF=>pe<|e_store rfl hF hW rfl rfl 5 rfl rfl rfl sz_3 fun wc hW=>l_nil<|t_n<|c_sd mixed_ok hW ((hW.ds [3,3] rfl)) ?_
        clear hW;intro wc hW hS
        refine dv 0 rfl hF hS (y_loadAll hF rfl 3 rfl Tryz.underlying75 rfl sz_75) fun a hF=>dv 1 rfl hF hS (y_loadAll hF rfl 0 rfl Tryz.underlying191 rfl sz_191) fun a hF=>d_1 2 Kr<|d_op rfl rfl<|e_storeAll rfl hF hW rfl rfl 4 rfl rfl rfl Kr sz_75 fun wc hW=>ai (hW.ds [3,3] rfl) fun hS=>d_1 3 Kr<|d_op rfl rfl<|e_storeAll rfl hF hW rfl rfl 3 rfl rfl rfl Kr sz_191 fun wc hW=>ai (hW.ds [3,3] rfl) fun hS=>?_;clear hS;refine d_nil Kr<|t_n<|wp_ret<|ret2 Tryz.results116 hF (rv_c hF rfl hW 4 rfl Tryz.underlying75 rfl sz_75) (rv_c hF rfl hW 3 rfl Tryz.underlying191 rfl sz_191) ?_
        first
        |(revert hq2;intro hq2;have e4:[r0,r1,r2,r3].set r (inp.getD rn 0)=[q4,q5,q6,q7]:=(by rw[←hq2,←hq,List.set_set]);rw[if_pos (show(rn:Int)<inp.length by assumption),if_pos (show(rn:Int)<inp.length by assumption),Int.toNat_natCast,e4];exact⟨_,rfl,⟨rfl,rfl⟩,hW.row_own 2 rfl,hW.below⟩)
        |(rw[if_neg (show¬(rn:Int)<inp.length by assumption),if_neg (show¬(rn:Int)<inp.length by assumption),hq];exact⟨_,rfl,⟨rfl,rfl⟩,hW.row_own 2 rfl,hW.below⟩))
    ·first
      |(exfalso;omega)
      |(refine l_nil ?_
        refine t_n<|c_f hF rfl<|wp_skip<|b_n<|t_n<|c_sr<|pq 2 hF rfl fun a hF=>pe<|e_store rfl hF hW rfl rfl 5 rfl rfl rfl sz_3 fun wc hW=>l_nil<|t_n<|c_sd mixed_ok hW ((hW.ds [3,3] rfl)) ?_
        clear hW;intro wc hW hS
        refine dv 0 rfl hF hS (y_loadAll hF rfl 3 rfl Tryz.underlying75 rfl sz_75) fun a hF=>dv 1 rfl hF hS (y_loadAll hF rfl 0 rfl Tryz.underlying191 rfl sz_191) fun a hF=>d_1 2 Kr<|d_op rfl rfl<|e_storeAll rfl hF hW rfl rfl 4 rfl rfl rfl Kr sz_75 fun wc hW=>ai (hW.ds [3,3] rfl) fun hS=>d_1 3 Kr<|d_op rfl rfl<|e_storeAll rfl hF hW rfl rfl 3 rfl rfl rfl Kr sz_191 fun wc hW=>ai (hW.ds [3,3] rfl) fun hS=>?_;clear hS;refine d_nil Kr<|t_n<|wp_ret<|ret2 Tryz.results116 hF (rv_c hF rfl hW 4 rfl Tryz.underlying75 rfl sz_75) (rv_c hF rfl hW 3 rfl Tryz.underlying191 rfl sz_191) ?_
        first
        |(revert hq2;intro hq2;have e4:[r0,r1,r2,r3].set r (inp.getD rn 0)=[q4,q5,q6,q7]:=(by rw[←hq2,←hq,List.set_set]);rw[if_pos (show(rn:Int)<inp.length by assumption),if_pos (show(rn:Int)<inp.length by assumption),Int.toNat_natCast,e4];exact⟨_,rfl,⟨rfl,rfl⟩,hW.row_own 2 rfl,hW.below⟩)
        |(rw[if_neg (show¬(rn:Int)<inp.length by assumption),if_neg (show¬(rn:Int)<inp.length by assumption),hq];exact⟨_,rfl,⟨rfl,rfl⟩,hW.row_own 2 rfl,hW.below⟩)))
theorem stepR_out{r:Nat}(hr4:r<4)(at':Nat)(r0 r1 r2 r3 m0 m1 m2 m3 m4 m5 m6 m7 rd:Int)(l:List Ins)(inp out:List Int)(Ac Ai Ao:Option Addr)(cc ci co:Nat)(w:World)
 (hC:RF w Ac l.length 4 (fun k=>[.int .i64 (l.getD k ⟨0,0,0,0⟩).op,.int .i64 (l.getD k ⟨0,0,0,0⟩).a,.int .i64 (l.getD k ⟨0,0,0,0⟩).b,.int .i64 (l.getD k ⟨0,0,0,0⟩).n])) (hlt:at'<l.length) (hl:l.length≤1048576)
 (hi:l.getD at' ⟨0,0,0,0⟩=⟨11,r,0,0⟩) (ho:Ints w (.slice Ao out.length co) out) (hol:out.length≤1048576):
 Calls Tryz.prog 116 #[.agg #[.slice Ac l.length cc,.slice Ai inp.length ci],.agg #[.int .i64 at',.int .i64 r0,.int .i64 r1,.int .i64 r2,.int .i64 r3,.int .i64 m0,.int .i64 m1,.int .i64 m2,.int .i64 m3,.int .i64 m4,.int .i64 m5,.int .i64 m6,.int .i64 m7,.int .i64 rd,.slice Ao out.length co,.int .i64 0]] w
  (CelWantBack w (⟨at'+1,[r0,r1,r2,r3],[m0,m1,m2,m3,m4,m5,m6,m7],rd,if out.length<16 then out++[[r0,r1,r2,r3].getD r 0] else out,0⟩,Wnt.zero)):=by
 have hown:=fun w1 (hb:Below w.heap.size w w1)=>ownCell_abs ⟨at',[r0,r1,r2,r3],[m0,m1,m2,m3,m4,m5,m6,m7],rd,out,0⟩ (.slice Ao out.length co) ⟨rfl,rfl⟩ w ho hol w1 hb
 refine enter Tryz.func116 rfl Tryz.ntmps116 rfl fun a hF=>?_
 have hW:=Wd.start w NoB
 refine c_sr<|pe<|e_box hF hW rfl rfl rfl rfl fun b1 a wc hF hW=>pe<|e_box hF hW rfl rfl rfl rfl fun b2 a wc hF hW=>pe<|e_alloc hF hW ze_75 rfl rfl rfl fun b3 a wc hF hW=>pe<|e_alloc hF hW ze_191 rfl rfl rfl fun b4 a wc hF hW=>lts<|pv hF hW (y_loadAll hF rfl 2 rfl Tryz.underlying75 rfl sz_75) fun a hF=>?_;refine pe (e_callA hF rfl rfl en_145 Rl (hown _ hW.below) ?_);rintro e w1 ⟨A1,c1,rfl,hown1,hb⟩;replace hW:=hW.got_row (v:=.slice A1 out.length c1) (n:=out.length) (cs:=out.map (.int .i64)) hb hown1;refine⟨_,rfl,fun a hF=>?_⟩;replace hF:=Fr.cast (v':=.agg #[.int .i64 at',.int .i64 r0,.int .i64 r1,.int .i64 r2,.int .i64 r3,.int .i64 m0,.int .i64 m1,.int .i64 m2,.int .i64 m3,.int .i64 m4,.int .i64 m5,.int .i64 m6,.int .i64 m7,.int .i64 rd,.slice A1 out.length c1,.int .i64 0]) rfl hF;refine pe<|e_storeAll rfl hF hW rfl rfl 3 rfl rfl rfl Kr sz_75 fun wc hW=>l_nil<|t_n<|c_s<|c_sr<|pq 1 hF rfl fun a hF=>pv hF hW (y_loadOwn hF rfl 3 rfl rfl Tryz.underlying3 rfl) fun a hF=>pq 1 hF rfl fun a hF=>?_;replace hF:=hF.ff;refine l_nil<|t_n<|c_f hF rfl<|wp_skip<|t_n<|c_s<|c_sr<|pq 1 hF rfl fun a hF=>pv hF hW (y_loadOwn hF rfl 3 rfl rfl Tryz.underlying3 rfl) fun a hF=>pq 1 hF rfl fun a hF=>pv hF hW (y_loadOwn hF rfl 4 rfl rfl Tryz.underlying40 rfl) fun a hF=>pq 2 hF rfl fun a hF=>?_;refine Fr.splitD hF (fun h5 hF=>?_) (fun h5 hF=>?_)
 first
  |(exfalso;omega)
  |(refine l_nil ?_
    refine t_n<|c_t hF rfl<|c_sr<|pq 1 hF rfl fun a hF=>pe<|e_store rfl hF hW rfl rfl 3 rfl rfl rfl sz_3 fun wc hW=>lts<|pv hF hW (y_loadAll hF rfl 3 rfl Tryz.underlying75 rfl sz_75) fun a hF=>pv hF hW (y_build hF rfl (fun w=>bu_CellIO_191_ w)) fun a hF=>?_;refine pe<|e_storeAll rfl hF hW rfl rfl 2 rfl rfl rfl Kr sz_75 fun wc hW=>pe<|e_storeAll rfl hF hW rfl rfl 1 rfl rfl rfl Kr sz_191 fun wc hW=>l_nil<|t_n<|wp_ret<|t_r<|ret2 Tryz.results116 hF (rv_c hF rfl hW 2 rfl Tryz.underlying75 rfl sz_75) (rv_c hF rfl hW 1 rfl Tryz.underlying191 rfl sz_191) ?_
    first|rw[if_pos (show out.length<16 by omega)]|rw[if_neg (show¬out.length<16 by omega)]
    first|exact⟨_,rfl,⟨rfl,rfl⟩,hW.row_own 0 rfl,hW.below⟩|exact⟨_,rfl,⟨rfl,rfl⟩,(by have:=hW.row_own 0 rfl;rw[OwnAs,List.length_append];exact this),hW.below⟩)
 first
  |(exfalso;omega)
  |(refine l_nil ?_
    refine t_n<|c_f hF rfl<|wp_skip<|t_n<|c_sr<|pq 1 hF rfl fun a hF=>pv hF hW (y_loadOwn hF rfl 4 rfl rfl Tryz.underlying40 rfl) fun a hF=>pq 1 hF rfl fun a hF=>pv hF hW (y_loadOwn hF rfl 3 rfl rfl Tryz.underlying3 rfl) fun a hF=>pv hF hW (y_indexS hF rfl rfl Od Tryz.underlying40 sz_118 (fun w h=>(hC).wd h)) fun a hF=>pv hF hW (y_loadRowW hF rfl (fun w h=>(hC).wd h) Od Tryz.underlying118 rfl sz_118) fun a hF=>?_;replace hF:=Fr.cast (v':=.agg #[.int .i64 11,.int .i64 (r:Int),.int .i64 0,.int .i64 0]) (by rw[hi]) hF;refine pe<|e_alloc hF hW ze_118 rfl rfl rfl fun b6 a wc hF hW=>pe<|e_storeAll rfl hF hW rfl rfl 0 rfl rfl rfl Kr sz_118 fun wc hW=>l_nil ?_;replace hF:=hF.ks [0,1,2,3,4,5,6,15,23] rfl;refine t_n<|c_sr<|pq 1 hF rfl fun a hF=>pv hF hW (y_loadOwn hF rfl 4 rfl rfl Tryz.underlying3 rfl) fun a hF=>pv hF hW (y_add hF rfl rfl (IntWalk.i64_in _ Om)) fun a hF=>pq 1 hF rfl fun a hF=>l_nil<|t_n<|c_sd mixed_ok hW (hW) ?_
    clear hW;intro wc hW hS
    refine dq 1 [0] hF hS rfl fun a hF=>dv 1 rfl hF hS (y_loadOwn hF rfl 0 rfl rfl Tryz.underlying3 rfl) fun a hF=>dq 1 [2] hF hS rfl fun a hF=>dv 3 rfl hF hS (y_indexA hF rfl rfl Od Tryz.underlying72 sz_3) fun a hF=>dv 4 rfl hF hS (y_loadOwn hF rfl 4 rfl (regs_get _ _ _ _ hr4 _ _) Tryz.underlying3 rfl) fun a hF=>dq 1 [5] hF hS rfl fun a hF=>dv 6 rfl hF hS (y_loadOwn hF rfl 0 rfl rfl Tryz.underlying3 rfl) fun a hF=>dq 1 [7] hF hS rfl fun a hF=>dv 8 rfl hF hS (y_indexA hF rfl rfl Od Tryz.underlying72 sz_3) fun a hF=>dv 9 rfl hF hS (y_loadOwn hF rfl 4 rfl rfl Tryz.underlying3 rfl) fun a hF=>dq 2 [10,11] hF hS rfl fun a hF=>?_;clear hS;refine d_nil Kr<|t_n<|c_sr<|pe<|e_alloc hF hW ze_191 rfl rfl rfl fun b7 a wc hF hW=>l_nil<|t_n<|c_s<|c_sr<|pq 1 hF rfl fun a hF=>pv hF hW (y_loadOwn hF rfl 1 rfl rfl Tryz.underlying3 rfl) fun a hF=>l_nil ?_;replace hF:=hF.ks [0,1,2,3,4,5,6,7,8,9,10,15,23,47] rfl;refine t_n<|wp_block<|c_sr<|pq 1 hF rfl fun a hF=>?_;replace hF:=hF.ff;refine pq 1 hF rfl fun a hF=>?_;replace hF:=hF.ff;refine l_nil<|t_n<|c_f hF rfl<|c_sr<|pq 1 hF rfl fun a hF=>?_;replace hF:=hF.ff;refine pq 1 hF rfl fun a hF=>?_;replace hF:=hF.ff;refine l_nil<|t_n<|c_f hF rfl<|c_sr<|pq 1 hF rfl fun a hF=>?_;replace hF:=hF.ff;refine pq 1 hF rfl fun a hF=>?_;replace hF:=hF.ff;refine l_nil<|t_n<|c_f hF rfl<|c_sr<|pq 1 hF rfl fun a hF=>?_;replace hF:=hF.ff;refine pq 1 hF rfl fun a hF=>?_;replace hF:=hF.ff;refine l_nil<|t_n<|c_f hF rfl<|c_sr<|pq 1 hF rfl fun a hF=>?_;replace hF:=hF.ff;refine pq 1 hF rfl fun a hF=>?_;replace hF:=hF.ff;refine l_nil<|t_n<|c_f hF rfl<|c_s<|c_sr<|pq 1 hF rfl fun a hF=>?_;replace hF:=hF.ff;refine pq 1 hF rfl fun a hF=>?_;replace hF:=hF.ff;refine l_nil<|t_n<|c_f hF rfl<|c_r<|pq 1 hF rfl fun a hF=>?_;replace hF:=hF.ff;refine pq 1 hF rfl fun a hF=>?_;replace hF:=hF.ff;refine l_nil<|t_n<|c_f hF rfl<|c_sr<|pq 1 hF rfl fun a hF=>?_;replace hF:=hF.ff;refine pq 1 hF rfl fun a hF=>?_;replace hF:=hF.ff;refine l_nil<|t_n<|c_f hF rfl<|c_sr<|pq 1 hF rfl fun a hF=>?_;replace hF:=hF.ff;refine pq 1 hF rfl fun a hF=>?_;replace hF:=hF.ff;refine l_nil<|t_n<|c_f hF rfl<|c_sr ?_
    refine pq 1 hF rfl fun a hF=>?_;replace hF:=hF.ff;refine pq 1 hF rfl fun a hF=>?_;replace hF:=hF.ff;refine l_nil<|t_n<|c_f hF rfl<|c_sr<|pq 1 hF rfl fun a hF=>?_;replace hF:=hF.tt;refine pq 1 hF rfl fun a hF=>?_;replace hF:=hF.tt;refine l_nil<|t_n<|c_t hF rfl<|c_sr<|pq 1 hF rfl fun a hF=>pv hF hW (y_loadOwn hF rfl 5 rfl rfl Tryz.underlying41 rfl) fun a hF=>pq 2 hF rfl fun a hF=>?_;refine Fr.splitD hF (fun h8 hF=>?_) (fun h8 hF=>?_)
    ·first
      |(exfalso;omega)
      |(refine l_nil ?_
        replace hF:=hF.ks [0,1,2,3,4,5,6,7,8,9,10,15,23,47,48,56,63,72,81,94,118,122,128,154,159] rfl;refine t_n<|c_t hF rfl<|c_r<|pq 1 hF rfl fun a hF=>pv hF hW (y_loadOwn hF rfl 5 rfl rfl Tryz.underlying41 rfl) fun a hF=>pq 1 hF rfl fun a hF=>pe<|e_buildSlice hF hW rfl (fun w=>bs_CellIO_41_1_0 _ w) rfl rfl rfl fun b9 a wc hF hW=>pe<|e_append hF hW 3 rfl rfl rfl Tryz.underlying41 inf_3 rfl Dc (rowAt_blk (hW.blk 0 rfl) 1 1 rfl) Oc (show _=out.length+1 by omega) (show _=(out++[[r0,r1,r2,r3].getD r 0]).map (.int .i64) by simp) Ox Ml rfl rfl fun A10 c11 a wc hF hW=>pq 1 hF rfl fun a hF=>pe<|e_store rfl hF hW rfl rfl 6 rfl rfl rfl sz_41 fun wc hW=>l_nil<|b_n<|t_n<|c_sr<|pq 2 hF rfl fun a hF=>pe<|e_store rfl hF hW rfl rfl 6 rfl rfl rfl sz_3 fun wc hW=>l_nil<|t_n<|c_sd mixed_ok hW ((hW.ds [4,4] rfl)) ?_
        clear hW;intro wc hW hS
        refine dv 0 rfl hF hS (y_loadAll hF rfl 4 rfl Tryz.underlying75 rfl sz_75) fun a hF=>dv 1 rfl hF hS (y_loadAll hF rfl 1 rfl Tryz.underlying191 rfl sz_191) fun a hF=>d_1 2 Kr<|d_op rfl rfl<|e_storeAll rfl hF hW rfl rfl 5 rfl rfl rfl Kr sz_75 fun wc hW=>ai (hW.ds [4,4] rfl) fun hS=>d_1 3 Kr<|d_op rfl rfl<|e_storeAll rfl hF hW rfl rfl 4 rfl rfl rfl Kr sz_191 fun wc hW=>ai (hW.ds [4,4] rfl) fun hS=>?_;clear hS;refine d_nil Kr<|t_n<|wp_ret<|ret2 Tryz.results116 hF (rv_c hF rfl hW 5 rfl Tryz.underlying75 rfl sz_75) (rv_c hF rfl hW 4 rfl Tryz.underlying191 rfl sz_191) ?_
        first|rw[if_pos (show out.length<16 by omega)]|rw[if_neg (show¬out.length<16 by omega)]
        first|exact⟨_,rfl,⟨rfl,rfl⟩,hW.row_own 3 rfl,hW.below⟩|exact⟨_,rfl,⟨rfl,rfl⟩,(by have:=hW.row_own 3 rfl;rw[OwnAs,List.length_append];exact this),hW.below⟩)
    ·first
      |(exfalso;omega)
      |(refine l_nil ?_
        replace hF:=hF.ks [0,1,2,3,4,5,6,7,8,9,10,15,23,47,48,56,63,72,81,94,118,122,128,154,159] rfl;refine t_n<|c_f hF rfl<|wp_skip<|b_n<|t_n<|c_sr<|pq 2 hF rfl fun a hF=>pe<|e_store rfl hF hW rfl rfl 5 rfl rfl rfl sz_3 fun wc hW=>l_nil<|t_n<|c_sd mixed_ok hW ((hW.ds [3,3] rfl)) ?_
        clear hW;intro wc hW hS
        refine dv 0 rfl hF hS (y_loadAll hF rfl 3 rfl Tryz.underlying75 rfl sz_75) fun a hF=>dv 1 rfl hF hS (y_loadAll hF rfl 0 rfl Tryz.underlying191 rfl sz_191) fun a hF=>d_1 2 Kr<|d_op rfl rfl<|e_storeAll rfl hF hW rfl rfl 4 rfl rfl rfl Kr sz_75 fun wc hW=>ai (hW.ds [3,3] rfl) fun hS=>d_1 3 Kr<|d_op rfl rfl<|e_storeAll rfl hF hW rfl rfl 3 rfl rfl rfl Kr sz_191 fun wc hW=>ai (hW.ds [3,3] rfl) fun hS=>?_;clear hS;refine d_nil Kr<|t_n<|wp_ret<|ret2 Tryz.results116 hF (rv_c hF rfl hW 4 rfl Tryz.underlying75 rfl sz_75) (rv_c hF rfl hW 3 rfl Tryz.underlying191 rfl sz_191) ?_
        first|rw[if_pos (show out.length<16 by omega)]|rw[if_neg (show¬out.length<16 by omega)]
        first|exact⟨_,rfl,⟨rfl,rfl⟩,hW.row_own 2 rfl,hW.below⟩|exact⟨_,rfl,⟨rfl,rfl⟩,(by have:=hW.row_own 2 rfl;rw[OwnAs,List.length_append];exact this),hW.below⟩))
theorem chk_io{op a b n:Int}(hop:op=10∨op=11)(h:chkI op a b n=0):(a=0∨a=1∨a=2∨a=3)∧b=0∧n=0:=by
 have h4:=(chk_regs h).2.1
 refine⟨by omega,?_⟩
 rcases hop with rfl|rfl
 all_goals
  unfold chkI at h
  simp[hasA,hasB,hasN] at h
  split at h
  ·cases h
  ·split at h
   ·cases h
   ·omega
theorem stepR_any(p:Prt)(c:Cel)(cv iv ov:Value)(w:World)(hwf:c.wf)(ho:Ints w ov c.out)(hc:Code_ w cv p.code)(hi:Ints w iv p.inp)(hcode:chkCode p.code=0)(hf:cellFine c=true)(hrd:c.read≤p.inp.length):
 Calls Tryz.prog 116 #[.agg #[cv,iv],celV c ov] w (CelWantBack w (stepOf p c)):=by
 have hfine:=hf
 unfold cellFine at hfine
 simp only[decide_eq_true_eq] at hfine
 obtain⟨h0,h20,hr0,hr12,he0,he2,hol⟩:=hfine
 obtain⟨hlen,hall⟩:=chkCode_all hcode
 by_cases he:c.end_=0
 ·by_cases hp:(p.code.length:Int)≤c.at_
  ·exact stepR_past p c cv iv ov w hwf ho Om hc he h0 hp
  ·obtain⟨at',ha⟩:=Int.eq_ofNat_of_zero_le h0
   have hal:at'<p.code.length:=by omega
   have hst:stepOf p c=match doOf p.code[at'] c p.inp with
    |none=>({c with end_:=2},Wnt.zero)
    |some r=>r:=by
        unfold stepOf
        rw[if_neg (by simp[he]),ha,Int.toNat_natCast,List.getElem?_eq_getElem hal]
        rfl
   have hck:=hall _ (List.getElem_mem hal)
   have hget:p.code.getD at' ⟨0,0,0,0⟩=p.code[at']:=by simp[hal]
   by_cases hio:p.code[at'].op=10∨p.code[at'].op=11
   ·obtain⟨ha4,hb,hn⟩:=chk_io hio hck
    obtain⟨Ac,cc,rfl,_,_,hC⟩:=RF.of_flat Ins.cells_len ⟨0,0,0,0⟩ hc
    obtain⟨Ai,ci,rfl,_,_,hI⟩:=RF.of_ints hi
    obtain⟨Ao,co,rfl⟩:=ho.form rfl
    rw[hst]
    clear hst
    generalize p.code[at']=ins at*
    obtain⟨op,a,b,n⟩:=ins
    dsimp only at hio ha4 hb hn
    subst hb hn
    obtain⟨at_,regs,mem,rd,out,en⟩:=c
    obtain⟨r0,r1,r2,r3,hregs⟩:=len_four hwf.1
    obtain⟨m0,m1,m2,m3,m4,m5,m6,m7,hmem⟩:=len_eight hwf.2
    dsimp only at hregs hmem
    subst hregs hmem
    clear hwf
    dsimp only at*
    subst ha he
    obtain⟨r,rfl,hr4⟩:∃r:Nat,a=r∧r<4:=⟨a.toNat,by omega,by omega⟩
    clear ha4
    rcases hio with rfl|rfl
    ·have key:∀(x:Cel×Wnt) (y:Cel×Wnt),x=y→Calls Tryz.prog 116 #[.agg #[.slice Ac p.code.length cc,.slice Ai p.inp.length ci],celV ⟨at',[r0,r1,r2,r3],[m0,m1,m2,m3,m4,m5,m6,m7],rd,out,0⟩ (.slice Ao out.length co)] w (CelWantBack w x)→Calls Tryz.prog 116 #[.agg #[.slice Ac p.code.length cc,.slice Ai p.inp.length ci],celV ⟨at',[r0,r1,r2,r3],[m0,m1,m2,m3,m4,m5,m6,m7],rd,out,0⟩ (.slice Ao out.length co)] w (CelWantBack w y):=fun x y e h=>e▸h
     exact key _ _ (by simp only[doOf,Int.toNat_natCast];by_cases hlt:rd<p.inp.length<;>simp[hlt]) (stepR_in hr4 at' r0 r1 r2 r3 m0 m1 m2 m3 m4 m5 m6 m7 rd p.code p.inp out Ac Ai Ao cc ci co w hC hal Om hget hI ho Om hr0 hrd hr12)
    ·exact stepR_out hr4 at' r0 r1 r2 r3 m0 m1 m2 m3 m4 m5 m6 m7 rd p.code p.inp out Ac Ai Ao cc ci co w hC hal Om hget ho Om
   ·refine stepR_ins p c cv iv ov w hwf ho Om hc hi hall he h0 h20 Om hr0 hrd hr12 fun i hi'=>?_
    rw[ha,Int.toNat_natCast,List.getElem?_eq_getElem hal] at hi'
    injection hi' with hi'
    subst hi'
    omega
 ·exact stepR_ended p c cv iv ov w hwf ho Om he
end
section
open Go.RowKit
set_option maxRecDepth 100000
theorem replyOfR_any(c:Cel)(k:Wnt)(kind val:Int)(is:Bool)(ov:Value)(hwf:c.wf)(w:World)(ho:Ints w ov c.out)(h0:replyErr c k kind=0):
 Calls Tryz.prog 119 #[celV c ov,wntV k,.int .i64 kind,.int .i64 val,.bool is] w (CelBack w (replyOf c k kind val is)):=by
 unfold replyErr at h0
 have hf:cellFine c=true:=by
  cases h:cellFine c
  ·rw[if_pos h] at h0;cases h0
  ·rfl
 rw[if_neg (by simp[hf])] at h0
 have hkk:¬((k.kind≠12∧k.kind≠13)∨(kind≠1∧kind≠2)):=fun h=>by rw[if_pos h] at h0;cases h0
 rw[if_neg hkk] at h0
 have hrr:(regOk k.reg&&regOk k.flag)=true:=by
  cases h:(regOk k.reg&&regOk k.flag)
  ·rw[if_neg (by simp[h])] at h0;cases h0
  ·rfl
 simp only[regOk,Bool.and_eq_true,decide_eq_true_eq] at hrr
 have hol:c.out.length≤1048576:=by unfold cellFine at hf;simp only[decide_eq_true_eq] at hf;omega
 clear h0 hf
 have hown:=fun w1 (hb:Below w.heap.size w w1)=>ownCell_abs c ov hwf w ho hol w1 hb
 obtain⟨A,n,rfl⟩:=ho.form rfl
 obtain⟨at_,regs,mem,rd,out,en⟩:=c
 obtain⟨r0,r1,r2,r3,hregs⟩:=len_four hwf.1
 obtain⟨m0,m1,m2,m3,m4,m5,m6,m7,hmem⟩:=len_eight hwf.2
 dsimp only at hregs hmem
 subst hregs hmem
 clear hwf
 rw[celV_eq] at*
 obtain⟨kk,kc,kr,kf,kv⟩:=k
 dsimp only at*
 obtain⟨⟨hr0,hr4⟩,hf0,hf4⟩:=hrr
 obtain⟨r,rfl⟩:=Int.eq_ofNat_of_zero_le hr0
 obtain⟨f,rfl⟩:=Int.eq_ofNat_of_zero_le hf0
 have hr:r<4:=by omega
 have hf:f<4:=by omega
 cases is
 case false=>
  refine enter Tryz.func119 rfl Tryz.ntmps119 rfl fun a hF=>?_
  have hW:=Wd.start w NoB
  refine c_sr<|pe<|e_box hF hW rfl rfl rfl rfl fun b1 a wc hF hW=>pe<|e_box hF hW rfl rfl rfl rfl fun b2 a wc hF hW=>pe<|e_alloc hF hW ze_75 rfl rfl rfl fun b3 a wc hF hW=>lts<|pv hF hW (y_loadAll hF rfl 2 rfl Tryz.underlying75 rfl sz_75) fun a hF=>?_;refine pe (e_callA hF rfl rfl en_145 Rl (hown _ hW.below) ?_);rintro e w1 ⟨A1,c1,rfl,hown1,hb⟩;replace hW:=hW.got_row (v:=.slice A1 out.length c1) (n:=out.length) (cs:=out.map (.int .i64)) hb hown1;refine⟨_,rfl,fun a hF=>?_⟩;replace hF:=Fr.cast (v':=.agg #[.int .i64 at_,.int .i64 r0,.int .i64 r1,.int .i64 r2,.int .i64 r3,.int .i64 m0,.int .i64 m1,.int .i64 m2,.int .i64 m3,.int .i64 m4,.int .i64 m5,.int .i64 m6,.int .i64 m7,.int .i64 rd,.slice A1 out.length c1,.int .i64 en]) rfl hF;refine pe<|e_storeAll rfl hF hW rfl rfl 3 rfl rfl rfl Kr sz_75 fun wc hW=>l_nil<|t_n<|c_s<|wp_block<|c_sr<|pq 1 hF rfl fun a hF=>pv hF hW (y_loadOwn hF rfl 2 rfl rfl Tryz.underlying3 rfl) fun a hF=>pq 1 hF rfl fun a hF=>?_;refine Fr.splitD hF (fun h4 hF=>?_) (fun h4 hF=>?_)
  first
        |(exfalso;omega)
        |(refine pv hF hW (y_move hF rfl) (fun a hF=>?_)
          refine pq 2 hF rfl fun a hF=>?_;refine Fr.splitD hF (fun h5 hF=>?_) (fun h5 hF=>?_)
          ·first
            |(exfalso;omega)
            |(refine pv hF hW (y_pick hF rfl rfl) (fun a hF=>?_)
              refine pq 1 hF rfl fun a hF=>l_nil<|t_n<|c_t hF rfl<|c_d mixed_ok hW ((hW.del 3 rfl)) ?_
              clear hW;intro wc hW hS
              refine dq 1 [0] hF hS rfl fun a hF=>dv 1 rfl hF hS (y_loadOwn hF rfl 2 rfl rfl Tryz.underlying3 rfl) fun a hF=>dq 2 [2,4] hF hS rfl fun a hF=>d_1 3 Kr<|d_op rfl rfl<|e_callK hF hW rfl rfl en_148 Rl (truth_any _ _) fun a w1 hW hF=>ai (hW.del 3 rfl) fun hS=>dv 5 rfl hF hS (y_indexA hF rfl rfl Od Tryz.underlying72 sz_3) fun a hF=>d_1 6 Kr<|d_op rfl rfl<|e_store rfl hF hW rfl rfl 3 rfl (by simp<;>omega) rfl sz_3 fun wc hW=>?_
              obtain⟨q0,q1,q2,q3,hq,hl⟩:=regs_set r0 r1 r2 r3 (bitI false) hr
              replace hW:=hW.cast 3 _ rfl (hl _ _ _ _ _ _ _ _ _ _ _ _);refine ai (hW.del 3 rfl) fun hS=>?_;clear hS;refine d_nil Kr ?_;replace hF:=hF.ks [0,1,2,3,4,5,6,10,13] rfl;refine b_n<|t_n<|c_sr<|pv hF hW (y_loadAll hF rfl 3 rfl Tryz.underlying75 rfl sz_75) fun a hF=>pe<|e_storeAll rfl hF hW rfl rfl 1 rfl rfl rfl Kr sz_75 fun wc hW=>l_nil<|t_n<|wp_ret<|ret1 Tryz.results119 hF (rv_c hF rfl hW 1 rfl Tryz.underlying75 rfl sz_75) ?_
              generalize hR:replyOf _ _ _ _ _=c'
              first
              |(revert hq2;intro hq2;obtain rfl:c'=⟨at_,[q4,q5,q6,q7],[m0,m1,m2,m3,m4,m5,m6,m7],rd,out,en⟩:=by(rw[←hR];simp only[replyOf,Int.toNat_natCast];simp_all))
              |(revert hq;intro hq;obtain rfl:c'=⟨at_,[q0,q1,q2,q3],[m0,m1,m2,m3,m4,m5,m6,m7],rd,out,en⟩:=by(rw[←hR];simp only[replyOf,Int.toNat_natCast];simp_all))
              |(obtain rfl:c'=⟨at_,[r0,r1,r2,r3],[m0,m1,m2,m3,m4,m5,m6,m7],rd,out,en⟩:=by(rw[←hR];simp only[replyOf,Int.toNat_natCast];simp_all))
              exact⟨_,rfl,⟨rfl,rfl⟩,hW.row_own 0 rfl,hW.below⟩)
          ·first
            |(exfalso;omega)
            |(refine pv hF hW (y_pick hF rfl rfl) (fun a hF=>?_)
              refine pq 1 hF rfl fun a hF=>l_nil<|t_n<|c_f hF rfl<|c_sr<|pq 1 hF rfl fun a hF=>pv hF hW (y_loadOwn hF rfl 2 rfl rfl Tryz.underlying3 rfl) fun a hF=>pq 1 hF rfl fun a hF=>?_;refine Fr.splitD hF (fun h6 hF=>?_) (fun h6 hF=>?_)
              ·first
                     |(exfalso;omega)
                     |(refine pv hF hW (y_assign hF rfl) (fun a hF=>?_)
                       refine l_nil<|t_n<|c_t hF rfl<|c_s<|c_sr<|pq 1 hF rfl fun a hF=>l_nil<|t_n<|c_f hF rfl<|wp_skip<|t_n<|c_d mixed_ok hW ((hW.del 3 rfl)) ?_
                       clear hW;intro wc hW hS
                       refine dq 1 [0] hF hS rfl fun a hF=>dv 1 rfl hF hS (y_loadOwn hF rfl 2 rfl rfl Tryz.underlying3 rfl) fun a hF=>dq 2 [2,4] hF hS rfl fun a hF=>d_1 3 Kr<|d_op rfl rfl<|e_callK hF hW rfl rfl en_148 Rl (truth_any _ _) fun a w1 hW hF=>ai (hW.del 3 rfl) fun hS=>dv 5 rfl hF hS (y_indexA hF rfl rfl Od Tryz.underlying72 sz_3) fun a hF=>d_1 6 Kr<|d_op rfl rfl<|e_store rfl hF hW rfl rfl 3 rfl (by simp<;>omega) rfl sz_3 fun wc hW=>?_
                       obtain⟨q4,q5,q6,q7,hq2,hl2⟩:=regs_set _ _ _ _ (bitI false) hf
                       replace hW:=hW.cast 3 _ rfl (hl2 _ _ _ _ _ _ _ _ _ _ _ _);refine ai (hW.del 3 rfl) fun hS=>?_;clear hS;refine d_nil Kr ?_;replace hF:=hF.ks [0,1,2,3,4,5,6,10,13,27,31] rfl;refine b_n<|t_n<|c_sr<|pv hF hW (y_loadAll hF rfl 3 rfl Tryz.underlying75 rfl sz_75) fun a hF=>pe<|e_storeAll rfl hF hW rfl rfl 1 rfl rfl rfl Kr sz_75 fun wc hW=>l_nil<|t_n<|wp_ret<|ret1 Tryz.results119 hF (rv_c hF rfl hW 1 rfl Tryz.underlying75 rfl sz_75) ?_
                       generalize hR:replyOf _ _ _ _ _=c'
                       first
                       |(revert hq2;intro hq2;obtain rfl:c'=⟨at_,[q4,q5,q6,q7],[m0,m1,m2,m3,m4,m5,m6,m7],rd,out,en⟩:=by(rw[←hR];simp only[replyOf,Int.toNat_natCast];simp_all))
                       |(revert hq;intro hq;obtain rfl:c'=⟨at_,[q0,q1,q2,q3],[m0,m1,m2,m3,m4,m5,m6,m7],rd,out,en⟩:=by(rw[←hR];simp only[replyOf,Int.toNat_natCast];simp_all))
                       |(obtain rfl:c'=⟨at_,[r0,r1,r2,r3],[m0,m1,m2,m3,m4,m5,m6,m7],rd,out,en⟩:=by(rw[←hR];simp only[replyOf,Int.toNat_natCast];simp_all))
                       exact⟨_,rfl,⟨rfl,rfl⟩,hW.row_own 0 rfl,hW.below⟩)
              ·first
                     |(exfalso;omega)
                     |(refine pv hF hW (y_assign hF rfl) (fun a hF=>?_)
                       refine l_nil<|t_n<|c_f hF rfl<|wp_skip<|b_n<|t_n<|c_sr<|pv hF hW (y_loadAll hF rfl 3 rfl Tryz.underlying75 rfl sz_75) fun a hF=>pe<|e_storeAll rfl hF hW rfl rfl 1 rfl rfl rfl Kr sz_75 fun wc hW=>l_nil<|t_n<|wp_ret<|ret1 Tryz.results119 hF (rv_c hF rfl hW 1 rfl Tryz.underlying75 rfl sz_75) ?_
                       generalize hR:replyOf _ _ _ _ _=c'
                       first
                       |(revert hq2;intro hq2;obtain rfl:c'=⟨at_,[q4,q5,q6,q7],[m0,m1,m2,m3,m4,m5,m6,m7],rd,out,en⟩:=by(rw[←hR];simp only[replyOf,Int.toNat_natCast];simp_all))
                       |(revert hq;intro hq;obtain rfl:c'=⟨at_,[q0,q1,q2,q3],[m0,m1,m2,m3,m4,m5,m6,m7],rd,out,en⟩:=by(rw[←hR];simp only[replyOf,Int.toNat_natCast];simp_all))
                       |(obtain rfl:c'=⟨at_,[r0,r1,r2,r3],[m0,m1,m2,m3,m4,m5,m6,m7],rd,out,en⟩:=by(rw[←hR];simp only[replyOf,Int.toNat_natCast];simp_all))
                       exact⟨_,rfl,⟨rfl,rfl⟩,hW.row_own 0 rfl,hW.below⟩)))
  first
        |(exfalso;omega)
        |(refine pv hF hW (y_move hF rfl) (fun a hF=>?_)
          refine pq 4 hF rfl fun a hF=>l_nil<|t_n<|c_f hF rfl<|c_sr<|pq 1 hF rfl fun a hF=>pv hF hW (y_loadOwn hF rfl 2 rfl rfl Tryz.underlying3 rfl) fun a hF=>pq 1 hF rfl fun a hF=>?_;refine Fr.splitD hF (fun h7 hF=>?_) (fun h7 hF=>?_)
          ·first
            |(exfalso;omega)
            |(refine pv hF hW (y_assign hF rfl) (fun a hF=>?_)
              refine l_nil<|t_n<|c_t hF rfl<|c_s<|c_sr<|pq 1 hF rfl fun a hF=>l_nil<|t_n<|c_f hF rfl<|wp_skip<|t_n<|c_d mixed_ok hW ((hW.del 3 rfl)) ?_
              clear hW;intro wc hW hS
              refine dq 1 [0] hF hS rfl fun a hF=>dv 1 rfl hF hS (y_loadOwn hF rfl 2 rfl rfl Tryz.underlying3 rfl) fun a hF=>dq 2 [2,4] hF hS rfl fun a hF=>d_1 3 Kr<|d_op rfl rfl<|e_callK hF hW rfl rfl en_148 Rl (truth_any _ _) fun a w1 hW hF=>ai (hW.del 3 rfl) fun hS=>dv 5 rfl hF hS (y_indexA hF rfl rfl Od Tryz.underlying72 sz_3) fun a hF=>d_1 6 Kr<|d_op rfl rfl<|e_store rfl hF hW rfl rfl 3 rfl (by simp<;>omega) rfl sz_3 fun wc hW=>?_
              obtain⟨q4,q5,q6,q7,hq2,hl2⟩:=regs_set _ _ _ _ (bitI false) hf
              replace hW:=hW.cast 3 _ rfl (hl2 _ _ _ _ _ _ _ _ _ _ _ _);refine ai (hW.del 3 rfl) fun hS=>?_;clear hS;refine d_nil Kr ?_;replace hF:=hF.ks [0,1,2,3,4,5,6,10,13,27,31] rfl;refine b_n<|t_n<|c_sr<|pv hF hW (y_loadAll hF rfl 3 rfl Tryz.underlying75 rfl sz_75) fun a hF=>pe<|e_storeAll rfl hF hW rfl rfl 1 rfl rfl rfl Kr sz_75 fun wc hW=>l_nil<|t_n<|wp_ret<|ret1 Tryz.results119 hF (rv_c hF rfl hW 1 rfl Tryz.underlying75 rfl sz_75) ?_
              generalize hR:replyOf _ _ _ _ _=c'
              first
              |(revert hq2;intro hq2;obtain rfl:c'=⟨at_,[q4,q5,q6,q7],[m0,m1,m2,m3,m4,m5,m6,m7],rd,out,en⟩:=by(rw[←hR];simp only[replyOf,Int.toNat_natCast];simp_all))
              |(revert hq;intro hq;obtain rfl:c'=⟨at_,[q0,q1,q2,q3],[m0,m1,m2,m3,m4,m5,m6,m7],rd,out,en⟩:=by(rw[←hR];simp only[replyOf,Int.toNat_natCast];simp_all))
              |(obtain rfl:c'=⟨at_,[r0,r1,r2,r3],[m0,m1,m2,m3,m4,m5,m6,m7],rd,out,en⟩:=by(rw[←hR];simp only[replyOf,Int.toNat_natCast];simp_all))
              exact⟨_,rfl,⟨rfl,rfl⟩,hW.row_own 0 rfl,hW.below⟩)
          ·first
            |(exfalso;omega)
            |(refine pv hF hW (y_assign hF rfl) (fun a hF=>?_)
              refine l_nil<|t_n<|c_f hF rfl<|wp_skip<|b_n<|t_n<|c_sr<|pv hF hW (y_loadAll hF rfl 3 rfl Tryz.underlying75 rfl sz_75) fun a hF=>pe<|e_storeAll rfl hF hW rfl rfl 1 rfl rfl rfl Kr sz_75 fun wc hW=>l_nil<|t_n<|wp_ret<|ret1 Tryz.results119 hF (rv_c hF rfl hW 1 rfl Tryz.underlying75 rfl sz_75) ?_
              generalize hR:replyOf _ _ _ _ _=c'
              first
              |(revert hq2;intro hq2;obtain rfl:c'=⟨at_,[q4,q5,q6,q7],[m0,m1,m2,m3,m4,m5,m6,m7],rd,out,en⟩:=by(rw[←hR];simp only[replyOf,Int.toNat_natCast];simp_all))
              |(revert hq;intro hq;obtain rfl:c'=⟨at_,[q0,q1,q2,q3],[m0,m1,m2,m3,m4,m5,m6,m7],rd,out,en⟩:=by(rw[←hR];simp only[replyOf,Int.toNat_natCast];simp_all))
              |(obtain rfl:c'=⟨at_,[r0,r1,r2,r3],[m0,m1,m2,m3,m4,m5,m6,m7],rd,out,en⟩:=by(rw[←hR];simp only[replyOf,Int.toNat_natCast];simp_all))
              exact⟨_,rfl,⟨rfl,rfl⟩,hW.row_own 0 rfl,hW.below⟩))
 case true=>
  refine enter Tryz.func119 rfl Tryz.ntmps119 rfl fun a hF=>?_
  have hW:=Wd.start w NoB
  refine c_sr<|pe<|e_box hF hW rfl rfl rfl rfl fun b1 a wc hF hW=>pe<|e_box hF hW rfl rfl rfl rfl fun b2 a wc hF hW=>pe<|e_alloc hF hW ze_75 rfl rfl rfl fun b3 a wc hF hW=>lts<|pv hF hW (y_loadAll hF rfl 2 rfl Tryz.underlying75 rfl sz_75) fun a hF=>?_;refine pe (e_callA hF rfl rfl en_145 Rl (hown _ hW.below) ?_);rintro e w1 ⟨A1,c1,rfl,hown1,hb⟩;replace hW:=hW.got_row (v:=.slice A1 out.length c1) (n:=out.length) (cs:=out.map (.int .i64)) hb hown1;refine⟨_,rfl,fun a hF=>?_⟩;replace hF:=Fr.cast (v':=.agg #[.int .i64 at_,.int .i64 r0,.int .i64 r1,.int .i64 r2,.int .i64 r3,.int .i64 m0,.int .i64 m1,.int .i64 m2,.int .i64 m3,.int .i64 m4,.int .i64 m5,.int .i64 m6,.int .i64 m7,.int .i64 rd,.slice A1 out.length c1,.int .i64 en]) rfl hF;refine pe<|e_storeAll rfl hF hW rfl rfl 3 rfl rfl rfl Kr sz_75 fun wc hW=>l_nil<|t_n<|c_s<|wp_block<|c_sr<|pq 1 hF rfl fun a hF=>pv hF hW (y_loadOwn hF rfl 2 rfl rfl Tryz.underlying3 rfl) fun a hF=>pq 1 hF rfl fun a hF=>?_;refine Fr.splitD hF (fun h4 hF=>?_) (fun h4 hF=>?_)
  first
        |(exfalso;omega)
        |(refine pv hF hW (y_move hF rfl) (fun a hF=>?_)
          refine pq 2 hF rfl fun a hF=>?_;refine Fr.splitD hF (fun h5 hF=>?_) (fun h5 hF=>?_)
          ·first
            |(exfalso;omega)
            |(refine pv hF hW (y_pick hF rfl rfl) (fun a hF=>?_)
              refine pq 1 hF rfl fun a hF=>l_nil<|t_n<|c_t hF rfl<|c_d mixed_ok hW ((hW.del 3 rfl)) ?_
              clear hW;intro wc hW hS
              refine dq 1 [0] hF hS rfl fun a hF=>dv 1 rfl hF hS (y_loadOwn hF rfl 2 rfl rfl Tryz.underlying3 rfl) fun a hF=>dq 2 [2,4] hF hS rfl fun a hF=>d_1 3 Kr<|d_op rfl rfl<|e_callK hF hW rfl rfl en_148 Rl (truth_any _ _) fun a w1 hW hF=>ai (hW.del 3 rfl) fun hS=>dv 5 rfl hF hS (y_indexA hF rfl rfl Od Tryz.underlying72 sz_3) fun a hF=>d_1 6 Kr<|d_op rfl rfl<|e_store rfl hF hW rfl rfl 3 rfl (by simp<;>omega) rfl sz_3 fun wc hW=>?_
              obtain⟨q0,q1,q2,q3,hq,hl⟩:=regs_set r0 r1 r2 r3 (bitI true) hr
              replace hW:=hW.cast 3 _ rfl (hl _ _ _ _ _ _ _ _ _ _ _ _);refine ai (hW.del 3 rfl) fun hS=>?_;clear hS;refine d_nil Kr ?_;replace hF:=hF.ks [0,1,2,3,4,5,6,10,13] rfl;refine b_n<|t_n<|c_sr<|pv hF hW (y_loadAll hF rfl 3 rfl Tryz.underlying75 rfl sz_75) fun a hF=>pe<|e_storeAll rfl hF hW rfl rfl 1 rfl rfl rfl Kr sz_75 fun wc hW=>l_nil<|t_n<|wp_ret<|ret1 Tryz.results119 hF (rv_c hF rfl hW 1 rfl Tryz.underlying75 rfl sz_75) ?_
              generalize hR:replyOf _ _ _ _ _=c'
              first
              |(revert hq2;intro hq2;obtain rfl:c'=⟨at_,[q4,q5,q6,q7],[m0,m1,m2,m3,m4,m5,m6,m7],rd,out,en⟩:=by(rw[←hR];simp only[replyOf,Int.toNat_natCast];simp_all))
              |(revert hq;intro hq;obtain rfl:c'=⟨at_,[q0,q1,q2,q3],[m0,m1,m2,m3,m4,m5,m6,m7],rd,out,en⟩:=by(rw[←hR];simp only[replyOf,Int.toNat_natCast];simp_all))
              |(obtain rfl:c'=⟨at_,[r0,r1,r2,r3],[m0,m1,m2,m3,m4,m5,m6,m7],rd,out,en⟩:=by(rw[←hR];simp only[replyOf,Int.toNat_natCast];simp_all))
              exact⟨_,rfl,⟨rfl,rfl⟩,hW.row_own 0 rfl,hW.below⟩)
          ·first
            |(exfalso;omega)
            |(refine pv hF hW (y_pick hF rfl rfl) (fun a hF=>?_)
              refine pq 1 hF rfl fun a hF=>l_nil<|t_n<|c_f hF rfl<|c_sr<|pq 1 hF rfl fun a hF=>pv hF hW (y_loadOwn hF rfl 2 rfl rfl Tryz.underlying3 rfl) fun a hF=>pq 1 hF rfl fun a hF=>?_;refine Fr.splitD hF (fun h6 hF=>?_) (fun h6 hF=>?_)
              ·first
                     |(exfalso;omega)
                     |(refine pv hF hW (y_assign hF rfl) (fun a hF=>?_)
                       refine l_nil<|t_n<|c_t hF rfl<|c_s<|c_sr<|pq 1 hF rfl fun a hF=>l_nil<|t_n<|c_t hF rfl<|c_r<|pq 1 hF rfl fun a hF=>pv hF hW (y_loadOwn hF rfl 2 rfl rfl Tryz.underlying3 rfl) fun a hF=>pq 2 hF rfl fun a hF=>pv hF hW (y_indexA hF rfl rfl Od Tryz.underlying72 sz_3) fun a hF=>pe<|e_store rfl hF hW rfl rfl 3 rfl (by simp<;>omega) rfl sz_3 fun wc hW=>?_
                       obtain⟨q0,q1,q2,q3,hq,hl⟩:=regs_set r0 r1 r2 r3 val hr
                       replace hW:=hW.cast 3 _ rfl (hl _ _ _ _ _ _ _ _ _ _ _ _);refine l_nil ?_;replace hF:=hF.ks [0,1,2,3,4,5,6,10,13,27,31] rfl;refine t_n<|c_d mixed_ok hW ((hW.del 3 rfl)) ?_
                       clear hW;intro wc hW hS
                       refine dq 1 [0] hF hS rfl fun a hF=>dv 1 rfl hF hS (y_loadOwn hF rfl 2 rfl rfl Tryz.underlying3 rfl) fun a hF=>dq 2 [2,4] hF hS rfl fun a hF=>d_1 3 Kr<|d_op rfl rfl<|e_callK hF hW rfl rfl en_148 Rl (truth_any _ _) fun a w1 hW hF=>ai (hW.del 3 rfl) fun hS=>dv 5 rfl hF hS (y_indexA hF rfl rfl Od Tryz.underlying72 sz_3) fun a hF=>d_1 6 Kr<|d_op rfl rfl<|e_store rfl hF hW rfl rfl 3 rfl (by simp<;>omega) rfl sz_3 fun wc hW=>?_
                       obtain⟨q4,q5,q6,q7,hq2,hl2⟩:=regs_set _ _ _ _ (bitI true) hf
                       replace hW:=hW.cast 3 _ rfl (hl2 _ _ _ _ _ _ _ _ _ _ _ _);refine ai (hW.del 3 rfl) fun hS=>?_;clear hS;refine d_nil Kr<|b_n<|t_n<|c_sr<|pv hF hW (y_loadAll hF rfl 3 rfl Tryz.underlying75 rfl sz_75) fun a hF=>pe<|e_storeAll rfl hF hW rfl rfl 1 rfl rfl rfl Kr sz_75 fun wc hW=>l_nil<|t_n<|wp_ret<|ret1 Tryz.results119 hF (rv_c hF rfl hW 1 rfl Tryz.underlying75 rfl sz_75) ?_
                       generalize hR:replyOf _ _ _ _ _=c'
                       first
                       |(revert hq2;intro hq2;obtain rfl:c'=⟨at_,[q4,q5,q6,q7],[m0,m1,m2,m3,m4,m5,m6,m7],rd,out,en⟩:=by(rw[←hR];simp only[replyOf,Int.toNat_natCast];simp_all))
                       |(revert hq;intro hq;obtain rfl:c'=⟨at_,[q0,q1,q2,q3],[m0,m1,m2,m3,m4,m5,m6,m7],rd,out,en⟩:=by(rw[←hR];simp only[replyOf,Int.toNat_natCast];simp_all))
                       |(obtain rfl:c'=⟨at_,[r0,r1,r2,r3],[m0,m1,m2,m3,m4,m5,m6,m7],rd,out,en⟩:=by(rw[←hR];simp only[replyOf,Int.toNat_natCast];simp_all))
                       exact⟨_,rfl,⟨rfl,rfl⟩,hW.row_own 0 rfl,hW.below⟩)
              ·first
                     |(exfalso;omega)
                     |(refine pv hF hW (y_assign hF rfl) (fun a hF=>?_)
                       refine l_nil<|t_n<|c_f hF rfl<|wp_skip<|b_n<|t_n<|c_sr<|pv hF hW (y_loadAll hF rfl 3 rfl Tryz.underlying75 rfl sz_75) fun a hF=>pe<|e_storeAll rfl hF hW rfl rfl 1 rfl rfl rfl Kr sz_75 fun wc hW=>l_nil<|t_n<|wp_ret<|ret1 Tryz.results119 hF (rv_c hF rfl hW 1 rfl Tryz.underlying75 rfl sz_75) ?_
                       generalize hR:replyOf _ _ _ _ _=c'
                       first
                       |(revert hq2;intro hq2;obtain rfl:c'=⟨at_,[q4,q5,q6,q7],[m0,m1,m2,m3,m4,m5,m6,m7],rd,out,en⟩:=by(rw[←hR];simp only[replyOf,Int.toNat_natCast];simp_all))
                       |(revert hq;intro hq;obtain rfl:c'=⟨at_,[q0,q1,q2,q3],[m0,m1,m2,m3,m4,m5,m6,m7],rd,out,en⟩:=by(rw[←hR];simp only[replyOf,Int.toNat_natCast];simp_all))
                       |(obtain rfl:c'=⟨at_,[r0,r1,r2,r3],[m0,m1,m2,m3,m4,m5,m6,m7],rd,out,en⟩:=by(rw[←hR];simp only[replyOf,Int.toNat_natCast];simp_all))
                       exact⟨_,rfl,⟨rfl,rfl⟩,hW.row_own 0 rfl,hW.below⟩)))
  first
        |(exfalso;omega)
        |(refine pv hF hW (y_move hF rfl) (fun a hF=>?_)
          refine pq 4 hF rfl fun a hF=>l_nil<|t_n<|c_f hF rfl<|c_sr<|pq 1 hF rfl fun a hF=>pv hF hW (y_loadOwn hF rfl 2 rfl rfl Tryz.underlying3 rfl) fun a hF=>pq 1 hF rfl fun a hF=>?_;refine Fr.splitD hF (fun h7 hF=>?_) (fun h7 hF=>?_)
          ·first
            |(exfalso;omega)
            |(refine pv hF hW (y_assign hF rfl) (fun a hF=>?_)
              refine l_nil<|t_n<|c_t hF rfl<|c_s<|c_sr<|pq 1 hF rfl fun a hF=>l_nil<|t_n<|c_t hF rfl<|c_r<|pq 1 hF rfl fun a hF=>pv hF hW (y_loadOwn hF rfl 2 rfl rfl Tryz.underlying3 rfl) fun a hF=>pq 2 hF rfl fun a hF=>pv hF hW (y_indexA hF rfl rfl Od Tryz.underlying72 sz_3) fun a hF=>pe<|e_store rfl hF hW rfl rfl 3 rfl (by simp<;>omega) rfl sz_3 fun wc hW=>?_
              obtain⟨q0,q1,q2,q3,hq,hl⟩:=regs_set r0 r1 r2 r3 val hr
              replace hW:=hW.cast 3 _ rfl (hl _ _ _ _ _ _ _ _ _ _ _ _);refine l_nil ?_;replace hF:=hF.ks [0,1,2,3,4,5,6,10,13,27,31] rfl;refine t_n<|c_d mixed_ok hW ((hW.del 3 rfl)) ?_
              clear hW;intro wc hW hS
              refine dq 1 [0] hF hS rfl fun a hF=>dv 1 rfl hF hS (y_loadOwn hF rfl 2 rfl rfl Tryz.underlying3 rfl) fun a hF=>dq 2 [2,4] hF hS rfl fun a hF=>d_1 3 Kr<|d_op rfl rfl<|e_callK hF hW rfl rfl en_148 Rl (truth_any _ _) fun a w1 hW hF=>ai (hW.del 3 rfl) fun hS=>dv 5 rfl hF hS (y_indexA hF rfl rfl Od Tryz.underlying72 sz_3) fun a hF=>d_1 6 Kr<|d_op rfl rfl<|e_store rfl hF hW rfl rfl 3 rfl (by simp<;>omega) rfl sz_3 fun wc hW=>?_
              obtain⟨q4,q5,q6,q7,hq2,hl2⟩:=regs_set _ _ _ _ (bitI true) hf
              replace hW:=hW.cast 3 _ rfl (hl2 _ _ _ _ _ _ _ _ _ _ _ _);refine ai (hW.del 3 rfl) fun hS=>?_;clear hS;refine d_nil Kr<|b_n<|t_n<|c_sr<|pv hF hW (y_loadAll hF rfl 3 rfl Tryz.underlying75 rfl sz_75) fun a hF=>pe<|e_storeAll rfl hF hW rfl rfl 1 rfl rfl rfl Kr sz_75 fun wc hW=>l_nil<|t_n<|wp_ret<|ret1 Tryz.results119 hF (rv_c hF rfl hW 1 rfl Tryz.underlying75 rfl sz_75) ?_
              generalize hR:replyOf _ _ _ _ _=c'
              first
              |(revert hq2;intro hq2;obtain rfl:c'=⟨at_,[q4,q5,q6,q7],[m0,m1,m2,m3,m4,m5,m6,m7],rd,out,en⟩:=by(rw[←hR];simp only[replyOf,Int.toNat_natCast];simp_all))
              |(revert hq;intro hq;obtain rfl:c'=⟨at_,[q0,q1,q2,q3],[m0,m1,m2,m3,m4,m5,m6,m7],rd,out,en⟩:=by(rw[←hR];simp only[replyOf,Int.toNat_natCast];simp_all))
              |(obtain rfl:c'=⟨at_,[r0,r1,r2,r3],[m0,m1,m2,m3,m4,m5,m6,m7],rd,out,en⟩:=by(rw[←hR];simp only[replyOf,Int.toNat_natCast];simp_all))
              exact⟨_,rfl,⟨rfl,rfl⟩,hW.row_own 0 rfl,hW.below⟩)
          ·first
            |(exfalso;omega)
            |(refine pv hF hW (y_assign hF rfl) (fun a hF=>?_)
              refine l_nil<|t_n<|c_f hF rfl<|wp_skip<|b_n<|t_n<|c_sr<|pv hF hW (y_loadAll hF rfl 3 rfl Tryz.underlying75 rfl sz_75) fun a hF=>pe<|e_storeAll rfl hF hW rfl rfl 1 rfl rfl rfl Kr sz_75 fun wc hW=>l_nil<|t_n<|wp_ret<|ret1 Tryz.results119 hF (rv_c hF rfl hW 1 rfl Tryz.underlying75 rfl sz_75) ?_
              generalize hR:replyOf _ _ _ _ _=c'
              first
              |(revert hq2;intro hq2;obtain rfl:c'=⟨at_,[q4,q5,q6,q7],[m0,m1,m2,m3,m4,m5,m6,m7],rd,out,en⟩:=by(rw[←hR];simp only[replyOf,Int.toNat_natCast];simp_all))
              |(revert hq;intro hq;obtain rfl:c'=⟨at_,[q0,q1,q2,q3],[m0,m1,m2,m3,m4,m5,m6,m7],rd,out,en⟩:=by(rw[←hR];simp only[replyOf,Int.toNat_natCast];simp_all))
              |(obtain rfl:c'=⟨at_,[r0,r1,r2,r3],[m0,m1,m2,m3,m4,m5,m6,m7],rd,out,en⟩:=by(rw[←hR];simp only[replyOf,Int.toNat_natCast];simp_all))
              exact⟨_,rfl,⟨rfl,rfl⟩,hW.row_own 0 rfl,hW.below⟩))
end
end Go.Proofs.YtndcjmopebcdgaaGreatDoor
