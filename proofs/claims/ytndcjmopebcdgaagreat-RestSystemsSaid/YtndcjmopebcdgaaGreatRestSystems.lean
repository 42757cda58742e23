/- The law RestSystems answers true for every input. -/
import Derived.Test.YtndcjmopebcdgaaGreatKernSR
import Derived.Test.YtndcjmopebcdgaaGreatKernO
import Derived.Test.YtndcjmopebcdgaaGreatViewB
import Derived.Test.YtndcjmopebcdgaaGreatViewG
import Derived.Test.YtndcjmopebcdgaaGreatViewA
import Derived.Test.YtndcjmopebcdgaaGreatSameSys
import Derived.Test.YtndcjmopebcdgaaGreatEngN
set_option linter.unusedSimpArgs false
set_option linter.unusedVariables false
namespace Go.Proofs.YtndcjmopebcdgaaGreat
open Go.ChangeShapes Go.WideShapes Go.ChangeAt Go.RowKit
theorem bu_RestSystems_42_(w:World):(Instr.build 42 #[]).run Tryz.prog w=.ok (.agg #[(.int .i64 0),(.int .i64 0),(.int .i64 0),(.int .i64 0),(.int .i64 0),(.int .i64 0),(.int .i64 0),(.int .i64 0),(.int .i64 0),(.int .i64 0),(.int .i64 0),(.int .i64 0),(.int .i64 0),(.int .i64 0),(.slice none 0 0),(.int .i64 0)]) w:=by kernel_rfl
theorem bu_RestSystems_51_(w:World):(Instr.build 51 #[]).run Tryz.prog w=.ok (.agg #[(.int .i64 0),(.int .i64 0),(.int .i64 0),(.int .i64 0)]) w:=by kernel_rfl
set_option maxRecDepth 100000
def WD.softC(y:WD):List (Option Addr×Nat):=y.cells.map (fun q=>(q.a,q.c.out.length))++y.lines.map fun q=>(q.a,q.vals.length)
theorem WD.soft_c{y:WD}{k:Nat}(h:k<y.cells.length):((y.cells.getD k CD0).a,(y.cells.getD k CD0).c.out.length)∈y.softC:=List.mem_append_left _ (soft_mem (f:=fun q:CD=>(q.a,q.c.out.length)) h)
theorem WD.soft_l{y:WD}{k:Nat}(h:k<y.lines.length):((y.lines.getD k LD0).a,(y.lines.getD k LD0).vals.length)∈y.softC:=List.mem_append_right _ (soft_mem (f:=fun q:LD=>(q.a,q.vals.length)) h)
theorem WD.softOf{y:WD}{u:World}(h:y.Rest u):∀r,r∈y.softC→SoftAt u r.1 r.2 (fun _=>True):=fun r hr=>by
 rcases List.mem_append.1 hr with h1|h1
 ·obtain⟨q,hq,rfl⟩:=List.mem_map.1 h1
  exact soft_ints (h.1 q hq)
 ·obtain⟨q,hq,rfl⟩:=List.mem_map.1 h1
  exact soft_ints (h.2 q hq)
theorem own_len{u:World}{A:Option Addr}{n c:Nat}{l:List Int}(h:OwnInts u 0 (.slice A n c) l):l.length≤maxLen:=by
 have:=h.ints.len
 omega
theorem WD.lens{y:WD}{u:World}(h:y.Rest u):(∀k,k<y.cells.length→(y.cells.getD k CD0).c.out.length≤maxLen)∧∀k,k<y.lines.length→(y.lines.getD k LD0).vals.length≤maxLen:=
 ⟨fun _ hk=>own_len (h.1 _ (mem_getD CD0 hk)),fun _ hk=>own_len (h.2 _ (mem_getD LD0 hk))⟩
theorem SysD.lens{y:SysD}{u:World}(h:y.OwnP u):∀k,k<y.parts.length→(y.parts.getD k P0).1.code.length≤maxLen∧(y.parts.getD k P0).1.inp.length≤maxLen:=fun k hk=>by
 have h1:=h _ (mem_getD P0 hk)
 have h2:=h1.at_.code.len
 have h3:=h1.at_.inp.len
 omega
def SysD.softP(y:SysD):List (Option Addr×Nat):=y.parts.map (fun q=>(q.2.ca,q.1.code.length*4))++y.parts.map fun q=>(q.2.ia,q.1.inp.length)
theorem SysD.soft_c{y:SysD}{k:Nat}(h:k<y.parts.length):((y.parts.getD k P0).2.ca,(y.parts.getD k P0).1.code.length*4)∈y.softP:=List.mem_append_left _ (soft_mem (f:=fun q:PP=>(q.2.ca,q.1.code.length*4)) h)
theorem SysD.soft_i{y:SysD}{k:Nat}(h:k<y.parts.length):((y.parts.getD k P0).2.ia,(y.parts.getD k P0).1.inp.length)∈y.softP:=List.mem_append_right _ (soft_mem (f:=fun q:PP=>(q.2.ia,q.1.inp.length)) h)
theorem SysD.softOf{y:SysD}{u:World}(h:y.OwnP u):∀r,r∈y.softP→SoftAt u r.1 r.2 (fun _=>True):=fun r hr=>by
 rcases List.mem_append.1 hr with h1|h1
 ·obtain⟨q,hq,rfl⟩:=List.mem_map.1 h1
  obtain⟨T,h2⟩:=(h q hq).1
  exact soft_of_own h2 fun x hx=>by
   obtain⟨i,-,hi⟩:=List.mem_flatMap.1 hx
   simp only[Ins.cells,List.mem_cons,List.not_mem_nil,or_false] at hi
   rcases hi with rfl|rfl|rfl|rfl<;>exact⟨_,rfl⟩
 ·obtain⟨q,hq,rfl⟩:=List.mem_map.1 h1
  exact soft_ints (h q hq).2
theorem VD.softOf{v:VD}{u:World}(h:v.AtO u):∀r,r∈[(v.cell.a,v.cell.c.out.length)]→SoftAt u r.1 r.2 (fun _=>True):=fun r hr=>by
 rw[List.mem_singleton.1 hr]
 exact soft_ints h.2
theorem encC_zero:[Value.int .i64 0,.int .i64 0,.int .i64 0,.int .i64 0,.int .i64 0,.int .i64 0,.int .i64 0,.int .i64 0,.int .i64 0,.int .i64 0,.int .i64 0,.int .i64 0,.int .i64 0,.int .i64 0,.slice none 0 0,.int .i64 0]=encC CD0:=rfl
def Left(y:WD)(n:Nat)(L:List CD):Prop:=L.length=y.cells.length∧∀i,n≤i→L.getD i CD0=y.cells.getD i CD0
theorem Left.set{y:WD}{n:Nat}{L:List CD}(h:Left y n L):Left y (n+1) (L.set n CD0):=⟨by rw[List.length_set];exact h.1,fun i hi=>by
 rw[←h.2 i Om]
 simp only[List.getD,List.getElem?_set_ne (show n≠i by omega)]⟩
theorem purgeOfI{x:SysD}{w:World}(hx:x.At w){p:Int}(h:thereErr x.sys p=0):
  Calls Tryz.prog 15 #[x.val,.int .i64 p] w fun e w'=>∃z:SysD,e=.returned z.val∧z.sys=purgeOr x.sys p∧Below w.heap.size w w'∧OwnRes w w' z.At:=by
 obtain⟨hk,hpp⟩:=there_zero h
 obtain⟨hp0,hp1⟩:=part_len hpp
 obtain⟨p,rfl⟩:=Int.eq_ofNat_of_zero_le hp0
 rw[show purgeOr x.sys p=purged x.sys p from(if_pos h).trans (by rw[Int.toNat_natCast])]
 exact purgeOf_any hx hk Om
set_option maxHeartbeats 8000000 in
theorem restSystems_run(x:SysD)(y:WD)(part:Int)(w:World)(hx:x.At w)(hy:y.At w):
  Calls Tryz.prog 3 #[x.val,y.val,.int .i64 part] w fun e w'=>e=.returned (.bool true)∧Below w.heap.size w w':=by
 have hcR:=fun w1 (hb:Below w.heap.size w w1)=>checkWorld_any (hx.below hb) (hy.below hb)
 by_cases hc:chkWorld x.sys y.wrl=0
 ·obtain⟨hk,hr⟩:=world_right hc
  have hown:=fun w1 (hb:Below w.heap.size w w1)=>ownSystem_any (hx.below hb) hk
  have howw:=fun w1 (hb:Below w.heap.size w w1)=>ownWorld_any (hy.below hb) (hr.small hk)
  have hst:=fun w1 (hb:Below w.heap.size w w1)=>kernStep_any (hx.below hb) (hy.below hb)
  have hpu:=fun w1 (hb:Below w.heap.size w w1)=>viewPurgeO_any (hx.below hb) part
  have hof:=fun w1 (hb:Below w.heap.size w w1)=>viewOfO_any (hx.below hb) (hy.below hb) part
  have hth:=fun w1 (hb:Below w.heap.size w w1)=>thereRR_any (hx.below hb) part
  have hsR:=fun w1 (hb:Below w.heap.size w w1) (h:stepErrW x.sys y.wrl=0)=>kernStepR_any (hx.below hb) (hy.below hb) h
  have hpo:=fun w1 (hb:Below w.heap.size w w1) (h:thereErr x.sys part=0)=>purgeOfI (hx.below hb) h
  have hxa:=fun w1 (hb:Below w.heap.size w w1)=>hx.below hb
  have hya:=fun w1 (hb:Below w.heap.size w w1)=>hy.below hb
  have htk:stepErrW x.sys y.wrl=0↔y.tick<300:=by
   have ht1:y.tick≤300:=hr.t1
   refine⟨fun h=>?_,fun h=>stepErrW_0 hc (by show y.tick≠300;omega)⟩
   by_cases ht:y.tick=300
   ·rw[stepErrW_3 hc ht] at h;cases h
   ·omega
  have hsv:stepErrW x.sys y.wrl=0→stepW x.sys y.wrl=stepOrW x.sys y.wrl:=fun h=>(if_pos h).symm
  rw[hc] at hcR
  rw[viewErr_t hc] at hof
  generalize stepErrW x.sys y.wrl=E at*
  generalize thereErr x.sys part=G at*
  generalize stepOrW x.sys y.wrl=V at*
  generalize purgeOr x.sys part=U at*
  generalize viewOr x.sys y.wrl part=Z at*
  clear hc hr hk
  rw[x.val_eq,y.val_eq] at*
  refine enter Tryz.func3 rfl Tryz.ntmps3 rfl fun a hF=>?_
  have hW:=Wd.start w NoB
  refine c_sr ?_;refine pe (e_box hF hW rfl rfl rfl rfl ?_);intro b1 a wc hF hW;refine pe (e_box hF hW rfl rfl rfl rfl ?_);intro b2 a wc hF hW;refine pv hF hW (y_assign hF rfl) fun a hF=>l_nil<|t_n<|c_s<|c_sr<|pv hF hW (y_loadAll hF rfl 1 rfl Tryz.underlying26 rfl sz_26) fun a hF=>pv hF hW (y_loadAll hF rfl 0 rfl Tryz.underlying30 rfl sz_30) fun a hF=>?_;refine pe (e_call hF rfl rfl en_4 Rl rfl rfl (hcR _ hW.below) ?_);rintro e w1 ⟨rfl,hb⟩;replace hW:=hW.kept hb;clear hb;refine⟨_,rfl,fun a hF=>?_⟩;refine pv hF hW (y_neq hF rfl rfl) fun a hF=>?_;replace hF:=hF.ff;refine l_nil ?_;replace hF:=hF.ks [0,1,2,3,4,6,30] rfl;refine t_n<|c_f hF rfl<|wp_skip<|t_n ?_;refine c_cut (G:=Nat×Nat×SysD×WD) (fun(gq:Nat×Nat×SysD×WD)=>match gq with|⟨b7,b8,ya,yw⟩=>[(7,.pointer (some ⟨b7,0,none⟩)),(8,.pointer (some ⟨b8,0,none⟩))]) (fun(gq:Nat×Nat×SysD×WD)=>match gq with|⟨b7,b8,ya,yw⟩=>[.res ya.At,.res yw.At,.blk b7 26 [.slice ya.pa ya.parts.length ya.pc,.slice ya.ha ya.chans.length ya.hc,.slice ya.sa ya.slots.length ya.sc],.blk b8 30 [.int .i64 yw.tick,.slice yw.ca yw.cells.length yw.cc,.slice yw.la yw.lines.length yw.lc]]) (fun(gq:Nat×Nat×SysD×WD)=>match gq with|⟨b7,b8,ya,yw⟩=>ya.sys=x.sys∧yw.wrl=y.wrl) (hF.ks [0,1,2,3,4,6,30] rfl) hW ?_ ?_
  ·refine c_d mixed_ok hW (hW) ?_
   clear hW;intro wc hW hS
   refine dv 0 rfl hF hS (y_loadAll hF rfl 1 rfl Tryz.underlying26 rfl sz_26) fun a hF=>dv 2 rfl hF hS (y_loadAll hF rfl 0 rfl Tryz.underlying30 rfl sz_30) fun a hF=>?_;refine d_3 1 4 5 Kr ?_ ?_ ?_
   ·refine d_op rfl rfl (e_call hF rfl rfl en_6 Rl rfl rfl (hown _ hW.below) ?_);rintro e w1 ⟨ya,rfl,hya1,hN⟩;replace hW:=hW.comb2 hN;replace hW:=hW.row_res 1 rfl
    replace hW:=hW.res2 (R:=ya.At) fun u h1 h2=>⟨Flat.of_own h2 rfl,h1.1,h1.2.1,h1.2.2⟩
    refine⟨_,rfl,fun a hF=>?_⟩;replace hF:=Fr.cast (v':=.agg #[.slice ya.pa ya.parts.length ya.pc,.slice ya.ha ya.chans.length ya.hc,.slice ya.sa ya.slots.length ya.sc]) rfl hF;replace hS:=(hW.del 0 rfl);refine⟨hS,?_⟩;refine d_3 3 4 5 Kr ?_ ?_ ?_
    ·refine d_op rfl rfl (e_call hF rfl rfl en_7 Rl rfl rfl (howw _ hW.below) ?_);rintro e w1 ⟨yw,rfl,hyw,hN⟩;replace hW:=hW.comb3 hN;replace hW:=hW.own_world;refine⟨_,rfl,fun a hF=>?_⟩;replace hF:=Fr.cast (v':=.agg #[.int .i64 yw.tick,.slice yw.ca yw.cells.length yw.cc,.slice yw.la yw.lines.length yw.lc]) rfl hF;replace hS:=((hW.del 0 rfl).del 0 rfl);refine⟨hS,?_⟩;refine d_2 4 5 Kr ?_ ?_
     ·refine d_op rfl rfl (e_alloc hF hW ze_26 rfl rfl rfl ?_);intro b3 a wc hF hW;replace hS:=(((hW.del 0 rfl).del 0 rfl).del 0 rfl);refine⟨hS,?_⟩;refine d_1 5 Kr ?_;refine d_op rfl rfl (e_alloc hF hW ze_30 rfl rfl rfl ?_);intro b4 a wc hF hW;replace hS:=((((hW.del 0 rfl).del 0 rfl).del 0 rfl).del 0 rfl);refine⟨hS,?_⟩;refine d_1 6 Kr ?_;refine d_op rfl rfl (e_storeAll rfl hF hW rfl rfl 1 rfl rfl rfl Kr sz_26 ?_);intro wc hW;replace hS:=((((hW.del 0 rfl).del 0 rfl).del 0 rfl).del 0 rfl);refine⟨hS,?_⟩;refine d_1 7 Kr ?_;refine d_op rfl rfl (e_storeAll rfl hF hW rfl rfl 0 rfl rfl rfl Kr sz_30 ?_);intro wc hW;replace hS:=((((hW.del 0 rfl).del 0 rfl).del 0 rfl).del 0 rfl);refine⟨hS,?_⟩;clear hS;refine d_nil Kr ?_;replace hF:=hF.ks [0,1,2,3,4,6,7,8,30] rfl;replace hW:=hW.front 5 rfl rfl;replace hW:=hW.front 5 rfl rfl;replace hW:=hW.front 2 rfl rfl;replace hW:=hW.front 3 rfl rfl;replace hW:=hW.front 4 rfl rfl;replace hW:=hW.front 5 rfl rfl;refine t_n ?_;refine⟨(b3,b4,ya,yw),?_,?_,?_⟩
      ·exact Fr.app (Fr.cons hF (t:=7) rfl rfl (Fr.cons hF (t:=8) rfl rfl (Fr.nil hF))) (hF.ks [0,1,2,3,4,6,30] rfl)
      ·exact hW
      ·exact⟨hya1,hyw⟩
     ·refine d_op rfl rfl (e_alloc hF hW ze_30 rfl rfl rfl ?_);intro b5 a wc hF hW;replace hS:=(((hW.del 0 rfl).del 0 rfl).del 0 rfl);refine⟨hS,?_⟩;refine d_1 4 Kr ?_;refine d_op rfl rfl (e_alloc hF hW ze_26 rfl rfl rfl ?_);intro b6 a wc hF hW;replace hS:=((((hW.del 0 rfl).del 0 rfl).del 0 rfl).del 0 rfl);refine⟨hS,?_⟩;refine d_1 6 Kr ?_;refine d_op rfl rfl (e_storeAll rfl hF hW rfl rfl 0 rfl rfl rfl Kr sz_26 ?_);intro wc hW;replace hS:=((((hW.del 0 rfl).del 0 rfl).del 0 rfl).del 0 rfl);refine⟨hS,?_⟩;refine d_1 7 Kr ?_;refine d_op rfl rfl (e_storeAll rfl hF hW rfl rfl 1 rfl rfl rfl Kr sz_30 ?_);intro wc hW;replace hS:=((((hW.del 0 rfl).del 0 rfl).del 0 rfl).del 0 rfl);refine⟨hS,?_⟩;clear hS;refine d_nil Kr ?_;replace hF:=hF.ks [0,1,2,3,4,6,7,8,30] rfl;replace hW:=hW.front 5 rfl rfl;replace hW:=hW.front 5 rfl rfl;replace hW:=hW.front 3 rfl rfl;replace hW:=hW.front 3 rfl rfl;replace hW:=hW.front 4 rfl rfl;replace hW:=hW.front 5 rfl rfl;refine t_n ?_;refine⟨(b6,b5,ya,yw),?_,?_,?_⟩
      ·exact Fr.app (Fr.cons hF (t:=7) rfl rfl (Fr.cons hF (t:=8) rfl rfl (Fr.nil hF))) (hF.ks [0,1,2,3,4,6,30] rfl)
      ·exact hW
      ·exact⟨hya1,hyw⟩
    ·refine d_op rfl rfl (e_alloc hF hW ze_26 rfl rfl rfl ?_);intro b7 a wc hF hW;replace hS:=((hW.del 0 rfl).del 0 rfl);refine⟨hS,?_⟩;refine d_2 3 5 Kr ?_ ?_
     ·refine d_op rfl rfl (e_call hF rfl rfl en_7 Rl rfl rfl (howw _ hW.below) ?_);rintro e w1 ⟨yw,rfl,hyw,hN⟩;replace hW:=hW.comb3 hN;replace hW:=hW.own_world;refine⟨_,rfl,fun a hF=>?_⟩;replace hF:=Fr.cast (v':=.agg #[.int .i64 yw.tick,.slice yw.ca yw.cells.length yw.cc,.slice yw.la yw.lines.length yw.lc]) rfl hF;replace hS:=(((hW.del 0 rfl).del 0 rfl).del 0 rfl);refine⟨hS,?_⟩;refine d_1 5 Kr ?_;refine d_op rfl rfl (e_alloc hF hW ze_30 rfl rfl rfl ?_);intro b8 a wc hF hW;replace hS:=((((hW.del 0 rfl).del 0 rfl).del 0 rfl).del 0 rfl);refine⟨hS,?_⟩;refine d_1 6 Kr ?_;refine d_op rfl rfl (e_storeAll rfl hF hW rfl rfl 2 rfl rfl rfl Kr sz_26 ?_);intro wc hW;replace hS:=((((hW.del 0 rfl).del 0 rfl).del 0 rfl).del 0 rfl);refine⟨hS,?_⟩;refine d_1 7 Kr ?_;refine d_op rfl rfl (e_storeAll rfl hF hW rfl rfl 0 rfl rfl rfl Kr sz_30 ?_);intro wc hW;replace hS:=((((hW.del 0 rfl).del 0 rfl).del 0 rfl).del 0 rfl);refine⟨hS,?_⟩;clear hS;refine d_nil Kr ?_;replace hF:=hF.ks [0,1,2,3,4,6,7,8,30] rfl;replace hW:=hW.front 5 rfl rfl;replace hW:=hW.front 5 rfl rfl;replace hW:=hW.front 2 rfl rfl;replace hW:=hW.front 4 rfl rfl;replace hW:=hW.front 4 rfl rfl;replace hW:=hW.front 5 rfl rfl;refine t_n ?_;refine⟨(b7,b8,ya,yw),?_,?_,?_⟩
      ·exact Fr.app (Fr.cons hF (t:=7) rfl rfl (Fr.cons hF (t:=8) rfl rfl (Fr.nil hF))) (hF.ks [0,1,2,3,4,6,30] rfl)
      ·exact hW
      ·exact⟨hya1,hyw⟩
     ·refine d_op rfl rfl (e_alloc hF hW ze_30 rfl rfl rfl ?_);intro b9 a wc hF hW;replace hS:=(((hW.del 0 rfl).del 0 rfl).del 0 rfl);refine⟨hS,?_⟩;refine d_1 3 Kr ?_;refine d_op rfl rfl (e_call hF rfl rfl en_7 Rl rfl rfl (howw _ hW.below) ?_);rintro e w1 ⟨yw,rfl,hyw,hN⟩;replace hW:=hW.comb3 hN;replace hW:=hW.own_world;refine⟨_,rfl,fun a hF=>?_⟩;replace hF:=Fr.cast (v':=.agg #[.int .i64 yw.tick,.slice yw.ca yw.cells.length yw.cc,.slice yw.la yw.lines.length yw.lc]) rfl hF;replace hS:=((((hW.del 0 rfl).del 0 rfl).del 0 rfl).del 0 rfl);refine⟨hS,?_⟩;refine d_1 6 Kr ?_;refine d_op rfl rfl (e_storeAll rfl hF hW rfl rfl 2 rfl rfl rfl Kr sz_26 ?_);intro wc hW;replace hS:=((((hW.del 0 rfl).del 0 rfl).del 0 rfl).del 0 rfl);refine⟨hS,?_⟩;refine d_1 7 Kr ?_;refine d_op rfl rfl (e_storeAll rfl hF hW rfl rfl 1 rfl rfl rfl Kr sz_30 ?_);intro wc hW;replace hS:=((((hW.del 0 rfl).del 0 rfl).del 0 rfl).del 0 rfl);refine⟨hS,?_⟩;clear hS;refine d_nil Kr ?_;replace hF:=hF.ks [0,1,2,3,4,6,7,8,30] rfl;replace hW:=hW.front 5 rfl rfl;replace hW:=hW.front 5 rfl rfl;replace hW:=hW.front 3 rfl rfl;replace hW:=hW.front 4 rfl rfl;replace hW:=hW.front 4 rfl rfl;replace hW:=hW.front 5 rfl rfl;refine t_n ?_;refine⟨(b7,b9,ya,yw),?_,?_,?_⟩
      ·exact Fr.app (Fr.cons hF (t:=7) rfl rfl (Fr.cons hF (t:=8) rfl rfl (Fr.nil hF))) (hF.ks [0,1,2,3,4,6,30] rfl)
      ·exact hW
      ·exact⟨hya1,hyw⟩
    ·refine d_op rfl rfl (e_alloc hF hW ze_30 rfl rfl rfl ?_);intro b10 a wc hF hW;replace hS:=((hW.del 0 rfl).del 0 rfl);refine⟨hS,?_⟩;refine d_2 3 4 Kr ?_ ?_
     ·refine d_op rfl rfl (e_call hF rfl rfl en_7 Rl rfl rfl (howw _ hW.below) ?_);rintro e w1 ⟨yw,rfl,hyw,hN⟩;replace hW:=hW.comb3 hN;replace hW:=hW.own_world;refine⟨_,rfl,fun a hF=>?_⟩;replace hF:=Fr.cast (v':=.agg #[.int .i64 yw.tick,.slice yw.ca yw.cells.length yw.cc,.slice yw.la yw.lines.length yw.lc]) rfl hF;replace hS:=(((hW.del 0 rfl).del 0 rfl).del 0 rfl);refine⟨hS,?_⟩;refine d_1 4 Kr ?_;refine d_op rfl rfl (e_alloc hF hW ze_26 rfl rfl rfl ?_);intro b11 a wc hF hW;replace hS:=((((hW.del 0 rfl).del 0 rfl).del 0 rfl).del 0 rfl);refine⟨hS,?_⟩;refine d_1 6 Kr ?_;refine d_op rfl rfl (e_storeAll rfl hF hW rfl rfl 0 rfl rfl rfl Kr sz_26 ?_);intro wc hW;replace hS:=((((hW.del 0 rfl).del 0 rfl).del 0 rfl).del 0 rfl);refine⟨hS,?_⟩;refine d_1 7 Kr ?_;refine d_op rfl rfl (e_storeAll rfl hF hW rfl rfl 2 rfl rfl rfl Kr sz_30 ?_);intro wc hW;replace hS:=((((hW.del 0 rfl).del 0 rfl).del 0 rfl).del 0 rfl);refine⟨hS,?_⟩;clear hS;refine d_nil Kr ?_;replace hF:=hF.ks [0,1,2,3,4,6,7,8,30] rfl;replace hW:=hW.front 5 rfl rfl;replace hW:=hW.front 5 rfl rfl;replace hW:=hW.front 4 rfl rfl;replace hW:=hW.front 3 rfl rfl;replace hW:=hW.front 4 rfl rfl;replace hW:=hW.front 5 rfl rfl;refine t_n ?_;refine⟨(b11,b10,ya,yw),?_,?_,?_⟩
      ·exact Fr.app (Fr.cons hF (t:=7) rfl rfl (Fr.cons hF (t:=8) rfl rfl (Fr.nil hF))) (hF.ks [0,1,2,3,4,6,30] rfl)
      ·exact hW
      ·exact⟨hya1,hyw⟩
     ·refine d_op rfl rfl (e_alloc hF hW ze_26 rfl rfl rfl ?_);intro b12 a wc hF hW;replace hS:=(((hW.del 0 rfl).del 0 rfl).del 0 rfl);refine⟨hS,?_⟩;refine d_1 3 Kr ?_;refine d_op rfl rfl (e_call hF rfl rfl en_7 Rl rfl rfl (howw _ hW.below) ?_);rintro e w1 ⟨yw,rfl,hyw,hN⟩;replace hW:=hW.comb3 hN;replace hW:=hW.own_world;refine⟨_,rfl,fun a hF=>?_⟩;replace hF:=Fr.cast (v':=.agg #[.int .i64 yw.tick,.slice yw.ca yw.cells.length yw.cc,.slice yw.la yw.lines.length yw.lc]) rfl hF;replace hS:=((((hW.del 0 rfl).del 0 rfl).del 0 rfl).del 0 rfl);refine⟨hS,?_⟩;refine d_1 6 Kr ?_;refine d_op rfl rfl (e_storeAll rfl hF hW rfl rfl 1 rfl rfl rfl Kr sz_26 ?_);intro wc hW;replace hS:=((((hW.del 0 rfl).del 0 rfl).del 0 rfl).del 0 rfl);refine⟨hS,?_⟩;refine d_1 7 Kr ?_;refine d_op rfl rfl (e_storeAll rfl hF hW rfl rfl 2 rfl rfl rfl Kr sz_30 ?_);intro wc hW;replace hS:=((((hW.del 0 rfl).del 0 rfl).del 0 rfl).del 0 rfl);refine⟨hS,?_⟩;clear hS;refine d_nil Kr ?_;replace hF:=hF.ks [0,1,2,3,4,6,7,8,30] rfl;replace hW:=hW.front 5 rfl rfl;replace hW:=hW.front 5 rfl rfl;replace hW:=hW.front 4 rfl rfl;replace hW:=hW.front 4 rfl rfl;replace hW:=hW.front 4 rfl rfl;replace hW:=hW.front 5 rfl rfl;refine t_n ?_;refine⟨(b12,b10,ya,yw),?_,?_,?_⟩
      ·exact Fr.app (Fr.cons hF (t:=7) rfl rfl (Fr.cons hF (t:=8) rfl rfl (Fr.nil hF))) (hF.ks [0,1,2,3,4,6,30] rfl)
      ·exact hW
      ·exact⟨hya1,hyw⟩
   ·refine d_op rfl rfl (e_alloc hF hW ze_26 rfl rfl rfl ?_);intro b13 a wc hF hW;replace hS:=(hW.del 0 rfl);refine⟨hS,?_⟩;refine d_2 1 5 Kr ?_ ?_
    ·refine d_op rfl rfl (e_call hF rfl rfl en_6 Rl rfl rfl (hown _ hW.below) ?_);rintro e w1 ⟨ya,rfl,hya1,hN⟩;replace hW:=hW.comb2 hN;replace hW:=hW.row_res 1 rfl
     replace hW:=hW.res2 (R:=ya.At) fun u h1 h2=>⟨Flat.of_own h2 rfl,h1.1,h1.2.1,h1.2.2⟩
     refine⟨_,rfl,fun a hF=>?_⟩;replace hF:=Fr.cast (v':=.agg #[.slice ya.pa ya.parts.length ya.pc,.slice ya.ha ya.chans.length ya.hc,.slice ya.sa ya.slots.length ya.sc]) rfl hF;replace hS:=((hW.del 0 rfl).del 0 rfl);refine⟨hS,?_⟩;refine d_2 3 5 Kr ?_ ?_
     ·refine d_op rfl rfl (e_call hF rfl rfl en_7 Rl rfl rfl (howw _ hW.below) ?_);rintro e w1 ⟨yw,rfl,hyw,hN⟩;replace hW:=hW.comb3 hN;replace hW:=hW.own_world;refine⟨_,rfl,fun a hF=>?_⟩;replace hF:=Fr.cast (v':=.agg #[.int .i64 yw.tick,.slice yw.ca yw.cells.length yw.cc,.slice yw.la yw.lines.length yw.lc]) rfl hF;replace hS:=(((hW.del 0 rfl).del 0 rfl).del 0 rfl);refine⟨hS,?_⟩;refine d_1 5 Kr ?_;refine d_op rfl rfl (e_alloc hF hW ze_30 rfl rfl rfl ?_);intro b14 a wc hF hW;replace hS:=((((hW.del 0 rfl).del 0 rfl).del 0 rfl).del 0 rfl);refine⟨hS,?_⟩;refine d_1 6 Kr ?_;refine d_op rfl rfl (e_storeAll rfl hF hW rfl rfl 3 rfl rfl rfl Kr sz_26 ?_);intro wc hW;replace hS:=((((hW.del 0 rfl).del 0 rfl).del 0 rfl).del 0 rfl);refine⟨hS,?_⟩;refine d_1 7 Kr ?_;refine d_op rfl rfl (e_storeAll rfl hF hW rfl rfl 0 rfl rfl rfl Kr sz_30 ?_);intro wc hW;replace hS:=((((hW.del 0 rfl).del 0 rfl).del 0 rfl).del 0 rfl);refine⟨hS,?_⟩;clear hS;refine d_nil Kr ?_;replace hF:=hF.ks [0,1,2,3,4,6,7,8,30] rfl;replace hW:=hW.front 5 rfl rfl;replace hW:=hW.front 5 rfl rfl;replace hW:=hW.front 2 rfl rfl;replace hW:=hW.front 5 rfl rfl;replace hW:=hW.front 4 rfl rfl;replace hW:=hW.front 5 rfl rfl;refine t_n ?_;refine⟨(b13,b14,ya,yw),?_,?_,?_⟩
      ·exact Fr.app (Fr.cons hF (t:=7) rfl rfl (Fr.cons hF (t:=8) rfl rfl (Fr.nil hF))) (hF.ks [0,1,2,3,4,6,30] rfl)
      ·exact hW
      ·exact⟨hya1,hyw⟩
     ·refine d_op rfl rfl (e_alloc hF hW ze_30 rfl rfl rfl ?_);intro b15 a wc hF hW;replace hS:=(((hW.del 0 rfl).del 0 rfl).del 0 rfl);refine⟨hS,?_⟩;refine d_1 3 Kr ?_;refine d_op rfl rfl (e_call hF rfl rfl en_7 Rl rfl rfl (howw _ hW.below) ?_);rintro e w1 ⟨yw,rfl,hyw,hN⟩;replace hW:=hW.comb3 hN;replace hW:=hW.own_world;refine⟨_,rfl,fun a hF=>?_⟩;replace hF:=Fr.cast (v':=.agg #[.int .i64 yw.tick,.slice yw.ca yw.cells.length yw.cc,.slice yw.la yw.lines.length yw.lc]) rfl hF;replace hS:=((((hW.del 0 rfl).del 0 rfl).del 0 rfl).del 0 rfl);refine⟨hS,?_⟩;refine d_1 6 Kr ?_;refine d_op rfl rfl (e_storeAll rfl hF hW rfl rfl 3 rfl rfl rfl Kr sz_26 ?_);intro wc hW;replace hS:=((((hW.del 0 rfl).del 0 rfl).del 0 rfl).del 0 rfl);refine⟨hS,?_⟩;refine d_1 7 Kr ?_;refine d_op rfl rfl (e_storeAll rfl hF hW rfl rfl 1 rfl rfl rfl Kr sz_30 ?_);intro wc hW;replace hS:=((((hW.del 0 rfl).del 0 rfl).del 0 rfl).del 0 rfl);refine⟨hS,?_⟩;clear hS;refine d_nil Kr ?_;replace hF:=hF.ks [0,1,2,3,4,6,7,8,30] rfl;replace hW:=hW.front 5 rfl rfl;replace hW:=hW.front 5 rfl rfl;replace hW:=hW.front 3 rfl rfl;replace hW:=hW.front 5 rfl rfl;replace hW:=hW.front 4 rfl rfl;replace hW:=hW.front 5 rfl rfl;refine t_n ?_;refine⟨(b13,b15,ya,yw),?_,?_,?_⟩
      ·exact Fr.app (Fr.cons hF (t:=7) rfl rfl (Fr.cons hF (t:=8) rfl rfl (Fr.nil hF))) (hF.ks [0,1,2,3,4,6,30] rfl)
      ·exact hW
      ·exact⟨hya1,hyw⟩
    ·refine d_op rfl rfl (e_alloc hF hW ze_30 rfl rfl rfl ?_);intro b16 a wc hF hW;replace hS:=((hW.del 0 rfl).del 0 rfl);refine⟨hS,?_⟩;refine d_1 1 Kr ?_;refine d_op rfl rfl (e_call hF rfl rfl en_6 Rl rfl rfl (hown _ hW.below) ?_);rintro e w1 ⟨ya,rfl,hya1,hN⟩;replace hW:=hW.comb2 hN;replace hW:=hW.row_res 1 rfl
     replace hW:=hW.res2 (R:=ya.At) fun u h1 h2=>⟨Flat.of_own h2 rfl,h1.1,h1.2.1,h1.2.2⟩
     refine⟨_,rfl,fun a hF=>?_⟩;replace hF:=Fr.cast (v':=.agg #[.slice ya.pa ya.parts.length ya.pc,.slice ya.ha ya.chans.length ya.hc,.slice ya.sa ya.slots.length ya.sc]) rfl hF;replace hS:=(((hW.del 0 rfl).del 0 rfl).del 0 rfl);refine⟨hS,?_⟩;refine d_1 3 Kr ?_;refine d_op rfl rfl (e_call hF rfl rfl en_7 Rl rfl rfl (howw _ hW.below) ?_);rintro e w1 ⟨yw,rfl,hyw,hN⟩;replace hW:=hW.comb3 hN;replace hW:=hW.own_world;refine⟨_,rfl,fun a hF=>?_⟩;replace hF:=Fr.cast (v':=.agg #[.int .i64 yw.tick,.slice yw.ca yw.cells.length yw.cc,.slice yw.la yw.lines.length yw.lc]) rfl hF;replace hS:=((((hW.del 0 rfl).del 0 rfl).del 0 rfl).del 0 rfl);refine⟨hS,?_⟩;refine d_1 6 Kr ?_;refine d_op rfl rfl (e_storeAll rfl hF hW rfl rfl 3 rfl rfl rfl Kr sz_26 ?_);intro wc hW;replace hS:=((((hW.del 0 rfl).del 0 rfl).del 0 rfl).del 0 rfl);refine⟨hS,?_⟩;refine d_1 7 Kr ?_;refine d_op rfl rfl (e_storeAll rfl hF hW rfl rfl 2 rfl rfl rfl Kr sz_30 ?_);intro wc hW;replace hS:=((((hW.del 0 rfl).del 0 rfl).del 0 rfl).del 0 rfl);refine⟨hS,?_⟩;clear hS;refine d_nil Kr ?_;replace hF:=hF.ks [0,1,2,3,4,6,7,8,30] rfl;replace hW:=hW.front 5 rfl rfl;replace hW:=hW.front 5 rfl rfl;replace hW:=hW.front 4 rfl rfl;replace hW:=hW.front 5 rfl rfl;replace hW:=hW.front 4 rfl rfl;replace hW:=hW.front 5 rfl rfl;refine t_n ?_;refine⟨(b13,b16,ya,yw),?_,?_,?_⟩
     ·exact Fr.app (Fr.cons hF (t:=7) rfl rfl (Fr.cons hF (t:=8) rfl rfl (Fr.nil hF))) (hF.ks [0,1,2,3,4,6,30] rfl)
     ·exact hW
     ·exact⟨hya1,hyw⟩
   ·refine d_op rfl rfl (e_alloc hF hW ze_30 rfl rfl rfl ?_);intro b17 a wc hF hW;replace hS:=(hW.del 0 rfl);refine⟨hS,?_⟩;refine d_2 1 4 Kr ?_ ?_
    ·refine d_op rfl rfl (e_call hF rfl rfl en_6 Rl rfl rfl (hown _ hW.below) ?_);rintro e w1 ⟨ya,rfl,hya1,hN⟩;replace hW:=hW.comb2 hN;replace hW:=hW.row_res 1 rfl
     replace hW:=hW.res2 (R:=ya.At) fun u h1 h2=>⟨Flat.of_own h2 rfl,h1.1,h1.2.1,h1.2.2⟩
     refine⟨_,rfl,fun a hF=>?_⟩;replace hF:=Fr.cast (v':=.agg #[.slice ya.pa ya.parts.length ya.pc,.slice ya.ha ya.chans.length ya.hc,.slice ya.sa ya.slots.length ya.sc]) rfl hF;replace hS:=((hW.del 0 rfl).del 0 rfl);refine⟨hS,?_⟩;refine d_2 3 4 Kr ?_ ?_
     ·refine d_op rfl rfl (e_call hF rfl rfl en_7 Rl rfl rfl (howw _ hW.below) ?_);rintro e w1 ⟨yw,rfl,hyw,hN⟩;replace hW:=hW.comb3 hN;replace hW:=hW.own_world;refine⟨_,rfl,fun a hF=>?_⟩;replace hF:=Fr.cast (v':=.agg #[.int .i64 yw.tick,.slice yw.ca yw.cells.length yw.cc,.slice yw.la yw.lines.length yw.lc]) rfl hF;replace hS:=(((hW.del 0 rfl).del 0 rfl).del 0 rfl);refine⟨hS,?_⟩;refine d_1 4 Kr ?_;refine d_op rfl rfl (e_alloc hF hW ze_26 rfl rfl rfl ?_);intro b18 a wc hF hW;replace hS:=((((hW.del 0 rfl).del 0 rfl).del 0 rfl).del 0 rfl);refine⟨hS,?_⟩;refine d_1 6 Kr ?_;refine d_op rfl rfl (e_storeAll rfl hF hW rfl rfl 0 rfl rfl rfl Kr sz_26 ?_);intro wc hW;replace hS:=((((hW.del 0 rfl).del 0 rfl).del 0 rfl).del 0 rfl);refine⟨hS,?_⟩;refine d_1 7 Kr ?_;refine d_op rfl rfl (e_storeAll rfl hF hW rfl rfl 3 rfl rfl rfl Kr sz_30 ?_);intro wc hW;replace hS:=((((hW.del 0 rfl).del 0 rfl).del 0 rfl).del 0 rfl);refine⟨hS,?_⟩;clear hS;refine d_nil Kr ?_;replace hF:=hF.ks [0,1,2,3,4,6,7,8,30] rfl;replace hW:=hW.front 5 rfl rfl;replace hW:=hW.front 5 rfl rfl;replace hW:=hW.front 5 rfl rfl;replace hW:=hW.front 3 rfl rfl;replace hW:=hW.front 4 rfl rfl;replace hW:=hW.front 5 rfl rfl;refine t_n ?_;refine⟨(b18,b17,ya,yw),?_,?_,?_⟩
      ·exact Fr.app (Fr.cons hF (t:=7) rfl rfl (Fr.cons hF (t:=8) rfl rfl (Fr.nil hF))) (hF.ks [0,1,2,3,4,6,30] rfl)
      ·exact hW
      ·exact⟨hya1,hyw⟩
     ·refine d_op rfl rfl (e_alloc hF hW ze_26 rfl rfl rfl ?_);intro b19 a wc hF hW;replace hS:=(((hW.del 0 rfl).del 0 rfl).del 0 rfl);refine⟨hS,?_⟩;refine d_1 3 Kr ?_;refine d_op rfl rfl (e_call hF rfl rfl en_7 Rl rfl rfl (howw _ hW.below) ?_);rintro e w1 ⟨yw,rfl,hyw,hN⟩;replace hW:=hW.comb3 hN;replace hW:=hW.own_world;refine⟨_,rfl,fun a hF=>?_⟩;replace hF:=Fr.cast (v':=.agg #[.int .i64 yw.tick,.slice yw.ca yw.cells.length yw.cc,.slice yw.la yw.lines.length yw.lc]) rfl hF;replace hS:=((((hW.del 0 rfl).del 0 rfl).del 0 rfl).del 0 rfl);refine⟨hS,?_⟩;refine d_1 6 Kr ?_;refine d_op rfl rfl (e_storeAll rfl hF hW rfl rfl 1 rfl rfl rfl Kr sz_26 ?_);intro wc hW;replace hS:=((((hW.del 0 rfl).del 0 rfl).del 0 rfl).del 0 rfl);refine⟨hS,?_⟩;refine d_1 7 Kr ?_;refine d_op rfl rfl (e_storeAll rfl hF hW rfl rfl 3 rfl rfl rfl Kr sz_30 ?_);intro wc hW;replace hS:=((((hW.del 0 rfl).del 0 rfl).del 0 rfl).del 0 rfl);refine⟨hS,?_⟩;clear hS;refine d_nil Kr ?_;replace hF:=hF.ks [0,1,2,3,4,6,7,8,30] rfl;replace hW:=hW.front 5 rfl rfl;replace hW:=hW.front 5 rfl rfl;replace hW:=hW.front 5 rfl rfl;replace hW:=hW.front 4 rfl rfl;replace hW:=hW.front 4 rfl rfl;replace hW:=hW.front 5 rfl rfl;refine t_n ?_;refine⟨(b19,b17,ya,yw),?_,?_,?_⟩
      ·exact Fr.app (Fr.cons hF (t:=7) rfl rfl (Fr.cons hF (t:=8) rfl rfl (Fr.nil hF))) (hF.ks [0,1,2,3,4,6,30] rfl)
      ·exact hW
      ·exact⟨hya1,hyw⟩
    ·refine d_op rfl rfl (e_alloc hF hW ze_26 rfl rfl rfl ?_);intro b20 a wc hF hW;replace hS:=((hW.del 0 rfl).del 0 rfl);refine⟨hS,?_⟩;refine d_1 1 Kr ?_;refine d_op rfl rfl (e_call hF rfl rfl en_6 Rl rfl rfl (hown _ hW.below) ?_);rintro e w1 ⟨ya,rfl,hya1,hN⟩;replace hW:=hW.comb2 hN;replace hW:=hW.row_res 1 rfl
     replace hW:=hW.res2 (R:=ya.At) fun u h1 h2=>⟨Flat.of_own h2 rfl,h1.1,h1.2.1,h1.2.2⟩
     refine⟨_,rfl,fun a hF=>?_⟩;replace hF:=Fr.cast (v':=.agg #[.slice ya.pa ya.parts.length ya.pc,.slice ya.ha ya.chans.length ya.hc,.slice ya.sa ya.slots.length ya.sc]) rfl hF;replace hS:=(((hW.del 0 rfl).del 0 rfl).del 0 rfl);refine⟨hS,?_⟩;refine d_1 3 Kr ?_;refine d_op rfl rfl (e_call hF rfl rfl en_7 Rl rfl rfl (howw _ hW.below) ?_);rintro e w1 ⟨yw,rfl,hyw,hN⟩;replace hW:=hW.comb3 hN;replace hW:=hW.own_world;refine⟨_,rfl,fun a hF=>?_⟩;replace hF:=Fr.cast (v':=.agg #[.int .i64 yw.tick,.slice yw.ca yw.cells.length yw.cc,.slice yw.la yw.lines.length yw.lc]) rfl hF;replace hS:=((((hW.del 0 rfl).del 0 rfl).del 0 rfl).del 0 rfl);refine⟨hS,?_⟩;refine d_1 6 Kr ?_;refine d_op rfl rfl (e_storeAll rfl hF hW rfl rfl 2 rfl rfl rfl Kr sz_26 ?_);intro wc hW;replace hS:=((((hW.del 0 rfl).del 0 rfl).del 0 rfl).del 0 rfl);refine⟨hS,?_⟩;refine d_1 7 Kr ?_;refine d_op rfl rfl (e_storeAll rfl hF hW rfl rfl 3 rfl rfl rfl Kr sz_30 ?_);intro wc hW;replace hS:=((((hW.del 0 rfl).del 0 rfl).del 0 rfl).del 0 rfl);refine⟨hS,?_⟩;clear hS;refine d_nil Kr ?_;replace hF:=hF.ks [0,1,2,3,4,6,7,8,30] rfl;replace hW:=hW.front 5 rfl rfl;replace hW:=hW.front 5 rfl rfl;replace hW:=hW.front 5 rfl rfl;replace hW:=hW.front 5 rfl rfl;replace hW:=hW.front 4 rfl rfl;replace hW:=hW.front 5 rfl rfl;refine t_n ?_;refine⟨(b20,b17,ya,yw),?_,?_,?_⟩
     ·exact Fr.app (Fr.cons hF (t:=7) rfl rfl (Fr.cons hF (t:=8) rfl rfl (Fr.nil hF))) (hF.ks [0,1,2,3,4,6,30] rfl)
     ·exact hW
     ·exact⟨hya1,hyw⟩
  ·clear hF hW
   try clear a
   intro gq a wc hC hF hW
   obtain⟨b7,b8,ya,yw⟩:=gq
   dsimp only at hC
   obtain⟨hya1,hyw⟩:=hC
   refine c_sr<|pv hF hW (y_loadAll hF rfl 5 rfl Tryz.underlying26 rfl sz_26) fun a hF=>pv hF hW (y_loadAll hF rfl 4 rfl Tryz.underlying30 rfl sz_30) fun a hF=>?_;refine pe (e_call hF rfl rfl en_8 Rl rfl rfl (hst _ hW.below) ?_);rintro e w1 ⟨y1,rfl,hy1,hN⟩;replace hW:=hW.comb3 hN
   have hm1:=(Flat.of_own (hW.row 0 rfl) rfl:Flat encC 16 _ (.slice y1.ca y1.cells.length y1.cc) y1.cells).len
   have hm2:=(Flat.of_own (hW.row 1 rfl) rfl:Flat encL 1 _ (.slice y1.la y1.lines.length y1.lc) y1.lines).len
   have hm3:=WD.lens (hW.res 2 rfl)
   unfold maxLen at hm1 hm2 hm3
   replace hW:=hW.front 2 rfl rfl
   replace hW:=hW.soften y1.softC fun u h=>WD.softOf h
   refine⟨_,rfl,fun a hF=>?_⟩;replace hF:=Fr.cast (v':=.tuple #[.agg #[.int .i64 y1.tick,.slice y1.ca y1.cells.length y1.cc,.slice y1.la y1.lines.length y1.lc],.int .i64 E]) rfl hF;refine pv hF hW (y_move hF rfl) fun a hF=>pv hF hW (y_extract hF rfl rfl) fun a hF=>pv hF hW (y_extract hF rfl rfl) fun a hF=>?_;refine pe (e_alloc hF hW ze_30 rfl rfl rfl ?_);intro b21 a wc hF hW;refine pe (e_storeAll rfl hF hW rfl rfl 0 rfl rfl rfl Kr sz_30 ?_);intro wc hW;refine pv hF hW (y_assign hF rfl) fun a hF=>l_nil ?_;replace hF:=hF.ks [0,1,2,3,4,6,7,8,9,10,30] rfl;refine t_n<|c_s<|c_sr<|pv hF hW (y_assign hF rfl) fun a hF=>l_nil<|t_n<|wp_block ?_;replace hW:=hW.front 2 rfl rfl;refine c_loop (G:=Nat×List CD) (fun(gq:Nat×List CD)=>match gq with|⟨n,L⟩=>[(11,.int .i64 (n:Int))]) (fun(gq:Nat×List CD)=>match gq with|⟨n,L⟩=>[.row 42 16 (.slice y1.ca y1.cells.length y1.cc) y1.cells.length (L.flatMap encC)]) (fun(gq:Nat×List CD)=>match gq with|⟨n,L⟩=>n≤y1.cells.length∧Left y1 n L) (fun(gq:Nat×List CD)=>match gq with|⟨n,L⟩=>y1.cells.length - n) (0,y1.cells) (hF.ks [0,1,2,3,4,6,7,8,9,10,30] rfl) (Fr.cons hF (t:=11) rfl Rg (Fr.nil hF)) (hW) ?_ ?_
   ·exact⟨by omega,rfl,fun _ _=>rfl⟩
   clear hF hW
   try clear a
   intro gq a wc hC hF hW
   obtain⟨n,L⟩:=gq
   dsimp only at hC
   obtain⟨hnc,hLn⟩:=hC
   refine c_s<|c_sr<|pv hF hW (y_move hF rfl) fun a hF=>pv hF hW (y_fieldOwn hF rfl fa_30_1) fun a hF=>pv hF hW (y_loadOwn hF rfl 1 rfl rfl Tryz.underlying27 rfl) fun a hF=>pv hF hW (y_len hF rfl Tryz.underlying27) fun a hF=>pv hF hW (y_lss hF rfl rfl) fun a hF=>?_;refine Fr.splitD hF ?_ ?_
   ·intro h22 hF;refine l_nil ?_;replace hF:=hF.ks [0,1,2,3,4,6,7,8,9,10,11,30,46] rfl;refine t_n<|c_t hF rfl<|wp_skip<|t_n<|c_s<|wp_block<|c_s<|c_sr<|pv hF hW (y_assign hF rfl) fun a hF=>l_nil<|t_n<|wp_block ?_;refine c_loop (G:=Nat) (fun k:Nat=>[(12,.int .i64 (k:Int))]) (fun k:Nat=>[]) (fun k:Nat=>k≤(L.getD n CD0).c.out.length) (fun k:Nat=>(L.getD n CD0).c.out.length - k) 0 (hF.ks [0,1,2,3,4,6,7,8,9,10,11,30,46] rfl) (Fr.cons hF (t:=12) rfl Rg (Fr.nil hF)) (hW) ?_ ?_
    ·exact Nat.zero_le _
    clear hF hW
    try clear a
    intro k a wc hC hF hW;skip;refine c_s ?_
    have hml:(L.getD n CD0).c.out.length≤2 ^ 63 - 1:=(by rw[hLn.2 n (Nat.le_refl _)];exact hm3.1 n Om)
    have hso:=(show((L.getD n CD0).a,(L.getD n CD0).c.out.length)∈y1.softC by rw[hLn.2 n (Nat.le_refl _)];exact WD.soft_c Om)
    refine c_sr<|pv hF hW (y_move hF rfl) fun a hF=>pv hF hW (y_fieldOwn hF rfl fa_30_1) fun a hF=>pv hF hW (y_loadOwn hF rfl 1 rfl rfl Tryz.underlying27 rfl) fun a hF=>pv hF hW (y_move hF rfl) fun a hF=>pv hF hW (y_indexS hF rfl rfl Od Tryz.underlying27 sz_42 (fun w h=>(Flat.of_own (h.row 0 rfl) hLn.1.symm).rf encC_len CD0)) fun a hF=>pv hF hW (y_fieldRow hF rfl fa_42_4) fun a hF=>pv hF hW (y_loadRow hF rfl (fun w h=>(Flat.of_own (h.row 0 rfl) hLn.1.symm).rf encC_len CD0) Od (encC_out _) Tryz.underlying40 rfl) fun a hF=>pv hF hW (y_len hF rfl Tryz.underlying40) fun a hF=>pv hF hW (y_lss hF rfl rfl) fun a hF=>?_;refine Fr.splitD hF ?_ ?_
    ·intro h23 hF;refine l_nil ?_;replace hF:=hF.ks [0,1,2,3,4,6,7,8,9,10,11,12,30,46,57] rfl;refine t_n<|c_t hF rfl<|wp_skip<|t_n<|c_s<|wp_block<|c_r<|pv hF hW (y_fieldOwn hF rfl fa_30_1) fun a hF=>pv hF hW (y_loadOwn hF rfl 1 rfl rfl Tryz.underlying27 rfl) fun a hF=>pv hF hW (y_move hF rfl) fun a hF=>pv hF hW (y_indexS hF rfl rfl Od Tryz.underlying27 sz_42 (fun w h=>(Flat.of_own (h.row 0 rfl) hLn.1.symm).rf encC_len CD0)) fun a hF=>pv hF hW (y_fieldRow hF rfl fa_42_4) fun a hF=>pv hF hW (y_loadRow hF rfl (fun w h=>(Flat.of_own (h.row 0 rfl) hLn.1.symm).rf encC_len CD0) Od (encC_out _) Tryz.underlying40 rfl) fun a hF=>pv hF hW (y_move hF rfl) fun a hF=>pv hF hW (y_indexSoft hF rfl rfl Od Tryz.underlying40 sz_3 2 rfl (by exact hso) Om) fun a hF=>?_;refine pe (e_storeSoft rfl hF hW rfl rfl 2 rfl (by exact hso) (by show _*1+0<_;omega) sz_3 ?_);intro wc hW;refine l_nil ?_;replace hF:=hF.ks [0,1,2,3,4,6,7,8,9,10,11,12,30,46,57] rfl;refine b_n<|t_n<|c_r<|pv hF hW (y_move hF rfl) fun a hF=>pv hF hW (y_add hF rfl rfl (IntWalk.i64_in _ Om)) fun a hF=>?_;replace hF:=hF.drop 12;refine pv hF hW (y_assign hF rfl) fun a hF=>l_nil ?_;replace hF:=hF.ks [0,1,2,3,4,6,7,8,9,10,11,12,30,46,57] rfl;refine t_n ?_;refine⟨(k+1),?_,?_,?_,?_⟩
     ·omega
     ·first|omega|(dsimp only;omega)
     ·exact Fr.app (Fr.cons hF (t:=12) rfl Rf (Fr.nil hF)) (hF.ks [0,1,2,3,4,6,7,8,9,10,11,30,46] rfl)
     ·exact hW
    ·intro h23 hF;refine l_nil ?_;replace hF:=hF.ks [0,1,2,3,4,6,7,8,9,10,11,12,30,46,57] rfl;refine t_n<|c_f hF rfl<|wp_exit<|t_x<|t_x<|b_h<|t_n<|c_r<|pv hF hW (y_fieldOwn hF rfl fa_30_1) fun a hF=>pv hF hW (y_loadOwn hF rfl 1 rfl rfl Tryz.underlying27 rfl) fun a hF=>pv hF hW (y_move hF rfl) fun a hF=>pv hF hW (y_build hF rfl (fun w=>bu_RestSystems_42_ w)) fun a hF=>pv hF hW (y_indexS hF rfl rfl Od Tryz.underlying27 sz_42 (fun w h=>(Flat.of_own (h.row 0 rfl) hLn.1.symm).rf encC_len CD0)) fun a hF=>?_;refine pe (e_storeRow rfl hF hW rfl rfl 0 rfl ((L.set n CD0).flatMap encC) Om rfl Kr sz_42 (by exact row_set encC_len (by have:=hLn.1;omega) encC_zero) ?_);intro wc hW;refine l_nil ?_;replace hF:=hF.ks [0,1,2,3,4,6,7,8,9,10,11,12,30,46,57] rfl;refine b_n<|t_n<|c_r<|pv hF hW (y_move hF rfl) fun a hF=>pv hF hW (y_add hF rfl rfl (IntWalk.i64_in _ Om)) fun a hF=>?_;replace hF:=hF.drop 11;refine pv hF hW (y_assign hF rfl) fun a hF=>l_nil ?_;replace hF:=hF.ks [0,1,2,3,4,6,7,8,9,10,11,12,30,46,57] rfl;refine t_n ?_;refine⟨(n+1,L.set n CD0),?_,?_,?_,?_⟩
     ·exact⟨by omega,hLn.set⟩
     ·first|omega|(dsimp only;omega)
     ·exact Fr.app (Fr.cons hF (t:=11) rfl Rf (Fr.nil hF)) (hF.ks [0,1,2,3,4,6,7,8,9,10,30] rfl)
     ·exact hW
   ·intro h22 hF;refine l_nil ?_;replace hF:=hF.ks [0,1,2,3,4,6,7,8,9,10,11,30,46] rfl;refine t_n<|c_f hF rfl<|wp_exit<|t_x<|t_x<|b_h<|t_n<|c_s<|c_sr<|pv hF hW (y_assign hF rfl) fun a hF=>l_nil<|t_n<|wp_block ?_;refine c_loop (G:=Nat) (fun n:Nat=>[(13,.int .i64 (n:Int))]) (fun n:Nat=>[]) (fun n:Nat=>n≤y1.lines.length) (fun n:Nat=>y1.lines.length - n) 0 (hF.ks [0,1,2,3,4,6,7,8,9,10,11,30,46] rfl) (Fr.cons hF (t:=13) rfl Rg (Fr.nil hF)) (hW) ?_ ?_
    ·exact Nat.zero_le _
    clear hF hW
    try clear a
    intro n a wc hC hF hW;skip;refine c_s<|c_sr<|pv hF hW (y_move hF rfl) fun a hF=>pv hF hW (y_fieldOwn hF rfl fa_30_2) fun a hF=>pv hF hW (y_loadOwn hF rfl 1 rfl rfl Tryz.underlying28 rfl) fun a hF=>pv hF hW (y_len hF rfl Tryz.underlying28) fun a hF=>pv hF hW (y_lss hF rfl rfl) fun a hF=>?_;refine Fr.splitD hF ?_ ?_
    ·intro h24 hF;refine l_nil ?_;replace hF:=hF.ks [0,1,2,3,4,6,7,8,9,10,11,13,30,46,77] rfl;refine t_n<|c_t hF rfl<|wp_skip<|t_n<|c_s<|wp_block<|c_sr<|pv hF hW (y_assign hF rfl) fun a hF=>l_nil<|t_n<|wp_block ?_;refine c_loop (G:=Nat) (fun k:Nat=>[(14,.int .i64 (k:Int))]) (fun k:Nat=>[]) (fun k:Nat=>k≤(y1.lines.getD n LD0).vals.length) (fun k:Nat=>(y1.lines.getD n LD0).vals.length - k) 0 (hF.ks [0,1,2,3,4,6,7,8,9,10,11,13,30,46,77] rfl) (Fr.cons hF (t:=14) rfl Rg (Fr.nil hF)) (hW) ?_ ?_
     ·exact Nat.zero_le _
     clear hF hW
     try clear a
     intro k a wc hC hF hW;skip;refine c_s ?_
     have hml:=hm3.2 n Om
     refine c_sr<|pv hF hW (y_move hF rfl) fun a hF=>pv hF hW (y_fieldOwn hF rfl fa_30_2) fun a hF=>pv hF hW (y_loadOwn hF rfl 1 rfl rfl Tryz.underlying28 rfl) fun a hF=>pv hF hW (y_move hF rfl) fun a hF=>pv hF hW (y_indexS hF rfl rfl Od Tryz.underlying28 sz_44 (fun w h=>(Flat.of_own (h.row 3 rfl) rfl).rf encL_len LD0)) fun a hF=>pv hF hW (y_fieldRow hF rfl fa_44_0) fun a hF=>pv hF hW (y_loadRow hF rfl (fun w h=>(Flat.of_own (h.row 3 rfl) rfl).rf encL_len LD0) Od rfl Tryz.underlying40 rfl) fun a hF=>pv hF hW (y_len hF rfl Tryz.underlying40) fun a hF=>pv hF hW (y_lss hF rfl rfl) fun a hF=>?_;refine Fr.splitD hF ?_ ?_
     ·intro h25 hF;refine l_nil ?_;replace hF:=hF.ks [0,1,2,3,4,6,7,8,9,10,11,13,14,30,46,77,88] rfl;refine t_n<|c_t hF rfl<|wp_skip<|t_n<|c_s<|wp_block<|c_r<|pv hF hW (y_fieldOwn hF rfl fa_30_2) fun a hF=>pv hF hW (y_loadOwn hF rfl 1 rfl rfl Tryz.underlying28 rfl) fun a hF=>pv hF hW (y_move hF rfl) fun a hF=>pv hF hW (y_indexS hF rfl rfl Od Tryz.underlying28 sz_44 (fun w h=>(Flat.of_own (h.row 3 rfl) rfl).rf encL_len LD0)) fun a hF=>pv hF hW (y_fieldRow hF rfl fa_44_0) fun a hF=>pv hF hW (y_loadRow hF rfl (fun w h=>(Flat.of_own (h.row 3 rfl) rfl).rf encL_len LD0) Od rfl Tryz.underlying40 rfl) fun a hF=>pv hF hW (y_move hF rfl) fun a hF=>pv hF hW (y_indexSoft hF rfl rfl Od Tryz.underlying40 sz_3 2 rfl (by exact WD.soft_l Om) Om) fun a hF=>?_;refine pe (e_storeSoft rfl hF hW rfl rfl 2 rfl (by exact WD.soft_l Om) (by show _*1+0<_;omega) sz_3 ?_);intro wc hW;refine l_nil ?_;replace hF:=hF.ks [0,1,2,3,4,6,7,8,9,10,11,13,14,30,46,77,88] rfl;refine b_n<|t_n<|c_r<|pv hF hW (y_move hF rfl) fun a hF=>pv hF hW (y_add hF rfl rfl (IntWalk.i64_in _ Om)) fun a hF=>?_;replace hF:=hF.drop 14;refine pv hF hW (y_assign hF rfl) fun a hF=>l_nil ?_;replace hF:=hF.ks [0,1,2,3,4,6,7,8,9,10,11,13,14,30,46,77,88] rfl;refine t_n ?_;refine⟨(k+1),?_,?_,?_,?_⟩
      ·omega
      ·first|omega|(dsimp only;omega)
      ·exact Fr.app (Fr.cons hF (t:=14) rfl Rf (Fr.nil hF)) (hF.ks [0,1,2,3,4,6,7,8,9,10,11,13,30,46,77] rfl)
      ·exact hW
     ·intro h25 hF;refine l_nil ?_;replace hF:=hF.ks [0,1,2,3,4,6,7,8,9,10,11,13,14,30,46,77,88] rfl;refine t_n<|c_f hF rfl<|wp_exit<|t_x<|t_x<|b_h<|b_n<|t_n<|c_r<|pv hF hW (y_move hF rfl) fun a hF=>pv hF hW (y_add hF rfl rfl (IntWalk.i64_in _ Om)) fun a hF=>?_;replace hF:=hF.drop 13;refine pv hF hW (y_assign hF rfl) fun a hF=>l_nil ?_;replace hF:=hF.ks [0,1,2,3,4,6,7,8,9,10,11,13,14,30,46,77,88] rfl;refine t_n ?_;refine⟨n+1,?_,?_,?_,?_⟩
      ·omega
      ·first|omega|(dsimp only;omega)
      ·exact Fr.app (Fr.cons hF (t:=13) rfl Rf (Fr.nil hF)) (hF.ks [0,1,2,3,4,6,7,8,9,10,11,30,46] rfl)
      ·exact hW
    ·intro h24 hF;refine l_nil ?_;replace hF:=hF.ks [0,1,2,3,4,6,7,8,9,10,11,13,30,46,77] rfl;refine t_n<|c_f hF rfl<|wp_exit<|t_x<|t_x<|b_h<|t_n<|c_sr<|pv hF hW (y_loadAll hF rfl 9 rfl Tryz.underlying26 rfl sz_26) fun a hF=>pv hF hW (y_move hF rfl) fun a hF=>?_;refine pe (e_call hF rfl rfl en_9 Rl rfl rfl (hpu _ hW.below) ?_);rintro e w1 ⟨yp,rfl,hyp,hN⟩;replace hW:=hW.comb3 hN
     have hm4:=(Flat.of_own (hW.row 0 rfl) rfl:Flat encP 2 _ (.slice yp.pa yp.parts.length yp.pc) yp.parts).len
     have hm5:=SysD.lens (hW.res 1 rfl)
     unfold maxLen at hm4 hm5
     replace hW:=(hW.del 2 rfl).front 1 rfl rfl
     replace hW:=hW.soften yp.softP fun u h=>SysD.softOf h
     refine⟨_,rfl,fun a hF=>?_⟩;replace hF:=Fr.cast (v':=.tuple #[.agg #[.slice yp.pa yp.parts.length yp.pc,.slice yp.ha yp.chans.length yp.hc,.slice yp.sa yp.slots.length yp.sc],.int .i64 G]) rfl hF;refine pv hF hW (y_move hF rfl) fun a hF=>pv hF hW (y_extract hF rfl rfl) fun a hF=>pv hF hW (y_extract hF rfl rfl) fun a hF=>?_;refine pe (e_alloc hF hW ze_26 rfl rfl rfl ?_);intro b26 a wc hF hW;refine pe (e_storeAll rfl hF hW rfl rfl 0 rfl rfl rfl Kr sz_26 ?_);intro wc hW;refine pv hF hW (y_assign hF rfl) fun a hF=>l_nil ?_;replace hF:=hF.ks [0,1,2,3,4,6,7,8,9,10,11,13,15,16,30,46,77] rfl;refine t_n<|c_s<|c_sr<|pv hF hW (y_assign hF rfl) fun a hF=>l_nil<|t_n<|wp_block ?_;refine c_loop (G:=Nat) (fun n:Nat=>[(17,.int .i64 (n:Int))]) (fun n:Nat=>[]) (fun n:Nat=>n≤yp.parts.length) (fun n:Nat=>yp.parts.length - n) 0 (hF.ks [0,1,2,3,4,6,7,8,9,10,11,13,15,16,30,46,77] rfl) (Fr.cons hF (t:=17) rfl Rg (Fr.nil hF)) (hW) ?_ ?_
     ·exact Nat.zero_le _
     clear hF hW
     try clear a
     intro n a wc hC hF hW;skip;refine c_s<|c_sr<|pv hF hW (y_move hF rfl) fun a hF=>pv hF hW (y_fieldOwn hF rfl fa_26_0) fun a hF=>pv hF hW (y_loadOwn hF rfl 0 rfl rfl Tryz.underlying22 rfl) fun a hF=>pv hF hW (y_len hF rfl Tryz.underlying22) fun a hF=>pv hF hW (y_lss hF rfl rfl) fun a hF=>?_;refine Fr.splitD hF ?_ ?_
     ·intro h27 hF;refine l_nil ?_;replace hF:=hF.ks [0,1,2,3,4,6,7,8,9,10,11,13,15,16,17,30,46,77,109] rfl;refine t_n<|c_t hF rfl<|wp_skip<|t_n<|c_s<|wp_block<|c_s<|c_sr<|pv hF hW (y_assign hF rfl) fun a hF=>l_nil<|t_n<|wp_block ?_;refine c_loop (G:=Nat) (fun k:Nat=>[(18,.int .i64 (k:Int))]) (fun k:Nat=>[]) (fun k:Nat=>k≤(yp.parts.getD n P0).1.code.length) (fun k:Nat=>(yp.parts.getD n P0).1.code.length - k) 0 (hF.ks [0,1,2,3,4,6,7,8,9,10,11,13,15,16,17,30,46,77,109] rfl) (Fr.cons hF (t:=18) rfl Rg (Fr.nil hF)) (hW) ?_ ?_
      ·exact Nat.zero_le _
      clear hF hW
      try clear a
      intro k a wc hC hF hW;skip;refine c_s ?_
      have hml:=(hm5 n Om).1
      refine c_sr<|pv hF hW (y_move hF rfl) fun a hF=>pv hF hW (y_fieldOwn hF rfl fa_26_0) fun a hF=>pv hF hW (y_loadOwn hF rfl 0 rfl rfl Tryz.underlying22 rfl) fun a hF=>pv hF hW (y_move hF rfl) fun a hF=>pv hF hW (y_indexS hF rfl rfl Od Tryz.underlying22 sz_49 (fun w h=>(Flat.of_own (h.row 2 rfl) rfl).rf encP_len P0)) fun a hF=>pv hF hW (y_fieldRow hF rfl fa_49_0) fun a hF=>pv hF hW (y_loadRow hF rfl (fun w h=>(Flat.of_own (h.row 2 rfl) rfl).rf encP_len P0) Od rfl Tryz.underlying47 rfl) fun a hF=>pv hF hW (y_len hF rfl Tryz.underlying47) fun a hF=>pv hF hW (y_lss hF rfl rfl) fun a hF=>?_;refine Fr.splitD hF ?_ ?_
      ·intro h28 hF;refine l_nil ?_;replace hF:=hF.ks [0,1,2,3,4,6,7,8,9,10,11,13,15,16,17,18,30,46,77,109,120] rfl;refine t_n<|c_t hF rfl<|wp_skip<|t_n<|c_s<|wp_block<|c_r<|pv hF hW (y_fieldOwn hF rfl fa_26_0) fun a hF=>pv hF hW (y_loadOwn hF rfl 0 rfl rfl Tryz.underlying22 rfl) fun a hF=>pv hF hW (y_move hF rfl) fun a hF=>pv hF hW (y_indexS hF rfl rfl Od Tryz.underlying22 sz_49 (fun w h=>(Flat.of_own (h.row 2 rfl) rfl).rf encP_len P0)) fun a hF=>pv hF hW (y_fieldRow hF rfl fa_49_0) fun a hF=>pv hF hW (y_loadRow hF rfl (fun w h=>(Flat.of_own (h.row 2 rfl) rfl).rf encP_len P0) Od rfl Tryz.underlying47 rfl) fun a hF=>pv hF hW (y_move hF rfl) fun a hF=>pv hF hW (y_build hF rfl (fun w=>bu_RestSystems_51_ w)) fun a hF=>pv hF hW (y_indexSoft hF rfl rfl Od Tryz.underlying47 sz_51 1 rfl (by exact SysD.soft_c Om) Om) fun a hF=>?_;refine pe (e_storeSoftN rfl hF hW rfl rfl 1 rfl (by exact SysD.soft_c Om) Dc (by show _*4+0+4≤_;omega) Si Kr sz_51 ?_);intro wc hW;refine l_nil ?_;replace hF:=hF.ks [0,1,2,3,4,6,7,8,9,10,11,13,15,16,17,18,30,46,77,109,120] rfl;refine b_n<|t_n<|c_r<|pv hF hW (y_move hF rfl) fun a hF=>pv hF hW (y_add hF rfl rfl (IntWalk.i64_in _ Om)) fun a hF=>?_;replace hF:=hF.drop 18;refine pv hF hW (y_assign hF rfl) fun a hF=>l_nil ?_;replace hF:=hF.ks [0,1,2,3,4,6,7,8,9,10,11,13,15,16,17,18,30,46,77,109,120] rfl;refine t_n ?_;refine⟨(k+1),?_,?_,?_,?_⟩
       ·omega
       ·first|omega|(dsimp only;omega)
       ·exact Fr.app (Fr.cons hF (t:=18) rfl Rf (Fr.nil hF)) (hF.ks [0,1,2,3,4,6,7,8,9,10,11,13,15,16,17,30,46,77,109] rfl)
       ·exact hW
      ·intro h28 hF;refine l_nil ?_;replace hF:=hF.ks [0,1,2,3,4,6,7,8,9,10,11,13,15,16,17,18,30,46,77,109,120] rfl;refine t_n<|c_f hF rfl<|wp_exit<|t_x<|t_x<|b_h<|t_n<|c_sr<|pv hF hW (y_assign hF rfl) fun a hF=>l_nil<|t_n<|wp_block ?_;refine c_loop (G:=Nat) (fun k:Nat=>[(19,.int .i64 (k:Int))]) (fun k:Nat=>[]) (fun k:Nat=>k≤(yp.parts.getD n P0).1.inp.length) (fun k:Nat=>(yp.parts.getD n P0).1.inp.length - k) 0 (hF.ks [0,1,2,3,4,6,7,8,9,10,11,13,15,16,17,18,30,46,77,109,120] rfl) (Fr.cons hF (t:=19) rfl Rg (Fr.nil hF)) (hW) ?_ ?_
       ·exact Nat.zero_le _
       clear hF hW
       try clear a
       intro k a wc hC hF hW;skip;refine c_s ?_
       have hml:=(hm5 n Om).2
       refine c_sr<|pv hF hW (y_move hF rfl) fun a hF=>pv hF hW (y_fieldOwn hF rfl fa_26_0) fun a hF=>pv hF hW (y_loadOwn hF rfl 0 rfl rfl Tryz.underlying22 rfl) fun a hF=>pv hF hW (y_move hF rfl) fun a hF=>pv hF hW (y_indexS hF rfl rfl Od Tryz.underlying22 sz_49 (fun w h=>(Flat.of_own (h.row 2 rfl) rfl).rf encP_len P0)) fun a hF=>pv hF hW (y_fieldRow hF rfl fa_49_1) fun a hF=>pv hF hW (y_loadRow hF rfl (fun w h=>(Flat.of_own (h.row 2 rfl) rfl).rf encP_len P0) Od rfl Tryz.underlying40 rfl) fun a hF=>pv hF hW (y_len hF rfl Tryz.underlying40) fun a hF=>pv hF hW (y_lss hF rfl rfl) fun a hF=>?_;refine Fr.splitD hF ?_ ?_
       ·intro h29 hF;refine l_nil ?_;replace hF:=hF.ks [0,1,2,3,4,6,7,8,9,10,11,13,15,16,17,18,19,30,46,77,109,120,140] rfl;refine t_n<|c_t hF rfl<|wp_skip<|t_n<|c_s<|wp_block<|c_r<|pv hF hW (y_fieldOwn hF rfl fa_26_0) fun a hF=>pv hF hW (y_loadOwn hF rfl 0 rfl rfl Tryz.underlying22 rfl) fun a hF=>pv hF hW (y_move hF rfl) fun a hF=>pv hF hW (y_indexS hF rfl rfl Od Tryz.underlying22 sz_49 (fun w h=>(Flat.of_own (h.row 2 rfl) rfl).rf encP_len P0)) fun a hF=>pv hF hW (y_fieldRow hF rfl fa_49_1) fun a hF=>pv hF hW (y_loadRow hF rfl (fun w h=>(Flat.of_own (h.row 2 rfl) rfl).rf encP_len P0) Od rfl Tryz.underlying40 rfl) fun a hF=>pv hF hW (y_move hF rfl) fun a hF=>pv hF hW (y_indexSoft hF rfl rfl Od Tryz.underlying40 sz_3 1 rfl (by exact SysD.soft_i Om) Om) fun a hF=>?_;refine pe (e_storeSoft rfl hF hW rfl rfl 1 rfl (by exact SysD.soft_i Om) (by show _*1+0<_;omega) sz_3 ?_);intro wc hW;refine l_nil ?_;replace hF:=hF.ks [0,1,2,3,4,6,7,8,9,10,11,13,15,16,17,18,19,30,46,77,109,120,140] rfl;refine b_n<|t_n<|c_r<|pv hF hW (y_move hF rfl) fun a hF=>pv hF hW (y_add hF rfl rfl (IntWalk.i64_in _ Om)) fun a hF=>?_;replace hF:=hF.drop 19;refine pv hF hW (y_assign hF rfl) fun a hF=>l_nil ?_;replace hF:=hF.ks [0,1,2,3,4,6,7,8,9,10,11,13,15,16,17,18,19,30,46,77,109,120,140] rfl;refine t_n ?_;refine⟨(k+1),?_,?_,?_,?_⟩
        ·omega
        ·first|omega|(dsimp only;omega)
        ·exact Fr.app (Fr.cons hF (t:=19) rfl Rf (Fr.nil hF)) (hF.ks [0,1,2,3,4,6,7,8,9,10,11,13,15,16,17,18,30,46,77,109,120] rfl)
        ·exact hW
       ·intro h29 hF;refine l_nil ?_;replace hF:=hF.ks [0,1,2,3,4,6,7,8,9,10,11,13,15,16,17,18,19,30,46,77,109,120,140] rfl;refine t_n<|c_f hF rfl<|wp_exit<|t_x<|t_x<|b_h<|b_n<|t_n<|c_r<|pv hF hW (y_move hF rfl) fun a hF=>pv hF hW (y_add hF rfl rfl (IntWalk.i64_in _ Om)) fun a hF=>?_;replace hF:=hF.drop 17;refine pv hF hW (y_assign hF rfl) fun a hF=>l_nil ?_;replace hF:=hF.ks [0,1,2,3,4,6,7,8,9,10,11,13,15,16,17,18,19,30,46,77,109,120,140] rfl;refine t_n ?_;refine⟨n+1,?_,?_,?_,?_⟩
        ·omega
        ·first|omega|(dsimp only;omega)
        ·exact Fr.app (Fr.cons hF (t:=17) rfl Rf (Fr.nil hF)) (hF.ks [0,1,2,3,4,6,7,8,9,10,11,13,15,16,30,46,77] rfl)
        ·exact hW
     ·intro h27 hF;refine l_nil ?_;replace hF:=hF.ks [0,1,2,3,4,6,7,8,9,10,11,13,15,16,17,30,46,77,109] rfl;refine t_n<|c_f hF rfl<|wp_exit<|t_x<|t_x<|b_h<|t_n<|c_sr<|pv hF hW (y_loadAll hF rfl 12 rfl Tryz.underlying26 rfl sz_26) fun a hF=>pv hF hW (y_loadAll hF rfl 11 rfl Tryz.underlying30 rfl sz_30) fun a hF=>pv hF hW (y_move hF rfl) fun a hF=>?_;refine pe (e_call hF rfl rfl en_10 Rl rfl rfl (hof _ hW.below) ?_);rintro e w1 ⟨v,rfl,hv,hb,hr⟩
      obtain⟨⟨⟨at_,regs,mem,rd,out,en⟩,hwf,qa,qk⟩,vl,va,vc⟩:=v
      obtain⟨r0,r1,r2,r3,hregs⟩:=len_four hwf.1
      obtain⟨m0,m1,m2,m3,m4,m5,m6,m7,hmem⟩:=len_eight hwf.2
      dsimp only at hregs hmem
      subst hregs hmem
      have hm6:out.length≤maxLen:=own_len hr.now.2
      unfold maxLen at hm6
      replace hW:=hW.gotR hb hr
      replace hW:=hW.soften [(qa,out.length)] fun u h=>VD.softOf h
      refine⟨_,rfl,fun a hF=>?_⟩;replace hF:=Fr.cast (v':=.tuple #[.agg #[.int .i64 at_,.int .i64 r0,.int .i64 r1,.int .i64 r2,.int .i64 r3,.int .i64 m0,.int .i64 m1,.int .i64 m2,.int .i64 m3,.int .i64 m4,.int .i64 m5,.int .i64 m6,.int .i64 m7,.int .i64 rd,.slice qa out.length qk,.int .i64 en,.slice va vl.length vc],.int .i64 G]) rfl hF;refine pv hF hW (y_move hF rfl) fun a hF=>pv hF hW (y_extract hF rfl rfl) fun a hF=>pv hF hW (y_extract hF rfl rfl) fun a hF=>?_;refine pe (e_alloc hF hW ze_53 rfl rfl rfl ?_);intro b30 a wc hF hW;refine pe (e_storeAll rfl hF hW rfl rfl 0 rfl rfl rfl Kr sz_53 ?_);intro wc hW;refine pv hF hW (y_assign hF rfl) fun a hF=>l_nil ?_;replace hF:=hF.ks [0,1,2,3,4,6,7,8,9,10,11,13,15,16,17,20,21,30,46,77,109] rfl;refine t_n<|c_s<|c_sr<|pv hF hW (y_assign hF rfl) fun a hF=>l_nil<|t_n<|wp_block ?_;refine c_loop (G:=Nat) (fun k:Nat=>[(22,.int .i64 (k:Int))]) (fun k:Nat=>[]) (fun k:Nat=>k≤out.length) (fun k:Nat=>out.length - k) 0 (hF.ks [0,1,2,3,4,6,7,8,9,10,11,13,15,16,17,20,21,30,46,77,109] rfl) (Fr.cons hF (t:=22) rfl Rg (Fr.nil hF)) (hW) ?_ ?_
      ·exact Nat.zero_le _
      clear hF hW
      try clear a
      intro k a wc hC hF hW;skip;refine c_s<|c_sr<|pv hF hW (y_move hF rfl) fun a hF=>pv hF hW (y_fieldOwn hF rfl fa_53_0) fun a hF=>pv hF hW (y_fieldOwn hF rfl fa_42_4) fun a hF=>pv hF hW (y_loadOwn hF rfl 0 rfl rfl Tryz.underlying40 rfl) fun a hF=>pv hF hW (y_len hF rfl Tryz.underlying40) fun a hF=>pv hF hW (y_lss hF rfl rfl) fun a hF=>?_;refine Fr.splitD hF ?_ ?_
      ·intro h31 hF;refine l_nil ?_;replace hF:=hF.ks [0,1,2,3,4,6,7,8,9,10,11,13,15,16,17,20,21,22,30,46,77,109,163] rfl;refine t_n<|c_t hF rfl<|wp_skip<|t_n<|c_s<|wp_block<|c_r<|pv hF hW (y_fieldOwn hF rfl fa_53_0) fun a hF=>pv hF hW (y_fieldOwn hF rfl fa_42_4) fun a hF=>pv hF hW (y_loadOwn hF rfl 0 rfl rfl Tryz.underlying40 rfl) fun a hF=>pv hF hW (y_move hF rfl) fun a hF=>pv hF hW (y_indexSoft hF rfl rfl Od Tryz.underlying40 sz_3 1 rfl (by exact List.mem_singleton.2 rfl) Om) fun a hF=>?_;refine pe (e_storeSoft rfl hF hW rfl rfl 1 rfl (by exact List.mem_singleton.2 rfl) (by show _*1+0<_;omega) sz_3 ?_);intro wc hW;refine l_nil ?_;replace hF:=hF.ks [0,1,2,3,4,6,7,8,9,10,11,13,15,16,17,20,21,22,30,46,77,109,163] rfl;refine b_n<|t_n<|c_r<|pv hF hW (y_move hF rfl) fun a hF=>pv hF hW (y_add hF rfl rfl (IntWalk.i64_in _ Om)) fun a hF=>?_;replace hF:=hF.drop 22;refine pv hF hW (y_assign hF rfl) fun a hF=>l_nil ?_;replace hF:=hF.ks [0,1,2,3,4,6,7,8,9,10,11,13,15,16,17,20,21,22,30,46,77,109,163] rfl;refine t_n ?_;refine⟨(k+1),?_,?_,?_,?_⟩
       ·omega
       ·first|omega|(dsimp only;omega)
       ·exact Fr.app (Fr.cons hF (t:=22) rfl Rf (Fr.nil hF)) (hF.ks [0,1,2,3,4,6,7,8,9,10,11,13,15,16,17,20,21,30,46,77,109] rfl)
       ·exact hW
      ·intro h31 hF;refine l_nil ?_;replace hF:=hF.ks [0,1,2,3,4,6,7,8,9,10,11,13,15,16,17,20,21,22,30,46,77,109,163] rfl;refine t_n<|c_f hF rfl<|wp_exit<|t_x<|t_x<|b_h<|t_n<|c_sr<|pv hF hW (y_loadAll hF rfl 14 rfl Tryz.underlying26 rfl sz_26) fun a hF=>pv hF hW (y_loadAll hF rfl 13 rfl Tryz.underlying30 rfl sz_30) fun a hF=>?_;refine pe (e_call hF rfl rfl en_8 Rl rfl rfl (hst _ hW.below) ?_);rintro e w1 ⟨y2,rfl,hy2,hN⟩;replace hW:=hW.comb3 hN;replace hW:=hW.own_world;refine⟨_,rfl,fun a hF=>?_⟩;replace hF:=Fr.cast (v':=.tuple #[.agg #[.int .i64 y2.tick,.slice y2.ca y2.cells.length y2.cc,.slice y2.la y2.lines.length y2.lc],.int .i64 E]) rfl hF;refine pv hF hW (y_move hF rfl) fun a hF=>pv hF hW (y_extract hF rfl rfl) fun a hF=>pv hF hW (y_extract hF rfl rfl) fun a hF=>?_;refine pe (e_alloc hF hW ze_30 rfl rfl rfl ?_);intro b32 a wc hF hW;refine pe (e_storeAll rfl hF hW rfl rfl 0 rfl rfl rfl Kr sz_30 ?_);intro wc hW;refine pv hF hW (y_assign hF rfl) fun a hF=>l_nil ?_;replace hF:=hF.ks [0,1,2,3,4,6,7,8,9,10,11,13,15,16,17,20,21,22,23,24,30,46,77,109,163] rfl;refine t_n<|c_sr<|pv hF hW (y_loadAll hF rfl 16 rfl Tryz.underlying26 rfl sz_26) fun a hF=>pv hF hW (y_move hF rfl) fun a hF=>?_;refine pe (e_call hF rfl rfl en_9 Rl rfl rfl (hpu _ hW.below) ?_);rintro e w1 ⟨yq,rfl,hyq,hN⟩;replace hW:=hW.gotR hN.below (own_sys hN);refine⟨_,rfl,fun a hF=>?_⟩;replace hF:=Fr.cast (v':=.tuple #[.agg #[.slice yq.pa yq.parts.length yq.pc,.slice yq.ha yq.chans.length yq.hc,.slice yq.sa yq.slots.length yq.sc],.int .i64 G]) rfl hF;refine pv hF hW (y_move hF rfl) fun a hF=>pv hF hW (y_extract hF rfl rfl) fun a hF=>pv hF hW (y_extract hF rfl rfl) fun a hF=>?_;refine pe (e_alloc hF hW ze_26 rfl rfl rfl ?_);intro b33 a wc hF hW;refine pe (e_storeAll rfl hF hW rfl rfl 0 rfl rfl rfl Kr sz_26 ?_);intro wc hW;refine pv hF hW (y_assign hF rfl) fun a hF=>l_nil ?_;replace hF:=hF.ks [0,1,2,3,4,6,7,8,9,10,11,13,15,16,17,20,21,22,23,24,25,26,30,46,77,109,163] rfl;refine t_n<|c_s<|c_sr<|pv hF hW (y_move hF rfl) fun a hF=>pv hF hW (y_move hF rfl) fun a hF=>pv hF hW (y_neq hF rfl rfl) fun a hF=>?_;replace hF:=Fr.cast (v':=.bool false) Si hF;refine pv hF hW (y_move hF rfl) fun a hF=>pvg hF hW (y_move hF rfl) (ws hF rfl rfl) fun a hF=>pvg hF hW (y_move hF rfl) (ws hF rfl rfl) fun a hF=>pvg hF hW (y_neq hF rfl rfl) (ws hF rfl rfl) fun a hF=>?_;replace hF:=Fr.cast (v':=.bool false) Si hF;refine pv hF hW (y_pick hF rfl rfl) fun a hF=>?_
       refine pv hF hW (y_move hF rfl) fun a hF=>pvg hF hW (y_move hF rfl) (ws hF rfl rfl) fun a hF=>pvg hF hW (y_eql hF rfl rfl) (ws hF rfl rfl) fun a hF=>pvg hF hW (y_move hF rfl) (ws hF rfl rfl) fun a hF=>pvg hF hW (y_eql hF rfl rfl) (ws hF rfl rfl) fun a hF=>pvg hF hW (y_neb hF rfl rfl Tryz.underlying4) (ws hF rfl rfl) fun a hF=>?_;replace hF:=Fr.cast (v':=.bool false) Si hF;refine pv hF hW (y_pick hF rfl rfl) fun a hF=>pv hF hW (y_move hF rfl) fun a hF=>pvg hF hW (y_loadAll hF rfl 18 rfl Tryz.underlying26 rfl sz_26) (ws hF rfl rfl) fun a hF=>pvg hF hW (y_loadAll hF rfl 15 rfl Tryz.underlying26 rfl sz_26) (ws hF rfl rfl) fun a hF=>?_;refine pe (e_call hF rfl rfl en_11 Rl rfl rfl (same_true (hxa _ hW.below) (hW.res 13 rfl) hya1.symm) ?_) (ws hF rfl rfl);rintro e w1 ⟨rfl,hb⟩;replace hW:=hW.kept hb;clear hb;refine⟨_,rfl,fun a hF=>?_⟩;refine pvg hF hW (y_not hF rfl) (ws hF rfl rfl) fun a hF=>?_;replace hF:=hF.ff;refine pv hF hW (y_pick hF rfl rfl) fun a hF=>?_;replace hF:=hF.ff;refine pv hF hW (y_move hF rfl) fun a hF=>?_;replace hF:=hF.ff;refine pvg hF hW (y_loadAll hF rfl 17 rfl Tryz.underlying30 rfl sz_30) (ws hF rfl rfl) fun a hF=>pvg hF hW (y_loadAll hF rfl 16 rfl Tryz.underlying30 rfl sz_30) (ws hF rfl rfl) fun a hF=>?_;refine pe (e_call hF rfl rfl en_12 Rl rfl rfl (same_worlds (hya _ hW.below) (hW.res 14 rfl) hyw.symm) ?_) (ws hF rfl rfl);rintro e w1 ⟨rfl,hb⟩;replace hW:=hW.kept hb;clear hb;refine⟨_,rfl,fun a hF=>?_⟩;refine pvg hF hW (y_not hF rfl) (ws hF rfl rfl) fun a hF=>?_;replace hF:=hF.ff;refine pv hF hW (y_pick hF rfl rfl) fun a hF=>?_;replace hF:=hF.ff;refine pv hF hW (y_move hF rfl) fun a hF=>?_;replace hF:=hF.ff;refine pe (e_call hF rfl rfl en_5 Rl rfl rfl (kernBegun_any _) ?_) (ws hF rfl rfl);rintro e w1 ⟨rfl,hb⟩;replace hW:=hW.kept hb;clear hb;refine⟨_,rfl,fun a hF=>?_⟩;refine pvg hF hW (y_not hF rfl) (ws hF rfl rfl) fun a hF=>?_;replace hF:=hF.ff;refine pv hF hW (y_pick hF rfl rfl) fun a hF=>?_;replace hF:=hF.ff;refine l_nil ?_;replace hF:=hF.ks [0,1,2,3,4,6,7,8,9,10,11,13,15,16,17,20,21,22,23,24,25,26,30,46,77,109,163,213] rfl;refine t_n<|c_f hF rfl<|wp_skip<|t_n<|c_s<|c_sr<|pv hF hW (y_move hF rfl) fun a hF=>pv hF hW (y_eql hF rfl rfl) fun a hF=>pv hF hW (y_fieldOwn hF rfl fa_30_0) fun a hF=>pv hF hW (y_loadOwn hF rfl 17 rfl rfl Tryz.underlying3 rfl) fun a hF=>pv hF hW (y_lss hF rfl rfl) fun a hF=>pv hF hW (y_neb hF rfl rfl Tryz.underlying4) fun a hF=>?_;replace hF:=Fr.cast (v':=.bool false) (by rw[show decide (E=0)=decide (y.tick<300) from decide_eq_decide.2 htk];simp) hF
       refine pv hF hW (y_move hF rfl) fun a hF=>pvg hF hW (y_move hF rfl) (ws hF rfl rfl) fun a hF=>pvg hF hW (y_eql hF rfl rfl) (ws hF rfl rfl) fun a hF=>pvg hF hW (y_loadAll hF rfl 18 rfl Tryz.underlying26 rfl sz_26) (ws hF rfl rfl) fun a hF=>pvg hF hW (y_move hF rfl) (ws hF rfl rfl) fun a hF=>?_;refine pe (e_call hF rfl rfl en_13 Rl rfl rfl (hth _ hW.below) ?_) (ws hF rfl rfl);rintro e w1 ⟨rfl,hb⟩;replace hW:=hW.kept hb;clear hb;refine⟨_,rfl,fun a hF=>?_⟩;refine pvg hF hW (y_eql hF rfl rfl) (ws hF rfl rfl) fun a hF=>pvg hF hW (y_neb hF rfl rfl Tryz.underlying4) (ws hF rfl rfl) fun a hF=>?_;replace hF:=Fr.cast (v':=.bool false) Si hF;refine pv hF hW (y_pick hF rfl rfl) fun a hF=>l_nil ?_;replace hF:=hF.ks [0,1,2,3,4,6,7,8,9,10,11,13,15,16,17,20,21,22,23,24,25,26,30,46,77,109,163,213,228] rfl;refine t_n<|c_f hF rfl<|wp_skip<|t_n<|c_sd mixed_ok hW (hW) ?_
       clear hW;intro wc hW hS
       refine dv 0 rfl hF hS (y_move hF rfl) fun a hF=>dv 1 rfl hF hS (y_neq hF rfl rfl) fun a hF=>?_;refine Fr.splitD hF ?_ ?_
       ·intro h34 hF;refine dv 2 rfl hF hS (y_move hF rfl) fun a hF=>dk 3 rfl hF (wn hF rfl rfl rfl) hS fun a hF=>dk 4 rfl hF (wn hF rfl rfl rfl) hS fun a hF=>dk 5 rfl hF (wn hF rfl rfl rfl) hS fun a hF=>dk 6 rfl hF (wn hF rfl rfl rfl) hS fun a hF=>dk 7 rfl hF (wn hF rfl rfl rfl) hS fun a hF=>dv 8 rfl hF hS (y_pick hF rfl rfl) fun a hF=>dv 9 rfl hF hS (y_move hF rfl) fun a hF=>dvg 10 rfl hF hS (y_move hF rfl) (ws hF rfl rfl) fun a hF=>dvg 11 rfl hF hS (y_neq hF rfl rfl) (ws hF rfl rfl) fun a hF=>?_;refine Fr.splitD hF ?_ ?_
        ·intro h35 hF;refine dvg 12 rfl hF hS (y_move hF rfl) (ws hF rfl rfl) fun a hF=>dk 13 rfl hF (wn hF rfl rfl rfl) hS fun a hF=>dk 14 rfl hF (wn hF rfl rfl rfl) hS fun a hF=>dk 15 rfl hF (wn hF rfl rfl rfl) hS fun a hF=>dk 16 rfl hF (wn hF rfl rfl rfl) hS fun a hF=>dk 17 rfl hF (wn hF rfl rfl rfl) hS fun a hF=>dvg 18 rfl hF hS (y_pick hF rfl rfl) (ws hF rfl rfl) fun a hF=>dv 19 rfl hF hS (y_pick hF rfl rfl) fun a hF=>?_;replace hF:=hF.drop 6;refine dv 20 rfl hF hS (y_assign hF rfl) fun a hF=>?_;clear hS;refine d_nil Kr ?_;replace hF:=hF.ks [0,1,2,3,4,6,7,8,9,10,11,13,15,16,17,20,21,22,23,24,25,26,30,46,77,109,163,213,228] rfl;refine t_n<|wp_ret<|ret1 Tryz.results3 hF (rv_t hF rfl) ?_
         exact⟨rfl,hW.below⟩
        ·intro h35 hF;refine dvg 12 rfl hF hS (y_move hF rfl) (ws hF rfl rfl) fun a hF=>dvg 13 rfl hF hS (y_loadAll hF rfl 0 rfl Tryz.underlying26 rfl sz_26) (ws hF rfl rfl) fun a hF=>dvg 14 rfl hF hS (y_loadAll hF rfl 18 rfl Tryz.underlying26 rfl sz_26) (ws hF rfl rfl) fun a hF=>dvg 15 rfl hF hS (y_move hF rfl) (ws hF rfl rfl) fun a hF=>d_1 16 Kr ?_;refine d_op rfl (ws hF rfl rfl) (e_call hF rfl rfl en_15 Rl rfl rfl (hpo _ hW.below Om) ?_);rintro e w1 ⟨yd,rfl,hyd,hb,hr⟩;replace hW:=hW.gotR hb hr;refine⟨_,rfl,fun a hF=>?_⟩;replace hF:=Fr.cast (v':=.agg #[.slice yd.pa yd.parts.length yd.pc,.slice yd.ha yd.chans.length yd.hc,.slice yd.sa yd.slots.length yd.sc]) rfl hF;replace hS:=(hW.del 0 rfl);refine⟨hS,?_⟩;refine d_1 17 Kr ?_;refine d_op rfl (ws hF rfl rfl) (e_call hF rfl rfl en_11 Rl rfl rfl (same_true (hW.res 2 rfl) (hW.res 0 rfl) (hyq.trans hyd.symm)) ?_);rintro e w1 ⟨rfl,hb⟩;replace hW:=hW.kept hb;clear hb;refine⟨_,rfl,fun a hF=>?_⟩;replace hS:=(hW.del 0 rfl);refine⟨hS,?_⟩;refine dvg 18 rfl hF hS (y_pick hF rfl rfl) (ws hF rfl rfl) fun a hF=>dv 19 rfl hF hS (y_pick hF rfl rfl) fun a hF=>?_;replace hF:=hF.drop 6;refine dv 20 rfl hF hS (y_assign hF rfl) fun a hF=>?_;clear hS;refine d_nil Kr ?_;replace hF:=hF.ks [0,1,2,3,4,6,7,8,9,10,11,13,15,16,17,20,21,22,23,24,25,26,30,46,77,109,163,213,228] rfl;refine t_n<|wp_ret<|ret1 Tryz.results3 hF (rv_t hF rfl) ?_
         exact⟨rfl,hW.below⟩
       ·intro h34 hF;refine dv 2 rfl hF hS (y_move hF rfl) fun a hF=>dvg 3 rfl hF hS (y_loadAll hF rfl 2 rfl Tryz.underlying30 rfl sz_30) (ws hF rfl rfl) fun a hF=>dvg 4 rfl hF hS (y_loadAll hF rfl 18 rfl Tryz.underlying26 rfl sz_26) (ws hF rfl rfl) fun a hF=>dvg 5 rfl hF hS (y_loadAll hF rfl 17 rfl Tryz.underlying30 rfl sz_30) (ws hF rfl rfl) fun a hF=>d_1 6 Kr ?_;refine d_op rfl (ws hF rfl rfl) (e_call hF rfl rfl en_14 Rl rfl rfl (hsR _ hW.below Om) ?_);rintro e w1 ⟨y3,rfl,hy3,hN⟩;replace hW:=hW.comb3 hN;replace hW:=hW.own_world;refine⟨_,rfl,fun a hF=>?_⟩;replace hF:=Fr.cast (v':=.agg #[.int .i64 y3.tick,.slice y3.ca y3.cells.length y3.cc,.slice y3.la y3.lines.length y3.lc]) rfl hF;replace hS:=(hW.del 0 rfl);refine⟨hS,?_⟩;refine d_1 7 Kr ?_;refine d_op rfl (ws hF rfl rfl) (e_call hF rfl rfl en_12 Rl rfl rfl (same_worlds (hW.res 4 rfl) (hW.res 0 rfl) (hy2.trans ((hsv Om).symm.trans hy3.symm))) ?_);rintro e w1 ⟨rfl,hb⟩;replace hW:=hW.kept hb;clear hb;refine⟨_,rfl,fun a hF=>?_⟩;replace hS:=(hW.del 0 rfl);refine⟨hS,?_⟩;refine dv 8 rfl hF hS (y_pick hF rfl rfl) fun a hF=>dv 9 rfl hF hS (y_move hF rfl) fun a hF=>dvg 10 rfl hF hS (y_move hF rfl) (ws hF rfl rfl) fun a hF=>dvg 11 rfl hF hS (y_neq hF rfl rfl) (ws hF rfl rfl) fun a hF=>?_;refine Fr.splitD hF ?_ ?_
        ·intro h36 hF;refine dvg 12 rfl hF hS (y_move hF rfl) (ws hF rfl rfl) fun a hF=>dk 13 rfl hF (wn hF rfl rfl rfl) hS fun a hF=>dk 14 rfl hF (wn hF rfl rfl rfl) hS fun a hF=>dk 15 rfl hF (wn hF rfl rfl rfl) hS fun a hF=>dk 16 rfl hF (wn hF rfl rfl rfl) hS fun a hF=>dk 17 rfl hF (wn hF rfl rfl rfl) hS fun a hF=>dvg 18 rfl hF hS (y_pick hF rfl rfl) (ws hF rfl rfl) fun a hF=>dv 19 rfl hF hS (y_pick hF rfl rfl) fun a hF=>?_;replace hF:=hF.drop 6;refine dv 20 rfl hF hS (y_assign hF rfl) fun a hF=>?_;clear hS;refine d_nil Kr ?_;replace hF:=hF.ks [0,1,2,3,4,6,7,8,9,10,11,13,15,16,17,20,21,22,23,24,25,26,30,46,77,109,163,213,228] rfl;refine t_n<|wp_ret<|ret1 Tryz.results3 hF (rv_t hF rfl) ?_
         exact⟨rfl,hW.below⟩
        ·intro h36 hF;refine dvg 12 rfl hF hS (y_move hF rfl) (ws hF rfl rfl) fun a hF=>dvg 13 rfl hF hS (y_loadAll hF rfl 0 rfl Tryz.underlying26 rfl sz_26) (ws hF rfl rfl) fun a hF=>dvg 14 rfl hF hS (y_loadAll hF rfl 18 rfl Tryz.underlying26 rfl sz_26) (ws hF rfl rfl) fun a hF=>dvg 15 rfl hF hS (y_move hF rfl) (ws hF rfl rfl) fun a hF=>d_1 16 Kr ?_;refine d_op rfl (ws hF rfl rfl) (e_call hF rfl rfl en_15 Rl rfl rfl (hpo _ hW.below Om) ?_);rintro e w1 ⟨yd,rfl,hyd,hb,hr⟩;replace hW:=hW.gotR hb hr;refine⟨_,rfl,fun a hF=>?_⟩;replace hF:=Fr.cast (v':=.agg #[.slice yd.pa yd.parts.length yd.pc,.slice yd.ha yd.chans.length yd.hc,.slice yd.sa yd.slots.length yd.sc]) rfl hF;replace hS:=((hW.del 0 rfl).del 0 rfl);refine⟨hS,?_⟩;refine d_1 17 Kr ?_;refine d_op rfl (ws hF rfl rfl) (e_call hF rfl rfl en_11 Rl rfl rfl (same_true (hW.res 3 rfl) (hW.res 0 rfl) (hyq.trans hyd.symm)) ?_);rintro e w1 ⟨rfl,hb⟩;replace hW:=hW.kept hb;clear hb;refine⟨_,rfl,fun a hF=>?_⟩;replace hS:=((hW.del 0 rfl).del 0 rfl);refine⟨hS,?_⟩;refine dvg 18 rfl hF hS (y_pick hF rfl rfl) (ws hF rfl rfl) fun a hF=>dv 19 rfl hF hS (y_pick hF rfl rfl) fun a hF=>?_;replace hF:=hF.drop 6;refine dv 20 rfl hF hS (y_assign hF rfl) fun a hF=>?_;clear hS;refine d_nil Kr ?_;replace hF:=hF.ks [0,1,2,3,4,6,7,8,9,10,11,13,15,16,17,20,21,22,23,24,25,26,30,46,77,109,163,213,228] rfl;refine t_n<|wp_ret<|ret1 Tryz.results3 hF (rv_t hF rfl) ?_
         exact⟨rfl,hW.below⟩
 ·generalize chkWorld x.sys y.wrl=C at*
  rw[x.val_eq,y.val_eq] at*
  refine enter Tryz.func3 rfl Tryz.ntmps3 rfl fun a hF=>?_
  have hW:=Wd.start w NoB
  refine c_sr ?_;refine pe (e_box hF hW rfl rfl rfl rfl ?_);intro b1 a wc hF hW;refine pe (e_box hF hW rfl rfl rfl rfl ?_);intro b2 a wc hF hW;refine pv hF hW (y_assign hF rfl) fun a hF=>l_nil<|t_n<|c_s<|c_sr<|pv hF hW (y_loadAll hF rfl 1 rfl Tryz.underlying26 rfl sz_26) fun a hF=>pv hF hW (y_loadAll hF rfl 0 rfl Tryz.underlying30 rfl sz_30) fun a hF=>?_;refine pe (e_call hF rfl rfl en_4 Rl rfl rfl (hcR _ hW.below) ?_);rintro e w1 ⟨rfl,hb⟩;replace hW:=hW.kept hb;clear hb;refine⟨_,rfl,fun a hF=>?_⟩;refine pv hF hW (y_neq hF rfl rfl) fun a hF=>?_;refine Fr.splitD hF ?_ ?_
  ·intro h3 hF;refine l_nil ?_;replace hF:=hF.ks [0,1,2,3,4,6,30] rfl;refine t_n<|c_t hF rfl<|c_sr ?_;refine pe (e_call hF rfl rfl en_5 Rl rfl rfl (kernBegun_any _) ?_);rintro e w1 ⟨rfl,hb⟩;replace hW:=hW.kept hb;clear hb;refine⟨_,rfl,fun a hF=>?_⟩;replace hF:=hF.drop 6;refine pv hF hW (y_assign hF rfl) fun a hF=>l_nil ?_;replace hF:=hF.ks [0,1,2,3,4,6,30] rfl;refine t_n<|wp_ret<|t_r<|ret1 Tryz.results3 hF (rv_t hF rfl) ?_
   exact⟨rfl,hW.below⟩
  ·intro h3 hF;exfalso
   omega
set_option maxRecDepth 100000 in
theorem restSystems_contract(H:Type)(enc:TypeId×Value→H)(W:World)(base:Nat)(args:Array Value)(ds gs:List (DataW H))(before:List MemPlace)
  (hval:∀(j:Nat) t v,Tryz.f3.params[j]?=some t→args[j]?=some v→Value.okWide Tryz.prog W .any base t v)
  (hW:DataW.Whole enc Tryz.prog Tryz.f3.params.toList Rows.restSystemsSpec.vars false W args.toList ds gs before):
  Calls Tryz.prog 3 args W fun e W'=>∃v,e=.returned v∧Rows.restSystemsSpec.post enc Tryz.prog Tryz.f3 false true false false W args v W':=by
 have hW':=hW
 obtain⟨p,q,hA0,hV,rfl,hfz,hnd⟩:=hW
 have hA:DataW.TrodAll enc Tryz.prog W 0 (fun _=>true) true Tryz.f3.params.toList args.toList ds p:=hA0
 rw[Tryz.params3] at hA hval
 obtain⟨v0,v1,v2,d0,d1,d2,p0,p1,p2,rfl,rfl,rfl,h0,h1,h2⟩:=trodAll_three hA
 obtain⟨x,rfl,hx⟩:=sys_open (hval 0 26 v0 rfl rfl) h0
 obtain⟨y,rfl,hy⟩:=wrl_open (hval 1 30 v1 rfl rfl) h1
 obtain⟨part,rfl,rfl,rfl,wk2⟩:=open_int Tryz.underlying3 (hval 2 3 v2 rfl rfl) h2
 refine(restSystems_run x y part W hx hy).mono fun e W' ⟨he,hb⟩=>?_
 subst he
 exact⟨_,rfl,law_post Tryz.laidOut hW' hb rfl Kr Tryz.underlying4 Kr rfl⟩
set_option maxRecDepth 100000 in
theorem restSystems_lifted(os:Os)(started:os.Started)(H:Type)(enc:TypeId×Value→H):
  ReturnsInHanded {} Tryz.checked os 3 .any (Rows.restSystemsSpec.pre6 enc Tryz.prog Tryz.f3 Rows.restSystemsRow.domain false) (Rows.restSystemsSpec.post enc Tryz.prog Tryz.f3 false true false false):=by
 refine returnsInHanded_of_change (C:=Tryz.checked) Tryz.own started Kr Tryz.func3
  (ChangeSpec.witness6 (enc:=enc) (C:=Tryz.checked) false ⟨#[],#[.agg #[.slice none 0 0,.slice none 0 0,.slice none 0 0],.agg #[.int .i64 0,.slice none 0 0,.slice none 0 0],.int .i64 0],[]⟩ 8 Kr Kr Kr Kr) ?_
 intro W base args ds gs before hval hW _ _
 exact restSystems_contract H enc W base args ds gs before hval hW
theorem restSystems_holds:Rows.RestSystemsSaid:=
 OpenClaim.holds_of_wide 3 Tryz.f3 rfl rfl rfl rfl rfl rfl rfl ⟨rfl,rfl,rfl,rfl,rfl⟩ rfl rfl rfl rfl rfl Kr Tryz.func3 Kr
  (of_decide_eq_true Kr) (by unfold Func.isWrapper;first|(rw[if_pos (by decide+kernel)];kernel_rfl)|(rw[if_neg (by decide+kernel)];exact⟨rfl,rfl⟩))
  (fun os started H enc _=>restSystems_lifted os started H enc)
end Go.Proofs.YtndcjmopebcdgaaGreat
