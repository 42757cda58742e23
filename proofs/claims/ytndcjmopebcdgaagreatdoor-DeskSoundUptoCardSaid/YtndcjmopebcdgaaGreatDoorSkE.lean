/- Rows of ints that are the same. flow.Path where the partitions are there, and where not. The engine, part seven: functions that range over a function. No program is named. The reference's SameCode and SameSystems. -/
import Derived.Test.YtndcjmopebcdgaaGreatDoorSysB
import Derived.Test.YtndcjmopebcdgaaGreatDoorFlowD
import Derived.RangeFuncNested
import Derived.RangeFuncBound
import Derived.RangeFuncCalls
import Derived.RangeFuncLeaves
import Derived.Test.YtndcjmopebcdgaaGreatDoorEng
import Derived.Test.YtndcjmopebcdgaaGreatDoorSysRef
set_option linter.unusedSimpArgs false
set_option linter.unusedVariables false
namespace Go.Proofs.YtndcjmopebcdgaaGreatDoor
section
open Go.ChangeShapes Go.WideShapes Go.ChangeAt Go.RowKit
set_option maxRecDepth 100000
end
section
open Go.ChangeShapes Go.WideShapes Go.ChangeAt Go.RowKit
set_option maxRecDepth 100000
theorem path_yes{x:SysD}{w:World}(hx:x.At w){f t:Nat}(hE:pathErr x.sys f t=0):Calls Tryz.prog 42 #[x.val,.int .i64 f,.int .i64 t] w fun e w'=>∃(L:List Int) (A:Option Addr) (c:Nat),e=.returned (.tuple #[.slice A L.length c,.bool (pathOf x.chans x.parts.length f t).isSome,.int .i64 0])∧L=((pathOf x.chans x.parts.length f t).getD []).map Int.ofNat∧Below w.heap.size w w'∧OwnRes w w' (fun u=>Ints u (.slice A L.length c) L):=by
 refine(flowPath_any hx f t).mono ?_
 rintro e w' ⟨L,A,c,rfl,hL,hb,hr⟩
 have hpo:pathOr x.sys f t=pathOf x.chans x.parts.length f t:=(if_pos hE).trans (by rw[sys_parts_len];rfl)
 rw[hpo] at hL
 rw[hpo,hE]
 exact⟨L,A,c,rfl,hL,hb,hr⟩
end
section
open Go.ChangeShapes Go.WideShapes Go.ChangeAt Go.RowKit
def bodyPostD(P:Program)(fn:Func)(R:Ending→World→Prop):Exit→Act→World→Prop
 | .normal,a,w| .ret,a,w=>LeavesInM Fence.wide 5 P fn a.tmps R a.defers .returning w
 | .panic chain,a,w=>a.defers=[]∧R (.panicked chain) w
 | .outgrown,_,w=>R .outgrown w
 |_,_,_=>False
theorem bodyPostD_M{P:Program}{fn:Func}{R:Ending→World→Prop}:∀(e:Exit) (a:Act) (w:World),bodyPostD P fn R e a w→bodyPostM Fence.wide 5 P fn R e a w
 | .normal,_,_,h=>h
 | .ret,_,_,h=>h
 | .panic chain,a,w,h=>by
  show LeavesInM Fence.wide 5 P fn a.tmps R a.defers (.panicking chain) w
  rw[h.1]
  exact h.2
 | .outgrown,_,_,h=>h
 | .exit _,_,_,h=>h.elim
 | .goto _,_,_,h=>h.elim
theorem enterM{P:Program}{f:FuncId}{fn:Func}{c:Code}{args:List Value}{w:World}{R:Ending→World→Prop}{N:Nat}
  (hf:P.funcs[f]?=some fn) (hb:fn.body=some c) (hN:fn.ntmps=N) (hl:Nat.ble args.length N=true)
  (k:∀a,Fr [] N (frame0 0 args) a→c.wp P (bodyPostD P fn R) a w):Calls P f args.toArray w R:=by
 refine callsIn_wide.1 (callsIn_of_wp_marks (n:=5) hf hb trivial (wpIn_wide.2 (wp_mono (k _ ⟨?_,rfl,fun t v h=>?_⟩) bodyPostD_M)) rfl)
 ·have:args.length≤N:=by simpa using hl
  simp[hN]
  omega
 ·have:=(mem_frame0 args 0 t v h).2
  simp only[Nat.sub_zero] at this
  rw[Array.getElem?_append_left (by have:=(List.getElem?_eq_some_iff.1 this).1;simpa using this)]
  simpa using this
theorem mk_end{P:Program}{fn:Func}{R:Ending→World→Prop}{ts:Array Value}{D:Nat}{w:World}{v:Value}(hK:w.heap[D]?=some (.deferred (some [])))(hv:(results fn ts).run P (w.putObj D (.deferred none))=.ok v (w.putObj D (.deferred none)))(hR:R (.returned v) (w.putObj D (.deferred none))):
  bodyPostD P fn R .ret {tmps:=ts,defers:=[{target:=.collected D,args:=#[]}]} w:=
 ⟨by simp,.inl ⟨_,_,rfl,run_takeDeferred hK,⟨v,hv,hR⟩⟩⟩
theorem Fr.tab{N:Nat}{env:List (Nat×Value)}{a:Act}(h:Fr [] N env a):a={tmps:=((List.range N).map fun i=>(evT env i).getD (a.tmps.getD i undef)).toArray,defers:=[]}:=by
 obtain⟨ts,ds⟩:=a
 have hd:=h.defers
 have hs:=h.size
 dsimp only at hd hs
 subst hd
 congr 1
 apply Array.ext
 ·simp[hs]
 ·intro i h1 h2
  simp only[List.getElem_toArray,List.getElem_map,List.getElem_range]
  cases he:evT env i with
  |none=>simp[Array.getD,h1]
  |some v=>
   have:=h.slot he
   simpa[h1] using this
end
section
open Go.ChangeShapes Go.WideShapes Go.ChangeAt Go.RowKit
set_option maxRecDepth 100000
end
end Go.Proofs.YtndcjmopebcdgaaGreatDoor
