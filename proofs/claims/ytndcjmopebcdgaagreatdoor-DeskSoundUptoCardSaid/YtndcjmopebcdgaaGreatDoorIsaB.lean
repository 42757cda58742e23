/- isa.Check and the reference's CheckInstr answer by one plain function of an instruction. isa.shapes answers its table. isa.of answers an operation's word and fields. The reference's within, register, has and CheckInstr. The reference's CheckInstr answers chkI. The reference's CheckInstr answers chkI. The reference's CheckInstr answers chkI. The reference's CheckInstr answers chkI. The reference's CheckInstr and CheckCode answer chkI, chkCode. isa.Check answers chkI. code.Check and the reference's CheckCode answer by one plain function of a program. -/
import Derived.Test.YtndcjmopebcdgaaGreatDoorProg
import Derived.Test.YtndcjmopebcdgaaGreatDoorBase
set_option linter.unusedSimpArgs false
set_option linter.unusedVariables false
namespace Go.Proofs.YtndcjmopebcdgaaGreatDoor
section
open Go.RowKit
def regOk(n:Int):Bool:=decide (0≤n∧n<4)
def fineOf(op:Int)(f:Int)(n:Int):Bool:=
 if f=78 then(if op=8∨op=9 then decide (0≤n∧n<20) else if op=12∨op=13 then decide (0≤n∧n<6) else true) else regOk n
set_option maxHeartbeats 400000 in
theorem fine_any(op f n:Int)(w:World):
  Calls Tryz.prog 166 #[.int .i64 op,.int .i32 f,.int .i64 n] w fun e w'=>e=.returned (.bool (fineOf op f n))∧w=w':=by
 by_cases hf:f=78
 ·subst hf
  by_cases h89:op=8∨op=9
  ·have e:fineOf op 78 n=(decide (0≤n)&&decide (n<20)):=by simp[fineOf,h89]
   rw[e]
   rcases h89 with rfl|rfl
   all_goals
    cases hn:decide (0≤n)
    all_goals
     go_enter Tryz.func166,Tryz.ntmps166
     go_wp2
     go_ret
     exact⟨by simp,rfl⟩
  ·by_cases h23:op=12∨op=13
   ·have e:fineOf op 78 n=(decide (0≤n)&&decide (n<6)):=by simp[fineOf,h89,h23]
    rw[e]
    rcases h23 with rfl|rfl
    all_goals
     cases hn:decide (0≤n)
     all_goals
      go_enter Tryz.func166,Tryz.ntmps166
      go_wp2
      go_ret
      exact⟨by simp,rfl⟩
   ·have e:fineOf op 78 n=true:=by simp[fineOf,h89,h23]
    rw[e]
    have b8:(op==8)=false:=by simp;omega
    have b9:(op==9)=false:=by simp;omega
    have b12:(op==12)=false:=by simp;omega
    have b13:(op==13)=false:=by simp;omega
    clear e h89 h23
    go_enter Tryz.func166,Tryz.ntmps166
    go_wp2
    go_ret
    exact⟨rfl,rfl⟩
 ·have e:fineOf op f n=(decide (0≤n)&&decide (n<4)):=by simp[fineOf,hf,regOk]
  rw[e]
  have bf:(f != 78)=true:=by simpa using hf
  clear hf e
  cases hn:decide (0≤n)
  all_goals
   go_enter Tryz.func166,Tryz.ntmps166
   go_wp2
   go_ret
   exact⟨by simp,rfl⟩
def placeOf(f:Int):Nat:=if f=65 then 1 else if f=66 then 2 else 3
set_option maxHeartbeats 400000 in
theorem place_any(b o:Nat)(f:Int)(w:World):
  Calls Tryz.prog 167 #[.pointer (some ⟨b,o,none⟩),.int .i32 f] w fun e w'=>e=.returned (.pointer (some ⟨b,o+placeOf f,none⟩))∧w=w':=by
 by_cases h1:f=65
 ·subst h1
  go_enter Tryz.func167,Tryz.ntmps167
  go_wp2
  go_ret
  exact⟨rfl,rfl⟩
 by_cases h2:f=66
 ·subst h2
  go_enter Tryz.func167,Tryz.ntmps167
  go_wp2
  go_ret
  exact⟨rfl,rfl⟩
 ·have e:placeOf f=3:=by simp[placeOf,h1,h2]
  rw[e]
  have b1:(f==65)=false:=by simpa using h1
  have b2:(f==66)=false:=by simpa using h2
  clear e h1 h2
  go_enter Tryz.func167,Tryz.ntmps167
  go_wp2
  go_ret
  exact⟨rfl,rfl⟩
end
section
open Go.RowKit
def shapesC:Array Value:=#[.string ⟨#[]⟩,.string ⟨#[]⟩,.string ⟨#[115,101,116]⟩,.string ⟨#[65,78]⟩,.string ⟨#[99,111,112,121]⟩,.string ⟨#[65,66]⟩,.string ⟨#[97,100,100]⟩,.string ⟨#[65,66]⟩,.string ⟨#[115,117,98]⟩,.string ⟨#[65,66]⟩,.string ⟨#[108,101,115,115]⟩,.string ⟨#[65,66]⟩,.string ⟨#[108,111,97,100]⟩,.string ⟨#[65,66]⟩,.string ⟨#[115,97,118,101]⟩,.string ⟨#[65,66]⟩,.string ⟨#[106,117,109,112]⟩,.string ⟨#[78]⟩,.string ⟨#[122,101,114,111]⟩,.string ⟨#[65,78]⟩,.string ⟨#[105,110]⟩,.string ⟨#[65]⟩,.string ⟨#[111,117,116]⟩,.string ⟨#[65]⟩,.string ⟨#[112,117,116]⟩,.string ⟨#[65,78]⟩,.string ⟨#[103,101,116]⟩,.string ⟨#[65,66,78]⟩,.string ⟨#[114,101,115,116]⟩,.string ⟨#[]⟩,.string ⟨#[115,116,111,112]⟩,.string ⟨#[]⟩]
abbrev shapesV:Value:=.agg shapesC
theorem shapes_size:shapesC.size=32:=by kernel_rfl
theorem shapes_one:shapesC.all (·.oneCell')=true:=by kernel_rfl
theorem shapes_info:(Tryz.prog.info? 288).map (·.size)=some 32:=by kernel_rfl
theorem shapes_zero(w:World):∃Z:Array Value,Z.size=32∧∀w,(zeroValue 288).run Tryz.prog w=.ok (.agg Z) w:=⟨Array.replicate 32 (.string ⟨#[]⟩),by simp,fun _=>by kernel_rfl⟩
set_option maxRecDepth 100000 in
set_option maxHeartbeats 1000000 in
theorem shapes_any(w:World):Calls Tryz.prog 198 #[] w fun e w'=>e=.returned shapesV∧Below w.heap.size w w':=by
 obtain⟨Z,hz,hzr⟩:=shapes_zero w
 have HZ:=hide hz
 clear hz
 go_enter Tryz.func198,Tryz.ntmps198
 go_upto_region 1 with fail
 refine wp_region_list ?_
 refine wpList_value rfl (.agg #[.string ⟨#[115,101,116]⟩,.string ⟨#[65,78]⟩]) (by as_aux_lemma=>kernel_rfl) ?_
 refine wpList_value rfl (.agg #[.string ⟨#[99,111,112,121]⟩,.string ⟨#[65,66]⟩]) (by as_aux_lemma=>kernel_rfl) ?_
 refine wpList_value rfl (.agg #[.string ⟨#[97,100,100]⟩,.string ⟨#[65,66]⟩]) (by as_aux_lemma=>kernel_rfl) ?_
 refine wpList_value rfl (.agg #[.string ⟨#[115,117,98]⟩,.string ⟨#[65,66]⟩]) (by as_aux_lemma=>kernel_rfl) ?_
 refine wpList_value rfl (.agg #[.string ⟨#[108,101,115,115]⟩,.string ⟨#[65,66]⟩]) (by as_aux_lemma=>kernel_rfl) ?_
 refine wpList_value rfl (.agg #[.string ⟨#[108,111,97,100]⟩,.string ⟨#[65,66]⟩]) (by as_aux_lemma=>kernel_rfl) ?_
 refine wpList_value rfl (.agg #[.string ⟨#[115,97,118,101]⟩,.string ⟨#[65,66]⟩]) (by as_aux_lemma=>kernel_rfl) ?_
 refine wpList_value rfl (.agg #[.string ⟨#[106,117,109,112]⟩,.string ⟨#[78]⟩]) (by as_aux_lemma=>kernel_rfl) ?_
 refine wpList_value rfl (.agg #[.string ⟨#[122,101,114,111]⟩,.string ⟨#[65,78]⟩]) (by as_aux_lemma=>kernel_rfl) ?_
 refine wpList_value rfl (.agg #[.string ⟨#[105,110]⟩,.string ⟨#[65]⟩]) (by as_aux_lemma=>kernel_rfl) ?_
 refine wpList_value rfl (.agg #[.string ⟨#[111,117,116]⟩,.string ⟨#[65]⟩]) (by as_aux_lemma=>kernel_rfl) ?_
 refine wpList_value rfl (.agg #[.string ⟨#[112,117,116]⟩,.string ⟨#[65,78]⟩]) (by as_aux_lemma=>kernel_rfl) ?_
 refine wpList_value rfl (.agg #[.string ⟨#[103,101,116]⟩,.string ⟨#[65,66,78]⟩]) (by as_aux_lemma=>kernel_rfl) ?_
 refine wpList_value rfl (.agg #[.string ⟨#[114,101,115,116]⟩,.string ⟨#[]⟩]) (by as_aux_lemma=>kernel_rfl) ?_
 refine wpList_value rfl (.agg #[.string ⟨#[115,116,111,112]⟩,.string ⟨#[]⟩]) (by as_aux_lemma=>kernel_rfl) ?_
 refine wpList_value rfl (.agg shapesC) (by as_aux_lemma=>kernel_rfl) ?_
 refine wpList_store_new rfl 288 (.tmp 0) (.tmp 16) rfl w 288 Z shapesC w.heap.size rfl (by as_aux_lemma=>kernel_rfl) (by as_aux_lemma=>kernel_rfl) (by rw[shapes_size];exact shapes_info) (by rw[shapes_size];exact HZ.out) shapes_one ?_
 refine wpList_nil ?_
 generalize hA:Act.put _ _ _=A
 have h1:A.tmps.getD 0 undef=.pointer (some ⟨w.heap.size,0,none⟩):=by rw[←hA];as_aux_lemma=>kernel_rfl
 have h2:A.defers=[]:=by rw[←hA];as_aux_lemma=>kernel_rfl
 clear hA
 have H1:=hide h1
 have H2:=hide h2
 clear h1 h2
 go_wp2
 exact bodyPost_ret (v:=shapesV) (results_cell_row rfl A.tmps _ w.heap.size 288 shapesC (0,0) _ H1.out (heap_alloc_new w _) Tryz.underlying288 rfl (by rw[shapes_size];exact shapes_info)) H2.out ⟨rfl,Bl⟩
end
section
open Go.RowKit
def wordB(op:Int):ByteArray:=match op.toNat with
 |1=>⟨#[115,101,116]⟩
 |2=>⟨#[99,111,112,121]⟩
 |3=>⟨#[97,100,100]⟩
 |4=>⟨#[115,117,98]⟩
 |5=>⟨#[108,101,115,115]⟩
 |6=>⟨#[108,111,97,100]⟩
 |7=>⟨#[115,97,118,101]⟩
 |8=>⟨#[106,117,109,112]⟩
 |9=>⟨#[122,101,114,111]⟩
 |10=>⟨#[105,110]⟩
 |11=>⟨#[111,117,116]⟩
 |12=>⟨#[112,117,116]⟩
 |13=>⟨#[103,101,116]⟩
 |14=>⟨#[114,101,115,116]⟩
 |15=>⟨#[115,116,111,112]⟩
 |_=>⟨#[]⟩
def fieldB(op:Int):ByteArray:=match op.toNat with
 |1=>⟨#[65,78]⟩
 |2=>⟨#[65,66]⟩
 |3=>⟨#[65,66]⟩
 |4=>⟨#[65,66]⟩
 |5=>⟨#[65,66]⟩
 |6=>⟨#[65,66]⟩
 |7=>⟨#[65,66]⟩
 |8=>⟨#[78]⟩
 |9=>⟨#[65,78]⟩
 |10=>⟨#[65]⟩
 |11=>⟨#[65]⟩
 |12=>⟨#[65,78]⟩
 |13=>⟨#[65,66,78]⟩
 |14=>⟨#[]⟩
 |15=>⟨#[]⟩
 |_=>⟨#[]⟩
theorem op_cases{op:Int}(h:1≤op∧op≤15):op=1∨op=2∨op=3∨op=4∨op=5∨op=6∨op=7∨op=8∨op=9∨op=10∨op=11∨op=12∨op=13∨op=14∨op=15:=by omega
theorem of_1(w:World):Calls Tryz.prog 165 #[.int .i64 1] w fun e w'=>e=.returned (.tuple #[.agg #[.string (wordB 1),.string (fieldB 1)],.bool true])∧Below w.heap.size w w':=by
 have hi:∀w,(Instr.index 288 shapesV (.int .i64 1)).run Tryz.prog w=.ok (.agg #[.string (wordB 1),.string (fieldB 1)]) w:=fun _=>by kernel_rfl
 go_enter Tryz.func165,Tryz.ntmps165
 go_wp2_with (go_at_call 198;refine(shapes_any _).mono ?_;rintro e w1 ⟨rfl,hb⟩;obtain⟨hc1,hf1⟩:=bcell hb;(try simp only[World.heap_drewN,World.cell?_drewN,World.frozen?_drewN] at hc1 hf1);have hs1:=hb.size;(try simp at hs1);have z0w1:w.heap.size<w1.heap.size:=Om)
 refine bodyPost_ret (v:=.tuple #[.agg #[.string (wordB 1),.string (fieldB 1)],.bool true]) ?_ rfl ?_
 ·simp[results,Tryz.results165,go_sem, *]
 exact⟨rfl,Bl⟩
theorem of_2(w:World):Calls Tryz.prog 165 #[.int .i64 2] w fun e w'=>e=.returned (.tuple #[.agg #[.string (wordB 2),.string (fieldB 2)],.bool true])∧Below w.heap.size w w':=by
 have hi:∀w,(Instr.index 288 shapesV (.int .i64 2)).run Tryz.prog w=.ok (.agg #[.string (wordB 2),.string (fieldB 2)]) w:=fun _=>by kernel_rfl
 go_enter Tryz.func165,Tryz.ntmps165
 go_wp2_with (go_at_call 198;refine(shapes_any _).mono ?_;rintro e w1 ⟨rfl,hb⟩;obtain⟨hc1,hf1⟩:=bcell hb;(try simp only[World.heap_drewN,World.cell?_drewN,World.frozen?_drewN] at hc1 hf1);have hs1:=hb.size;(try simp at hs1);have z0w1:w.heap.size<w1.heap.size:=Om)
 refine bodyPost_ret (v:=.tuple #[.agg #[.string (wordB 2),.string (fieldB 2)],.bool true]) ?_ rfl ?_
 ·simp[results,Tryz.results165,go_sem, *]
 exact⟨rfl,Bl⟩
theorem of_3(w:World):Calls Tryz.prog 165 #[.int .i64 3] w fun e w'=>e=.returned (.tuple #[.agg #[.string (wordB 3),.string (fieldB 3)],.bool true])∧Below w.heap.size w w':=by
 have hi:∀w,(Instr.index 288 shapesV (.int .i64 3)).run Tryz.prog w=.ok (.agg #[.string (wordB 3),.string (fieldB 3)]) w:=fun _=>by kernel_rfl
 go_enter Tryz.func165,Tryz.ntmps165
 go_wp2_with (go_at_call 198;refine(shapes_any _).mono ?_;rintro e w1 ⟨rfl,hb⟩;obtain⟨hc1,hf1⟩:=bcell hb;(try simp only[World.heap_drewN,World.cell?_drewN,World.frozen?_drewN] at hc1 hf1);have hs1:=hb.size;(try simp at hs1);have z0w1:w.heap.size<w1.heap.size:=Om)
 refine bodyPost_ret (v:=.tuple #[.agg #[.string (wordB 3),.string (fieldB 3)],.bool true]) ?_ rfl ?_
 ·simp[results,Tryz.results165,go_sem, *]
 exact⟨rfl,Bl⟩
theorem of_4(w:World):Calls Tryz.prog 165 #[.int .i64 4] w fun e w'=>e=.returned (.tuple #[.agg #[.string (wordB 4),.string (fieldB 4)],.bool true])∧Below w.heap.size w w':=by
 have hi:∀w,(Instr.index 288 shapesV (.int .i64 4)).run Tryz.prog w=.ok (.agg #[.string (wordB 4),.string (fieldB 4)]) w:=fun _=>by kernel_rfl
 go_enter Tryz.func165,Tryz.ntmps165
 go_wp2_with (go_at_call 198;refine(shapes_any _).mono ?_;rintro e w1 ⟨rfl,hb⟩;obtain⟨hc1,hf1⟩:=bcell hb;(try simp only[World.heap_drewN,World.cell?_drewN,World.frozen?_drewN] at hc1 hf1);have hs1:=hb.size;(try simp at hs1);have z0w1:w.heap.size<w1.heap.size:=Om)
 refine bodyPost_ret (v:=.tuple #[.agg #[.string (wordB 4),.string (fieldB 4)],.bool true]) ?_ rfl ?_
 ·simp[results,Tryz.results165,go_sem, *]
 exact⟨rfl,Bl⟩
theorem of_5(w:World):Calls Tryz.prog 165 #[.int .i64 5] w fun e w'=>e=.returned (.tuple #[.agg #[.string (wordB 5),.string (fieldB 5)],.bool true])∧Below w.heap.size w w':=by
 have hi:∀w,(Instr.index 288 shapesV (.int .i64 5)).run Tryz.prog w=.ok (.agg #[.string (wordB 5),.string (fieldB 5)]) w:=fun _=>by kernel_rfl
 go_enter Tryz.func165,Tryz.ntmps165
 go_wp2_with (go_at_call 198;refine(shapes_any _).mono ?_;rintro e w1 ⟨rfl,hb⟩;obtain⟨hc1,hf1⟩:=bcell hb;(try simp only[World.heap_drewN,World.cell?_drewN,World.frozen?_drewN] at hc1 hf1);have hs1:=hb.size;(try simp at hs1);have z0w1:w.heap.size<w1.heap.size:=Om)
 refine bodyPost_ret (v:=.tuple #[.agg #[.string (wordB 5),.string (fieldB 5)],.bool true]) ?_ rfl ?_
 ·simp[results,Tryz.results165,go_sem, *]
 exact⟨rfl,Bl⟩
theorem of_6(w:World):Calls Tryz.prog 165 #[.int .i64 6] w fun e w'=>e=.returned (.tuple #[.agg #[.string (wordB 6),.string (fieldB 6)],.bool true])∧Below w.heap.size w w':=by
 have hi:∀w,(Instr.index 288 shapesV (.int .i64 6)).run Tryz.prog w=.ok (.agg #[.string (wordB 6),.string (fieldB 6)]) w:=fun _=>by kernel_rfl
 go_enter Tryz.func165,Tryz.ntmps165
 go_wp2_with (go_at_call 198;refine(shapes_any _).mono ?_;rintro e w1 ⟨rfl,hb⟩;obtain⟨hc1,hf1⟩:=bcell hb;(try simp only[World.heap_drewN,World.cell?_drewN,World.frozen?_drewN] at hc1 hf1);have hs1:=hb.size;(try simp at hs1);have z0w1:w.heap.size<w1.heap.size:=Om)
 refine bodyPost_ret (v:=.tuple #[.agg #[.string (wordB 6),.string (fieldB 6)],.bool true]) ?_ rfl ?_
 ·simp[results,Tryz.results165,go_sem, *]
 exact⟨rfl,Bl⟩
theorem of_7(w:World):Calls Tryz.prog 165 #[.int .i64 7] w fun e w'=>e=.returned (.tuple #[.agg #[.string (wordB 7),.string (fieldB 7)],.bool true])∧Below w.heap.size w w':=by
 have hi:∀w,(Instr.index 288 shapesV (.int .i64 7)).run Tryz.prog w=.ok (.agg #[.string (wordB 7),.string (fieldB 7)]) w:=fun _=>by kernel_rfl
 go_enter Tryz.func165,Tryz.ntmps165
 go_wp2_with (go_at_call 198;refine(shapes_any _).mono ?_;rintro e w1 ⟨rfl,hb⟩;obtain⟨hc1,hf1⟩:=bcell hb;(try simp only[World.heap_drewN,World.cell?_drewN,World.frozen?_drewN] at hc1 hf1);have hs1:=hb.size;(try simp at hs1);have z0w1:w.heap.size<w1.heap.size:=Om)
 refine bodyPost_ret (v:=.tuple #[.agg #[.string (wordB 7),.string (fieldB 7)],.bool true]) ?_ rfl ?_
 ·simp[results,Tryz.results165,go_sem, *]
 exact⟨rfl,Bl⟩
theorem of_8(w:World):Calls Tryz.prog 165 #[.int .i64 8] w fun e w'=>e=.returned (.tuple #[.agg #[.string (wordB 8),.string (fieldB 8)],.bool true])∧Below w.heap.size w w':=by
 have hi:∀w,(Instr.index 288 shapesV (.int .i64 8)).run Tryz.prog w=.ok (.agg #[.string (wordB 8),.string (fieldB 8)]) w:=fun _=>by kernel_rfl
 go_enter Tryz.func165,Tryz.ntmps165
 go_wp2_with (go_at_call 198;refine(shapes_any _).mono ?_;rintro e w1 ⟨rfl,hb⟩;obtain⟨hc1,hf1⟩:=bcell hb;(try simp only[World.heap_drewN,World.cell?_drewN,World.frozen?_drewN] at hc1 hf1);have hs1:=hb.size;(try simp at hs1);have z0w1:w.heap.size<w1.heap.size:=Om)
 refine bodyPost_ret (v:=.tuple #[.agg #[.string (wordB 8),.string (fieldB 8)],.bool true]) ?_ rfl ?_
 ·simp[results,Tryz.results165,go_sem, *]
 exact⟨rfl,Bl⟩
theorem of_9(w:World):Calls Tryz.prog 165 #[.int .i64 9] w fun e w'=>e=.returned (.tuple #[.agg #[.string (wordB 9),.string (fieldB 9)],.bool true])∧Below w.heap.size w w':=by
 have hi:∀w,(Instr.index 288 shapesV (.int .i64 9)).run Tryz.prog w=.ok (.agg #[.string (wordB 9),.string (fieldB 9)]) w:=fun _=>by kernel_rfl
 go_enter Tryz.func165,Tryz.ntmps165
 go_wp2_with (go_at_call 198;refine(shapes_any _).mono ?_;rintro e w1 ⟨rfl,hb⟩;obtain⟨hc1,hf1⟩:=bcell hb;(try simp only[World.heap_drewN,World.cell?_drewN,World.frozen?_drewN] at hc1 hf1);have hs1:=hb.size;(try simp at hs1);have z0w1:w.heap.size<w1.heap.size:=Om)
 refine bodyPost_ret (v:=.tuple #[.agg #[.string (wordB 9),.string (fieldB 9)],.bool true]) ?_ rfl ?_
 ·simp[results,Tryz.results165,go_sem, *]
 exact⟨rfl,Bl⟩
theorem of_10(w:World):Calls Tryz.prog 165 #[.int .i64 10] w fun e w'=>e=.returned (.tuple #[.agg #[.string (wordB 10),.string (fieldB 10)],.bool true])∧Below w.heap.size w w':=by
 have hi:∀w,(Instr.index 288 shapesV (.int .i64 10)).run Tryz.prog w=.ok (.agg #[.string (wordB 10),.string (fieldB 10)]) w:=fun _=>by kernel_rfl
 go_enter Tryz.func165,Tryz.ntmps165
 go_wp2_with (go_at_call 198;refine(shapes_any _).mono ?_;rintro e w1 ⟨rfl,hb⟩;obtain⟨hc1,hf1⟩:=bcell hb;(try simp only[World.heap_drewN,World.cell?_drewN,World.frozen?_drewN] at hc1 hf1);have hs1:=hb.size;(try simp at hs1);have z0w1:w.heap.size<w1.heap.size:=Om)
 refine bodyPost_ret (v:=.tuple #[.agg #[.string (wordB 10),.string (fieldB 10)],.bool true]) ?_ rfl ?_
 ·simp[results,Tryz.results165,go_sem, *]
 exact⟨rfl,Bl⟩
theorem of_11(w:World):Calls Tryz.prog 165 #[.int .i64 11] w fun e w'=>e=.returned (.tuple #[.agg #[.string (wordB 11),.string (fieldB 11)],.bool true])∧Below w.heap.size w w':=by
 have hi:∀w,(Instr.index 288 shapesV (.int .i64 11)).run Tryz.prog w=.ok (.agg #[.string (wordB 11),.string (fieldB 11)]) w:=fun _=>by kernel_rfl
 go_enter Tryz.func165,Tryz.ntmps165
 go_wp2_with (go_at_call 198;refine(shapes_any _).mono ?_;rintro e w1 ⟨rfl,hb⟩;obtain⟨hc1,hf1⟩:=bcell hb;(try simp only[World.heap_drewN,World.cell?_drewN,World.frozen?_drewN] at hc1 hf1);have hs1:=hb.size;(try simp at hs1);have z0w1:w.heap.size<w1.heap.size:=Om)
 refine bodyPost_ret (v:=.tuple #[.agg #[.string (wordB 11),.string (fieldB 11)],.bool true]) ?_ rfl ?_
 ·simp[results,Tryz.results165,go_sem, *]
 exact⟨rfl,Bl⟩
theorem of_12(w:World):Calls Tryz.prog 165 #[.int .i64 12] w fun e w'=>e=.returned (.tuple #[.agg #[.string (wordB 12),.string (fieldB 12)],.bool true])∧Below w.heap.size w w':=by
 have hi:∀w,(Instr.index 288 shapesV (.int .i64 12)).run Tryz.prog w=.ok (.agg #[.string (wordB 12),.string (fieldB 12)]) w:=fun _=>by kernel_rfl
 go_enter Tryz.func165,Tryz.ntmps165
 go_wp2_with (go_at_call 198;refine(shapes_any _).mono ?_;rintro e w1 ⟨rfl,hb⟩;obtain⟨hc1,hf1⟩:=bcell hb;(try simp only[World.heap_drewN,World.cell?_drewN,World.frozen?_drewN] at hc1 hf1);have hs1:=hb.size;(try simp at hs1);have z0w1:w.heap.size<w1.heap.size:=Om)
 refine bodyPost_ret (v:=.tuple #[.agg #[.string (wordB 12),.string (fieldB 12)],.bool true]) ?_ rfl ?_
 ·simp[results,Tryz.results165,go_sem, *]
 exact⟨rfl,Bl⟩
theorem of_13(w:World):Calls Tryz.prog 165 #[.int .i64 13] w fun e w'=>e=.returned (.tuple #[.agg #[.string (wordB 13),.string (fieldB 13)],.bool true])∧Below w.heap.size w w':=by
 have hi:∀w,(Instr.index 288 shapesV (.int .i64 13)).run Tryz.prog w=.ok (.agg #[.string (wordB 13),.string (fieldB 13)]) w:=fun _=>by kernel_rfl
 go_enter Tryz.func165,Tryz.ntmps165
 go_wp2_with (go_at_call 198;refine(shapes_any _).mono ?_;rintro e w1 ⟨rfl,hb⟩;obtain⟨hc1,hf1⟩:=bcell hb;(try simp only[World.heap_drewN,World.cell?_drewN,World.frozen?_drewN] at hc1 hf1);have hs1:=hb.size;(try simp at hs1);have z0w1:w.heap.size<w1.heap.size:=Om)
 refine bodyPost_ret (v:=.tuple #[.agg #[.string (wordB 13),.string (fieldB 13)],.bool true]) ?_ rfl ?_
 ·simp[results,Tryz.results165,go_sem, *]
 exact⟨rfl,Bl⟩
theorem of_14(w:World):Calls Tryz.prog 165 #[.int .i64 14] w fun e w'=>e=.returned (.tuple #[.agg #[.string (wordB 14),.string (fieldB 14)],.bool true])∧Below w.heap.size w w':=by
 have hi:∀w,(Instr.index 288 shapesV (.int .i64 14)).run Tryz.prog w=.ok (.agg #[.string (wordB 14),.string (fieldB 14)]) w:=fun _=>by kernel_rfl
 go_enter Tryz.func165,Tryz.ntmps165
 go_wp2_with (go_at_call 198;refine(shapes_any _).mono ?_;rintro e w1 ⟨rfl,hb⟩;obtain⟨hc1,hf1⟩:=bcell hb;(try simp only[World.heap_drewN,World.cell?_drewN,World.frozen?_drewN] at hc1 hf1);have hs1:=hb.size;(try simp at hs1);have z0w1:w.heap.size<w1.heap.size:=Om)
 refine bodyPost_ret (v:=.tuple #[.agg #[.string (wordB 14),.string (fieldB 14)],.bool true]) ?_ rfl ?_
 ·simp[results,Tryz.results165,go_sem, *]
 exact⟨rfl,Bl⟩
theorem of_15(w:World):Calls Tryz.prog 165 #[.int .i64 15] w fun e w'=>e=.returned (.tuple #[.agg #[.string (wordB 15),.string (fieldB 15)],.bool true])∧Below w.heap.size w w':=by
 have hi:∀w,(Instr.index 288 shapesV (.int .i64 15)).run Tryz.prog w=.ok (.agg #[.string (wordB 15),.string (fieldB 15)]) w:=fun _=>by kernel_rfl
 go_enter Tryz.func165,Tryz.ntmps165
 go_wp2_with (go_at_call 198;refine(shapes_any _).mono ?_;rintro e w1 ⟨rfl,hb⟩;obtain⟨hc1,hf1⟩:=bcell hb;(try simp only[World.heap_drewN,World.cell?_drewN,World.frozen?_drewN] at hc1 hf1);have hs1:=hb.size;(try simp at hs1);have z0w1:w.heap.size<w1.heap.size:=Om)
 refine bodyPost_ret (v:=.tuple #[.agg #[.string (wordB 15),.string (fieldB 15)],.bool true]) ?_ rfl ?_
 ·simp[results,Tryz.results165,go_sem, *]
 exact⟨rfl,Bl⟩
theorem of_any(op:Int)(h:1≤op∧op≤15)(w:World):Calls Tryz.prog 165 #[.int .i64 op] w fun e w'=>e=.returned (.tuple #[.agg #[.string (wordB op),.string (fieldB op)],.bool true])∧Below w.heap.size w w':=by
 rcases op_cases h with rfl|rfl|rfl|rfl|rfl|rfl|rfl|rfl|rfl|rfl|rfl|rfl|rfl|rfl|rfl
 ·exact of_1 w
 ·exact of_2 w
 ·exact of_3 w
 ·exact of_4 w
 ·exact of_5 w
 ·exact of_6 w
 ·exact of_7 w
 ·exact of_8 w
 ·exact of_9 w
 ·exact of_10 w
 ·exact of_11 w
 ·exact of_12 w
 ·exact of_13 w
 ·exact of_14 w
 ·exact of_15 w
theorem of_none(op:Int)(h:¬(1≤op∧op≤15))(w:World):Calls Tryz.prog 165 #[.int .i64 op] w fun e w'=>e=.returned (.tuple #[.agg #[.string ⟨#[]⟩,.string ⟨#[]⟩],.bool false])∧Below w.heap.size w w':=by
 by_cases h1:op<1
 ·clear h
  have d1:decide (op<1)=true:=by simpa using h1
  go_enter Tryz.func165,Tryz.ntmps165
  go_wp2
  refine bodyPost_ret (v:=.tuple #[.agg #[.string ⟨#[]⟩,.string ⟨#[]⟩],.bool false]) ?_ rfl ?_
  ·simp[results,Tryz.results165,go_sem]
  exact⟨rfl,Bl⟩
 ·have h2:15<op:=by omega
  have d1:decide (op<1)=false:=by simpa using h1
  have d2:decide (15<op)=true:=by simpa using h2
  clear h h1
  go_enter Tryz.func165,Tryz.ntmps165
  go_wp2
  refine bodyPost_ret (v:=.tuple #[.agg #[.string ⟨#[]⟩,.string ⟨#[]⟩],.bool false]) ?_ rfl ?_
  ·simp[results,Tryz.results165,go_sem]
  exact⟨rfl,Bl⟩
end
section
open Go.RowKit
def hasA(op:Int):Bool:=op==1||op==2||op==3||op==4||op==5||op==6||op==7||op==9||op==10||op==11||op==12||op==13
def hasB(op:Int):Bool:=op==2||op==3||op==4||op==5||op==6||op==7||op==13
def hasN(op:Int):Bool:=op==1||op==8||op==9||op==12||op==13
def numOk(op n:Int):Bool:=if op=8∨op=9 then decide (0≤n∧n<20) else if op=12∨op=13 then decide (0≤n∧n<6) else true
def chkI(op a b n:Int):Int:=
 if¬(1≤op∧op≤15) then 4
 else if(hasA op&& !regOk a||hasB op&& !regOk b)=true then 3
 else if numOk op n=false then 3
 else if(!hasA op&&a != 0||(!hasB op&&b != 0|| !hasN op&&n != 0))=true then 1
 else 0
end
section
open Go.RowKit
end
section
open Go.RowKit
end
section
open Go.RowKit
end
section
open Go.RowKit
end
section
open Go.RowKit
end
section
open Go.RowKit
def selF(t a b n:Int):Int:=if t=65 then a else if t=66 then b else n
def zf(fs:ByteArray)(k:Nat)(t:Nat)(v:Int):Int:=if t∈(fs.data.toList.take k).map (·.toNat) then 0 else v
theorem zf_zero(fs:ByteArray)(t:Nat)(v:Int):zf fs 0 t v=v:=by simp[zf]
theorem zf_same(fs:ByteArray)(k:Nat)(h:k<fs.size)(t:Nat)(ht:(fs[k]'h).toNat=t)(v:Int):zf fs (k+1) t v=0:=by
 have hl:k<fs.data.toList.length:=by simpa using h
 unfold zf
 rw[List.take_succ_eq_append_getElem hl,if_pos]
 have:fs.data.toList[k]=fs[k]'h:=rfl
 simp[this,ht]
theorem zf_other(fs:ByteArray)(k:Nat)(h:k<fs.size)(t u:Nat)(ht:(fs[k]'h).toNat=t)(hu:u≠t)(v:Int):zf fs (k+1) u v=zf fs k u v:=by
 have hl:k<fs.data.toList.length:=by simpa using h
 unfold zf
 rw[List.take_succ_eq_append_getElem hl]
 have:fs.data.toList[k]=fs[k]'h:=rfl
 simp[this,ht,hu]
def fineTo(op a b n:Int)(fs:ByteArray)(k:Nat):Bool:=(fs.data.toList.take k).all fun c=>fineOf op c.toNat (selF c.toNat a b n)
theorem fineTo_succ(op a b n:Int)(fs:ByteArray)(k:Nat)(h:k<fs.size):fineTo op a b n fs (k+1)=(fineTo op a b n fs k&&fineOf op (fs[k]'h).toNat (selF (fs[k]'h).toNat a b n)):=by
 have hl:k<fs.data.toList.length:=by simpa using h
 unfold fineTo
 rw[List.take_succ_eq_append_getElem hl,List.all_append]
 have:fs.data.toList[k]=fs[k]'h:=rfl
 simp[this]
theorem fineTo_false(op a b n:Int)(fs:ByteArray)(k:Nat)(h:fineTo op a b n fs k=false):fineTo op a b n fs fs.size=false:=by
 unfold fineTo at*
 rw[List.take_of_length_le Si]
 rw[List.all_eq_false] at h⊢
 obtain⟨x,hx,h2⟩:=h
 exact⟨x,List.mem_of_mem_take hx,h2⟩
theorem chk_fields(op a b n:Int)(h:1≤op∧op≤15):chkI op a b n=if fineTo op a b n (fieldB op) (fieldB op).size=false then 3 else if(zf (fieldB op) (fieldB op).size 65 a==0&&zf (fieldB op) (fieldB op).size 66 b==0&&zf (fieldB op) (fieldB op).size 78 n==0)=true then 0 else 1:=by
 rcases op_cases h with rfl|rfl|rfl|rfl|rfl|rfl|rfl|rfl|rfl|rfl|rfl|rfl|rfl|rfl|rfl
 all_goals
  cases ra:regOk a<;>cases rb:regOk b<;>simp[chkI,hasA,hasB,hasN,numOk,fineTo,zf,fieldB,fineOf,selF,ra,rb,ByteArray.size]
 all_goals(by_cases e1:a=0<;>by_cases e2:b=0<;>by_cases e3:n=0<;>simp[e1,e2,e3])
theorem field_byte(op:Int)(h:1≤op∧op≤15)(k:Nat)(hk:k<(fieldB op).size):((fieldB op)[k]'hk).toNat=65∨((fieldB op)[k]'hk).toNat=66∨((fieldB op)[k]'hk).toNat=78:=by
 have:∀c∈(fieldB op).data.toList,c.toNat=65∨c.toNat=66∨c.toNat=78:=by
  rcases op_cases h with rfl|rfl|rfl|rfl|rfl|rfl|rfl|rfl|rfl|rfl|rfl|rfl|rfl|rfl|rfl
  all_goals decide
 exact this _ (by show(fieldB op).data.toList[k]'(by simpa using hk)∈_;exact List.getElem_mem _)
def ChkLoop(op a b n:Int)(fs:ByteArray)(w:World)(bs br bi g:Nat)(wr:World):Prop:=
 ∃k,g+k=fs.size∧fineTo op a b n fs k=true∧wr.heap[bi]?=some (.stringIter fs k)∧
  Free wr ⟨br,0,none⟩ (.int .i64 op)∧Free wr ⟨br,1,none⟩ (.int .i64 (zf fs k 65 a))∧Free wr ⟨br,2,none⟩ (.int .i64 (zf fs k 66 b))∧Free wr ⟨br,3,none⟩ (.int .i64 (zf fs k 78 n))∧
  wr.cell? ⟨w.heap.size,0,none⟩=some (.int .i64 op)∧wr.cell? ⟨w.heap.size,1,none⟩=some (.int .i64 a)∧wr.cell? ⟨w.heap.size,2,none⟩=some (.int .i64 b)∧wr.cell? ⟨w.heap.size,3,none⟩=some (.int .i64 n)∧
  bi<wr.heap.size∧Below w.heap.size w wr
theorem place_at(b:Nat)(f:Int)(j:Nat)(h:placeOf f=j)(w:World):
  Calls Tryz.prog 167 #[.pointer (some ⟨b,0,none⟩),.int .i32 f] w fun e w'=>e=.returned (.pointer (some ⟨b,j,none⟩))∧w=w':=by
 have:=place_any b 0 f w
 rwa [h,Nat.zero_add] at this
theorem set_free_below{w wr:World}{b o:Nat}(h:Below w.heap.size w wr)(hb:w.heap.size≤b)(v:Value):Below w.heap.size w (wr.setCell ⟨b,o,none⟩ v):=h.setCell hb v
theorem iter_set{w:World}{k:Nat}{s:ByteArray}{pos b o:Nat}(h:w.heap[k]?=some (.stringIter s pos))(hb:¬b=k)(v:Value):(w.setCell ⟨b,o,none⟩ v).heap[k]?=some (.stringIter s pos):=by
 rw[Below.heap_setCell _ _ _ _ (fun e=>hb e.symm)]
 exact h
set_option maxRecDepth 100000 in
set_option maxHeartbeats 2000000 in
theorem isaCheck_is(op a b n:Int)(h:1≤op∧op≤15)(w:World):Calls Tryz.prog 130 #[.agg #[.int .i64 op,.int .i64 a,.int .i64 b,.int .i64 n]] w fun e w'=>e=.returned (.int .i64 (chkI op a b n))∧Below w.heap.size w w':=by
 have HF:=hide (field_byte op h)
 have HC:=hide (chk_fields op a b n h)
 have HO:=hide (of_any op h)
 clear h
 generalize fieldB op=fs at*
 generalize wordB op=ws at*
 go_enter Tryz.func130,Tryz.ntmps130
 go_wp2_with (first
  |(go_at_call 165;refine(HO.out _).mono ?_;rintro e w1 ⟨rfl,hb⟩;obtain⟨hc1,hf1⟩:=bcell hb;(try simp only[World.heap_drewN,World.cell?_drewN,World.frozen?_drewN] at hc1 hf1);have hs1:=hb.size;(try simp at hs1);have z0w1:w.heap.size<w1.heap.size:=Om))
 go_loopg [] fs.size (fun g wr=>ChkLoop op a b n fs w w1.heap.size (w1.heap.size+1) (w1.heap.size+1+1) g wr)
 case atStart=>
  generalize hX:((w1.alloc (.cells #[.string ws,.string fs] 250)).alloc (.cells #[.int .i64 op,.int .i64 a,.int .i64 b,.int .i64 n] 118))=X
  have hs:X.heap.size=w1.heap.size+1+1:=by rw[←hX];simp
  have hB:Below w.heap.size w X:=by rw[←hX];exact Bl
  have hC:∀o u,w1.cell? ⟨w.heap.size,o,none⟩=some u→X.cell? ⟨w.heap.size,o,none⟩=some u:=by rw[←hX];exact fun o u h=>cell_alloc (cell_alloc h)
  refine⟨0,by omega,rfl,by rw[←hs];exact World.iter_heap X fs 0,?_,?_,?_,?_,?_,?_,?_,?_,?_,?_⟩
  ·rw[←hX];exact Free.alloc (Free.new1 _ _ _ _ _ _ rfl)
  ·rw[←hX,zf_zero];exact Free.alloc (Free.new1 _ _ _ _ _ _ rfl)
  ·rw[←hX,zf_zero];exact Free.alloc (Free.new1 _ _ _ _ _ _ rfl)
  ·rw[←hX,zf_zero];exact Free.alloc (Free.new1 _ _ _ _ _ _ rfl)
  ·exact cell_alloc (hC _ _ (cell_below hb (Free.new w _ _ _ _ rfl).1))
  ·exact cell_alloc (hC _ _ (cell_below hb (Free.new w _ _ _ _ rfl).1))
  ·exact cell_alloc (hC _ _ (cell_below hb (Free.new w _ _ _ _ rfl).1))
  ·exact cell_alloc (hC _ _ (cell_below hb (Free.new w _ _ _ _ rfl).1))
  ·simp[World.iter];omega
  ·exact hB.alloc1 _
 case round=>
  obtain⟨k,hg,hfine,hit,F0,F1,F2,F3,c0,c1,c2,c3,hz,hbw⟩:=hrel
  by_cases hk:k<fs.size
  ·have hcase:=HF.out k hk
   have HFI:=hide (fineTo_succ op a b n fs k hk)
   have HG:=hide hg
   have HFN:=hide hfine
   clear hg hfine
   obtain⟨t,ht⟩:∃t,(fs[k]'hk).toNat=t:=⟨_,rfl⟩
   rw[ht] at hcase
   have HT:=hide ht
   clear ht
   rcases hcase with rfl|rfl|rfl
   ·skip
    obtain⟨wn,hn,tk⟩:=next_ascii wr _ fs k hit hk 65 HT.out Dc
    replace F0:=tk.free F0
    replace F1:=tk.free F1
    replace F2:=tk.free F2
    replace F3:=tk.free F3
    rw[←tk.cell] at c0 c1 c2 c3
    have hbw2:Below w.heap.size w wn:=hbw.trans (tk.below.mono Om)
    obtain⟨F0c,F0f⟩:=id F0
    obtain⟨F1c,F1f⟩:=id F1
    obtain⟨F2c,F2f⟩:=id F2
    obtain⟨F3c,F3f⟩:=id F3
    have HIT:=hide tk.iter
    have hz':=tk.size
    have HB:=hide hbw2
    clear tk hit hbw hbw2
    have HPL:=hide (fun b w=>place_at b 65 1 rfl w)
    cases hff:fineOf op 65 a
    ·have hfz:=fine_any op 65 a
     rw[hff] at hfz
     have HFZ:=hide hfz
     have HR:=hide (show chkI op a b n=3 by rw[HC.out,if_pos (fineTo_false op a b n fs (k+1) (by have h:=HFI.out;rw[HT.out] at h;rw[h];simp[selF,hff]))])
     clear hfz hff
     go_wp2_with fail
     go_quiet ((first|(go_at_call 167;first|exact quiet_left (HPL.out _ _)|exact quiet_add_left (HPL.out _ _))|(go_at_call 166;first|exact quiet_left (HFZ.out _)|exact quiet_add_left (HFZ.out _))))
     go_wp2_with fail
     go_ret
     exact⟨by rw[HR.out];rfl,HB.out.drewN1 _⟩
    ·have hfz:=fine_any op 65 a
     rw[hff] at hfz
     have HFZ:=hide hfz
     have HFN':=hide (show fineTo op a b n fs (k+1)=true by have h:=HFI.out;rw[HT.out] at h;rw[h,HFN.out];simp[selF,hff])
     clear hfz hff
     go_wp2_with fail
     go_quiet ((first|(go_at_call 167;first|exact quiet_left (HPL.out _ _)|exact quiet_add_left (HPL.out _ _))|(go_at_call 166;first|exact quiet_left (HFZ.out _)|exact quiet_add_left (HFZ.out _))))
     go_wp2_with (go_at_call 167;refine(HPL.out _ _).mono ?_;rintro e w2 ⟨rfl,rfl⟩)
     obtain⟨g',rfl⟩:∃g',gk=g'+1:=⟨gk - 1,by have:=HG.out;omega⟩
     go_roundg g'
     case measure=>omega
     case rel=>
      refine⟨k+1,by have:=HG.out;omega,HFN'.out,iter_set HIT.out Om _,?_⟩
      have za:∀v u:Nat,True:=fun _ _=>trivial
      refine⟨?_,?_,?_,?_,?_,?_,?_,?_,?_,?_⟩
      ·exact Free.set Si F0.drewN
      ·first|(rw[zf_same fs k hk 65 HT.out];exact Free.same F1.drewN)|(rw[zf_other fs k hk 65 65 HT.out Dc];exact Free.set Si F1.drewN)
      ·first|(rw[zf_same fs k hk 66 HT.out];exact Free.same F2.drewN)|(rw[zf_other fs k hk 65 66 HT.out Dc];exact Free.set Si F2.drewN)
      ·first|(rw[zf_same fs k hk 78 HT.out];exact Free.same F3.drewN)|(rw[zf_other fs k hk 65 78 HT.out Dc];exact Free.set Si F3.drewN)
      ·exact cell_set (by simp;try omega) c0
      ·exact cell_set (by simp;try omega) c1
      ·exact cell_set (by simp;try omega) c2
      ·exact cell_set (by simp;try omega) c3
      ·simp[World.setCell];omega
      ·exact set_free_below (HB.out.drewN1 _) Om _
   ·skip
    obtain⟨wn,hn,tk⟩:=next_ascii wr _ fs k hit hk 66 HT.out Dc
    replace F0:=tk.free F0
    replace F1:=tk.free F1
    replace F2:=tk.free F2
    replace F3:=tk.free F3
    rw[←tk.cell] at c0 c1 c2 c3
    have hbw2:Below w.heap.size w wn:=hbw.trans (tk.below.mono Om)
    obtain⟨F0c,F0f⟩:=id F0
    obtain⟨F1c,F1f⟩:=id F1
    obtain⟨F2c,F2f⟩:=id F2
    obtain⟨F3c,F3f⟩:=id F3
    have HIT:=hide tk.iter
    have hz':=tk.size
    have HB:=hide hbw2
    clear tk hit hbw hbw2
    have HPL:=hide (fun b w=>place_at b 66 2 rfl w)
    cases hff:fineOf op 66 b
    ·have hfz:=fine_any op 66 b
     rw[hff] at hfz
     have HFZ:=hide hfz
     have HR:=hide (show chkI op a b n=3 by rw[HC.out,if_pos (fineTo_false op a b n fs (k+1) (by have h:=HFI.out;rw[HT.out] at h;rw[h];simp[selF,hff]))])
     clear hfz hff
     go_wp2_with fail
     go_quiet ((first|(go_at_call 167;first|exact quiet_left (HPL.out _ _)|exact quiet_add_left (HPL.out _ _))|(go_at_call 166;first|exact quiet_left (HFZ.out _)|exact quiet_add_left (HFZ.out _))))
     go_wp2_with fail
     go_ret
     exact⟨by rw[HR.out];rfl,HB.out.drewN1 _⟩
    ·have hfz:=fine_any op 66 b
     rw[hff] at hfz
     have HFZ:=hide hfz
     have HFN':=hide (show fineTo op a b n fs (k+1)=true by have h:=HFI.out;rw[HT.out] at h;rw[h,HFN.out];simp[selF,hff])
     clear hfz hff
     go_wp2_with fail
     go_quiet ((first|(go_at_call 167;first|exact quiet_left (HPL.out _ _)|exact quiet_add_left (HPL.out _ _))|(go_at_call 166;first|exact quiet_left (HFZ.out _)|exact quiet_add_left (HFZ.out _))))
     go_wp2_with (go_at_call 167;refine(HPL.out _ _).mono ?_;rintro e w2 ⟨rfl,rfl⟩)
     obtain⟨g',rfl⟩:∃g',gk=g'+1:=⟨gk - 1,by have:=HG.out;omega⟩
     go_roundg g'
     case measure=>omega
     case rel=>
      refine⟨k+1,by have:=HG.out;omega,HFN'.out,iter_set HIT.out Om _,?_⟩
      have za:∀v u:Nat,True:=fun _ _=>trivial
      refine⟨?_,?_,?_,?_,?_,?_,?_,?_,?_,?_⟩
      ·exact Free.set Si F0.drewN
      ·first|(rw[zf_same fs k hk 65 HT.out];exact Free.same F1.drewN)|(rw[zf_other fs k hk 66 65 HT.out Dc];exact Free.set Si F1.drewN)
      ·first|(rw[zf_same fs k hk 66 HT.out];exact Free.same F2.drewN)|(rw[zf_other fs k hk 66 66 HT.out Dc];exact Free.set Si F2.drewN)
      ·first|(rw[zf_same fs k hk 78 HT.out];exact Free.same F3.drewN)|(rw[zf_other fs k hk 66 78 HT.out Dc];exact Free.set Si F3.drewN)
      ·exact cell_set (by simp;try omega) c0
      ·exact cell_set (by simp;try omega) c1
      ·exact cell_set (by simp;try omega) c2
      ·exact cell_set (by simp;try omega) c3
      ·simp[World.setCell];omega
      ·exact set_free_below (HB.out.drewN1 _) Om _
   ·skip
    obtain⟨wn,hn,tk⟩:=next_ascii wr _ fs k hit hk 78 HT.out Dc
    replace F0:=tk.free F0
    replace F1:=tk.free F1
    replace F2:=tk.free F2
    replace F3:=tk.free F3
    rw[←tk.cell] at c0 c1 c2 c3
    have hbw2:Below w.heap.size w wn:=hbw.trans (tk.below.mono Om)
    obtain⟨F0c,F0f⟩:=id F0
    obtain⟨F1c,F1f⟩:=id F1
    obtain⟨F2c,F2f⟩:=id F2
    obtain⟨F3c,F3f⟩:=id F3
    have HIT:=hide tk.iter
    have hz':=tk.size
    have HB:=hide hbw2
    clear tk hit hbw hbw2
    have HPL:=hide (fun b w=>place_at b 78 3 rfl w)
    cases hff:fineOf op 78 n
    ·have hfz:=fine_any op 78 n
     rw[hff] at hfz
     have HFZ:=hide hfz
     have HR:=hide (show chkI op a b n=3 by rw[HC.out,if_pos (fineTo_false op a b n fs (k+1) (by have h:=HFI.out;rw[HT.out] at h;rw[h];simp[selF,hff]))])
     clear hfz hff
     go_wp2_with fail
     go_quiet ((first|(go_at_call 167;first|exact quiet_left (HPL.out _ _)|exact quiet_add_left (HPL.out _ _))|(go_at_call 166;first|exact quiet_left (HFZ.out _)|exact quiet_add_left (HFZ.out _))))
     go_wp2_with fail
     go_ret
     exact⟨by rw[HR.out];rfl,HB.out.drewN1 _⟩
    ·have hfz:=fine_any op 78 n
     rw[hff] at hfz
     have HFZ:=hide hfz
     have HFN':=hide (show fineTo op a b n fs (k+1)=true by have h:=HFI.out;rw[HT.out] at h;rw[h,HFN.out];simp[selF,hff])
     clear hfz hff
     go_wp2_with fail
     go_quiet ((first|(go_at_call 167;first|exact quiet_left (HPL.out _ _)|exact quiet_add_left (HPL.out _ _))|(go_at_call 166;first|exact quiet_left (HFZ.out _)|exact quiet_add_left (HFZ.out _))))
     go_wp2_with (go_at_call 167;refine(HPL.out _ _).mono ?_;rintro e w2 ⟨rfl,rfl⟩)
     obtain⟨g',rfl⟩:∃g',gk=g'+1:=⟨gk - 1,by have:=HG.out;omega⟩
     go_roundg g'
     case measure=>omega
     case rel=>
      refine⟨k+1,by have:=HG.out;omega,HFN'.out,iter_set HIT.out Om _,?_⟩
      have za:∀v u:Nat,True:=fun _ _=>trivial
      refine⟨?_,?_,?_,?_,?_,?_,?_,?_,?_,?_⟩
      ·exact Free.set Si F0.drewN
      ·first|(rw[zf_same fs k hk 65 HT.out];exact Free.same F1.drewN)|(rw[zf_other fs k hk 78 65 HT.out Dc];exact Free.set Si F1.drewN)
      ·first|(rw[zf_same fs k hk 66 HT.out];exact Free.same F2.drewN)|(rw[zf_other fs k hk 78 66 HT.out Dc];exact Free.set Si F2.drewN)
      ·first|(rw[zf_same fs k hk 78 HT.out];exact Free.same F3.drewN)|(rw[zf_other fs k hk 78 78 HT.out Dc];exact Free.set Si F3.drewN)
      ·exact cell_set (by simp;try omega) c0
      ·exact cell_set (by simp;try omega) c1
      ·exact cell_set (by simp;try omega) c2
      ·exact cell_set (by simp;try omega) c3
      ·simp[World.setCell];omega
      ·exact set_free_below (HB.out.drewN1 _) Om _
  ·obtain rfl:k=fs.size:=by omega
   have hn:=next_done wr _ fs fs.size hit Om
   obtain⟨F0c,F0f⟩:=id F0
   obtain⟨F1c,F1f⟩:=id F1
   obtain⟨F2c,F2f⟩:=id F2
   obtain⟨F3c,F3f⟩:=id F3
   have HR:=hide (HC.out)
   rw[if_neg (by rw[hfine];simp)] at HR
   clear hfine hg F0 F1 F2 F3
   generalize zf fs fs.size 65 a=za at*
   generalize zf fs fs.size 66 b=zb at*
   generalize zf fs fs.size 78 n=zn at*
   go_wp2_with fail
   all_goals
    go_ret
    refine⟨?_,hbw⟩
    rw[HR.out]
    first|(rw[if_pos (by simp[*])];rfl)|(rw[if_neg (by simp_all)];rfl)
theorem isaCheck_none(op a b n:Int)(h:¬(1≤op∧op≤15))(w:World):Calls Tryz.prog 130 #[.agg #[.int .i64 op,.int .i64 a,.int .i64 b,.int .i64 n]] w fun e w'=>e=.returned (.int .i64 4)∧Below w.heap.size w w':=by
 have HO:=hide (of_none op h)
 clear h
 go_enter Tryz.func130,Tryz.ntmps130
 go_wp2_with (first
  |(go_at_call 165;refine(HO.out _).mono ?_;rintro e w1 ⟨rfl,hb⟩;obtain⟨hc1,hf1⟩:=bcell hb;(try simp only[World.heap_drewN,World.cell?_drewN,World.frozen?_drewN] at hc1 hf1);have hs1:=hb.size;(try simp at hs1);have z0w1:w.heap.size<w1.heap.size:=Om))
 go_ret
 exact⟨rfl,Bl⟩
theorem isaCheck_any(op a b n:Int)(w:World):Calls Tryz.prog 130 #[.agg #[.int .i64 op,.int .i64 a,.int .i64 b,.int .i64 n]] w fun e w'=>e=.returned (.int .i64 (chkI op a b n))∧Below w.heap.size w w':=by
 by_cases h:1≤op∧op≤15
 ·exact isaCheck_is op a b n h w
 ·have e:chkI op a b n=4:=by unfold chkI;rw[if_pos h]
  rw[e]
  exact isaCheck_none op a b n h w
end
section
open Go.RowKit
def chkIns(i:Ins):Int:=chkI i.op i.a i.b i.n
def firstErr:List Ins→Int
 |[]=>0
 |i::r=>if chkIns i=0 then firstErr r else chkIns i
def chkCode(l:List Ins):Int:=if l.length<1∨20<l.length then 2 else firstErr l
theorem firstErr_drop(l:List Ins)(k:Nat)(hk:k<l.length):firstErr (l.drop k)=if chkIns l[k]=0 then firstErr (l.drop (k+1)) else chkIns l[k]:=by
 rw[List.drop_eq_getElem_cons hk];rfl
set_option maxRecDepth 100000 in
set_option maxHeartbeats 1000000 in
theorem codeCheck_right(v:Value)(l:List Ins)(w:World)(hv:Code_ w v l)(h1:1≤l.length)(h2:l.length≤20):
  Calls Tryz.prog 90 #[v] w fun e w'=>e=.returned (.int .i64 (firstErr l))∧Below w.heap.size w w':=by
 obtain⟨A,c,rfl,hc,hm,hr⟩:=hv
 obtain⟨m,hml⟩:∃m,l.length=m:=⟨_,rfl⟩
 rw[hml] at h1 h2⊢
 have HR:=hide hr
 have HM:=hide hml
 clear hr hml hc hm
 have d1:decide ((m:Int)<1)=false:=by simp;omega
 have d2:decide (20<(m:Int))=false:=by simp;omega
 go_enter Tryz.func90,Tryz.ntmps90
 go_wp2_with fail
 go_loopg [16] m (fun g i wr=>∃k:Nat,g+k=m∧i=.int .i64 k∧firstErr l=firstErr (l.drop k)∧Below w.heap.size w wr)
 case atStart=>exact⟨0,by omega,rfl,by simp,Below.refl _ _⟩
 case round=>
  obtain⟨k,hg,rfl,hfe,hbw⟩:=hrel
  by_cases hk:k<m
  ·have hkl:k<l.length:=by have:=HM.out;omega
   obtain⟨ad,rfl,hcell0,hcell⟩:=flat_at Ins.cells_len HR.out hkl
   have hd:=firstErr_drop l k hkl
   generalize l[k]=i at*
   have c0:=cell_below hbw (hcell0 _ rfl)
   have c1:=cell_below hbw (hcell 0 _ rfl)
   have c2:=cell_below hbw (hcell 1 _ rfl)
   have c3:=cell_below hbw (hcell 2 _ rfl)
   have HFE:=hide (hfe.trans hd)
   have HG:=hide hg
   have HB:=hide hbw
   clear hcell hcell0 hd hfe hg hbw
   have hci:=fun w=>isaCheck_any i.op i.a i.b i.n w
   by_cases hi:chkIns i=0
   ·rw[show chkI i.op i.a i.b i.n=0 from hi] at hci
    have HCI:=hide hci
    have HI:=hide hi
    clear hci hi
    go_wp2_with (go_at_call 130;refine(HCI.out _).mono ?_;rintro e w1 ⟨rfl,hb⟩;obtain⟨hc1,hf1⟩:=bcell hb;(try simp only[World.heap_drewN,World.cell?_drewN,World.frozen?_drewN] at hc1 hf1);have hs1:=hb.size;(try simp at hs1))
    obtain⟨g',rfl⟩:∃g',gk=g'+1:=⟨gk - 1,by have:=HG.out;omega⟩
    go_roundg g'
    case measure=>omega
    case rel=>
     have hbw:=HB.out
     exact⟨k+1,by have:=HG.out;omega,by go_num,by rw[HFE.out,if_pos HI.out],Bl⟩
   ·have hi':(chkI i.op i.a i.b i.n != 0)=true:=by simpa[chkIns] using hi
    have HCI:=hide hci
    have HI:=hide (show firstErr l=chkI i.op i.a i.b i.n by rw[HFE.out,if_neg hi];rfl)
    clear hci hi
    go_wp2_with (go_at_call 130;refine(HCI.out _).mono ?_;rintro e w1 ⟨rfl,hb⟩;obtain⟨hc1,hf1⟩:=bcell hb;(try simp only[World.heap_drewN,World.cell?_drewN,World.frozen?_drewN] at hc1 hf1);have hs1:=hb.size;(try simp at hs1))
    go_ret
    have hbw:=HB.out
    exact⟨by rw[HI.out];rfl,Bl⟩
  ·have HFE:=hide (show firstErr l=0 by rw[hfe,List.drop_of_length_le (by have:=HM.out;omega)];rfl)
   clear hfe
   go_wp2_with fail
   go_ret
   exact⟨by rw[HFE.out];rfl,hbw⟩
set_option maxRecDepth 100000 in
theorem codeCheck_any(v:Value)(l:List Ins)(w:World)(hv:Code_ w v l):
  Calls Tryz.prog 90 #[v] w fun e w'=>e=.returned (.int .i64 (chkCode l))∧Below w.heap.size w w':=by
 by_cases h1:l.length<1∨20<l.length
 ·rw[show chkCode l=2 from if_pos h1]
  obtain⟨A,c,rfl,hc,hm,-⟩:=hv
  generalize l.length=m at*
  rcases Nat.lt_or_ge m 1 with h|h
  ·have d1:decide ((m:Int)<1)=true:=by simp;omega
   clear h1
   go_enter Tryz.func90,Tryz.ntmps90
   go_wp2_with fail
   go_ret
   exact⟨rfl,Bl⟩
  ·have d1:decide ((m:Int)<1)=false:=by simp;omega
   have d2:decide (20<(m:Int))=true:=by simp;omega
   clear h1
   go_enter Tryz.func90,Tryz.ntmps90
   go_wp2_with fail
   go_ret
   exact⟨rfl,Bl⟩
 ·rw[show chkCode l=firstErr l from if_neg h1]
  exact codeCheck_right v l w hv Om Om
end
end Go.Proofs.YtndcjmopebcdgaaGreatDoor
