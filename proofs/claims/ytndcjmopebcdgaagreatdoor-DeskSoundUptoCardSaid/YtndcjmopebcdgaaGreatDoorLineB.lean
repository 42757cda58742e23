/- slices.Clone hands back a row of its own that holds what came in. chans chans.Put and chans.Get answer by plain functions of the line's numbers. chans.Get answers by a plain function of the line's numbers. The reference's CheckLine, PutOf and GetOf answer by the same plain functions. -/
import Derived.Test.YtndcjmopebcdgaaGreatDoorProg
import Derived.Test.YtndcjmopebcdgaaGreatDoorBase
import Derived.Deep.RegionWith
import Derived.Deep.RegionHeld3
import Derived.Deep.DeepCutAuto
import Derived.Deep.RegionLaw
set_option linter.unusedSimpArgs false
set_option linter.unusedVariables false
namespace Go.Proofs.YtndcjmopebcdgaaGreatDoor
section
open Go.RowKit
theorem info_int:(Tryz.prog.info? 3).map (fun i=>(i.zero,i.size,i.bytes))=some (some (.int .i64 0),1,8):=by kernel_rfl
theorem cloneInt_info:(Tryz.prog.info? 3).map (fun i=>(i.zero,i.size,i.bytes))=some (some (.int .i64 0),1,8):=by kernel_rfl
set_option maxHeartbeats 400000 in
theorem cloneInt_row(Ad:Option Addr)(n c:Nat)(xs:List Value)(w:World)(hr:RowAt w 1 Ad n xs)(h1:∀u∈xs,u.oneCell'=true)(hm:n≤maxLen)(hby:n*8≤140737488355328)(hc:n≤c):
  Calls Tryz.prog 84 #[.slice Ad n c] w fun e w'=>∃A' c',e=.returned (.slice A' n c')∧w'.ownsRow w.heap.size 3 1 (.slice A' n c') n xs∧Below w.heap.size w w':=by
 obtain⟨i0,hi0,hz0,hz1,hz2⟩:=info_parts cloneInt_info
 cases Ad with
 |none=>
  have hn:n=0:=by
   rcases Nat.eq_zero_or_pos n with h0|h0
   ·exact h0
   ·obtain⟨ad,h,_⟩:=hr.2 h0
    cases h
  subst hn
  have hx:xs=[]:=List.eq_nil_of_length_eq_zero (by simpa using hr.1)
  subst hx
  have he:=fun w=>Lib.run_eql_slice_nil (P:=Tryz.prog) w 41 _ none 0 c 0 0 Tryz.underlying41
  go_enter Tryz.func84,Tryz.ntmps84
  go_wp2_with fail
  go_ret
  exact⟨_,_,rfl,World.ownsRow_nil _ _ _ _,Below.refl _ _⟩
 |some ad=>
  have he:=fun w=>Lib.run_eql_slice_nil (P:=Tryz.prog) w 41 _ (some ad) n c 0 0 Tryz.underlying41
  have hr':=hr.below ((Below.refl w.heap.size w).alloc (Nat.le_refl _) (.cells #[] 3))
  go_enter Tryz.func84,Tryz.ntmps84
  go_wp2_with (at_builtin;refine wpList_append_row _ rfl _ _ _ rfl w.heap.size 3 i0 _ 1 8 Tryz.underlying41 hi0 hz0 hz1 hz2 rfl Om _ 0 [] rfl (ownsRow_empty w 3 1) (some ad) n c xs rfl hr' h1 n xs Om rfl Om Om Si ?_;intro A1 c1 w1 hown1 hg1 hat1)
  go_ret
  have hb:=below_grown (w0:=w) ((Below.refl w.heap.size w).alloc (Nat.le_refl _) _) (ownsRow_empty w 3 1) (Nat.le_refl _) hg1
  exact⟨A1,c1,rfl,hown1,hb⟩
theorem cloneInt_any{w:World}{v:Value}{l:List Int}(h:Ints w v l)(hs:l.length≤1048576):
  Calls Tryz.prog 84 #[v] w fun e w'=>∃A' c',e=.returned (.slice A' l.length c')∧w'.ownsRow w.heap.size 3 1 (.slice A' l.length c') l.length (l.map (.int .i64))∧Below w.heap.size w w':=by
 obtain⟨A,c,rfl,hc,hm,hr⟩:=h
 exact cloneInt_row A _ c _ w hr (oneCell_ints l) Om Om hc
end
section
open Go.RowKit
def roomOf(k:Int):Int:=if k=1 then 1 else if k=2 then 3 else 0
def roomIs(k:Int):Bool:=decide (k=1∨k=2)
theorem zero_int(w:World):(zeroValue 3).run Tryz.prog w=.ok (.int .i64 0) w:=by kernel_rfl
set_option maxRecDepth 20000 in
set_option maxHeartbeats 400000 in
theorem room_any(k:Int)(w:World):
  Calls Tryz.prog 174 #[.int .i64 k] w fun e w'=>e=.returned (.tuple #[.int .i64 (roomOf k),.bool (roomIs k)])∧Below w.heap.size w w':=by
 have hmm:=@run_makeMap Tryz.prog
 have i1:=fun w=>run_insert_new (P:=Tryz.prog) Tryz.underlying171 Tryz.underlying3 1 (.int .i64 1) #[] 0 rfl w
 have i2:=fun w=>run_insert_new (P:=Tryz.prog) Tryz.underlying171 Tryz.underlying3 2 (.int .i64 3) #[⟨.int .i64 1,.int .i64 1,0⟩] 1 rfl w
 by_cases h1:k=1
 ·subst h1
  have l:=fun w=>run_lookup_new (P:=Tryz.prog) Tryz.underlying171 Tryz.underlying3 1 #[⟨.int .i64 1,.int .i64 1,0⟩,⟨.int .i64 2,.int .i64 3,1⟩] 2 w (i:=0) (v:=.int .i64 1) rfl
  go_enter Tryz.func174,Tryz.ntmps174
  go_wp2_with fail
  go_ret2
  exact⟨rfl,(Below.refl _ _).alloc (Nat.le_refl _) _⟩
 by_cases h2:k=2
 ·subst h2
  have l:=fun w=>run_lookup_new (P:=Tryz.prog) Tryz.underlying171 Tryz.underlying3 2 #[⟨.int .i64 1,.int .i64 1,0⟩,⟨.int .i64 2,.int .i64 3,1⟩] 2 w (i:=1) (v:=.int .i64 3) rfl
  go_enter Tryz.func174,Tryz.ntmps174
  go_wp2_with fail
  go_ret2
  exact⟨rfl,(Below.refl _ _).alloc (Nat.le_refl _) _⟩
 ·have b1:(k==1)=false:=by simpa using h1
  have b2:(k==2)=false:=by simpa using h2
  have l:=fun w=>run_lookup_new_none (P:=Tryz.prog) Tryz.underlying171 Tryz.underlying3 k #[⟨.int .i64 1,.int .i64 1,0⟩,⟨.int .i64 2,.int .i64 3,1⟩] 2 w zero_int (by simp[Instr.findNow,Instr.sameNow,b1,b2])
  have e1:roomOf k=0:=by simp[roomOf,h1,h2]
  have e2:roomIs k=false:=by simp[roomIs,h1,h2]
  rw[e1,e2]
  clear h1 h2 e1 e2 b1 b2
  go_enter Tryz.func174,Tryz.ntmps174
  go_wp2_with fail
  go_ret2
  exact⟨rfl,(Below.refl _ _).alloc (Nat.le_refl _) _⟩
def chkLine(k:Int)(n:Nat):Int:=if roomIs k=true then(if roomOf k<(n:Int) then 2 else 0) else 4
set_option maxHeartbeats 400000 in
theorem chansCheck_any(k:Int)(v:Value)(l:List Int)(w:World)(hv:Ints w v l):
  Calls Tryz.prog 139 #[.int .i64 k,.agg #[v]] w fun e w'=>e=.returned (.int .i64 (chkLine k l.length))∧Below w.heap.size w w':=by
 obtain⟨A,c,rfl,-,-,-⟩:=hv
 obtain⟨n,hn⟩:∃n,l.length=n:=⟨_,rfl⟩
 rw[hn]
 clear hn
 cases hk:roomIs k with
 |false=>
  have e:chkLine k n=4:=by simp[chkLine,hk]
  rw[e]
  clear e
  go_enter Tryz.func139,Tryz.ntmps139
  go_wp2_with (go_at_call 174;refine(room_any _ _).mono ?_;rintro e w1 ⟨rfl,hb⟩)
  go_ret
  exact⟨rfl,Bl⟩
 |true=>
  by_cases hl:roomOf k<(n:Int)
  ·have e:chkLine k n=2:=by simp[chkLine,hk,hl]
   rw[e]
   clear e
   go_enter Tryz.func139,Tryz.ntmps139
   go_wp2_with (go_at_call 174;refine(room_any _ _).mono ?_;rintro e w1 ⟨rfl,hb⟩;obtain⟨hc,-⟩:=bcell hb)
   go_ret
   exact⟨rfl,Bl⟩
  ·have e:chkLine k n=0:=by simp[chkLine,hk,hl]
   rw[e]
   clear e
   go_enter Tryz.func139,Tryz.ntmps139
   go_wp2_with (go_at_call 174;refine(room_any _ _).mono ?_;rintro e w1 ⟨rfl,hb⟩;obtain⟨hc,-⟩:=bcell hb)
   go_ret
   exact⟨rfl,Bl⟩
end
section
open Go.RowKit
def putOf(k:Int)(l:List Int)(x:Int):List Int×Bool×Int:=
 if chkLine k l.length=0 then(if k=1 then([x],true,0) else if l.length<3 then(l++[x],true,0) else(l,false,0)) else([],false,chkLine k l.length)
theorem chk_zero{k:Int}{n:Nat}(h:chkLine k n=0):(k=1∧n≤1)∨(k=2∧n≤3):=by
 unfold chkLine roomIs roomOf at h
 by_cases h1:k=1
 ·subst h1;simp at h;omega
 ·by_cases h2:k=2
  ·subst h2;simp at h;omega
  ·simp[h1,h2] at h
def LineBack(w0:World)(r:List Int×Bool×Int)(e:Ending)(w':World):Prop:=
 ∃v,e=.returned (.tuple #[.agg #[v],.bool r.2.1,.int .i64 r.2.2])∧OwnInts w' w0.heap.size v r.1∧Below w0.heap.size w0 w'
set_option maxRecDepth 100000 in
set_option maxHeartbeats 1000000 in
theorem put_any(k x:Int)(v:Value)(l:List Int)(w:World)(hv:Ints w v l):
  Calls Tryz.prog 104 #[.int .i64 k,.agg #[v],.int .i64 x] w (LineBack w (putOf k l x)):=by
 by_cases h0:chkLine k l.length=0
 ·obtain⟨i0,hi0,hz0,hz1,hz2⟩:=info_parts info_int
  have hvw:=hv.below ((Below.refl w.heap.size w).alloc1 (.cells #[v] 195))
  have hvw2:=hvw.below ((Below.refl _ _).alloc1 (.cells #[.slice none 0 0] 195))
  obtain⟨n,hn⟩:∃n,l.length=n:=⟨_,rfl⟩
  have hc1:=chansCheck_any k _ l _ hvw2
  rw[h0] at hc1
  have HC1:=hide hc1
  have hlen:=chk_zero h0
  have hcl:=fun w1 (hb:Below _ _ w1)=>cloneInt_any (hvw2.below hb) Om
  rw[hn] at hcl hlen
  have HCL:=hide hcl
  clear hc1 hcl hv hvw hvw2
  rcases hlen with⟨rfl,hl⟩|⟨rfl,hl⟩
  ·have e:putOf 1 l x=([x],true,0):=by simp[putOf,h0]
   rw[e]
   clear e h0 hn
   go_enter Tryz.func104,Tryz.ntmps104
   go_wp2_with (first
    |(go_at_call 139;refine HC1.out.mono ?_;rintro e w1 ⟨rfl,hb⟩;obtain⟨hc1,hf1⟩:=bcell hb;(try simp only[World.heap_drewN,World.cell?_drewN,World.frozen?_drewN] at hc1 hf1);have hs1:=hb.size;(try simp at hs1);have z0w1:w.heap.size<w1.heap.size:=Om;have z1w1:w.heap.size+1<w1.heap.size:=Om)
    |(go_at_call 84;refine(HCL.out _ hb).mono ?_;rintro e w2 ⟨A2,c2,rfl,hown2,hb2⟩;obtain⟨hc2,hf2⟩:=bcell hb2;(try simp only[World.heap_drewN,World.cell?_drewN,World.frozen?_drewN] at hc2 hf2);have hs2:=hb2.size;(try simp at hs2);have z0w2:w.heap.size<w2.heap.size:=Om;have z1w2:w.heap.size+1<w2.heap.size:=Om)
    |(at_builtin;refine wpList_append_row _ rfl _ _ _ rfl w2.heap.size 3 i0 _ 1 8 Tryz.underlying41 hi0 hz0 hz1 hz2 rfl Om (.slice none 0 0) 0 [] rfl (World.ownsRow_nil _ _ _ _) (some ⟨w2.heap.size,0,none⟩) 1 1 [.int .i64 x] rfl (RowAt.new w2 #[.int .i64 x] 3 1 1 rfl) (oneCell_ints [x]) 1 [.int .i64 x] rfl rfl (by unfold maxLen;omega) Om Si ?_;intro A3 c3 w3 hown3 hg3 hat3;have hb3:=below_grown (w0:=w2) ((Below.refl _ w2).alloc1 _) (World.ownsRow_nil _ w2.heap.size 3 1) (Nat.le_refl _) hg3;obtain⟨hc3,hf3⟩:=bcell hb3;(try simp only[World.heap_drewN,World.cell?_drewN,World.frozen?_drewN] at hc3 hf3);have hs3:=hb3.size;(try simp at hs3);have z0w3:w.heap.size<w3.heap.size:=Om;have z1w3:w.heap.size+1<w3.heap.size:=Om))
   refine bodyPost_ret (v:=.tuple #[.agg #[.slice A3 1 c3],.bool true,.int .i64 0]) ?_ rfl ?_
   ·simp[results,Tryz.results104,go_sem, *]
   refine⟨_,rfl,OwnInts.of_own (l:=[x]) (ownsRow_setCell_below hown3 z1w2 _) Om,Bl⟩
  ·have h0':=h0
   rw[hn] at h0'
   by_cases h3:n<3
   ·have e:putOf 2 l x=(l++[x],true,0):=by simp[putOf,h0',hn,h3]
    rw[e]
    clear e h0 h0'
    have HN:=hide hn
    have hd:decide ((n:Int)<3)=true:=by simp;omega
    have hmp:(l++[x]).map (Value.int .i64)=l.map (.int .i64)++[.int .i64 x]:=by simp
    clear hn
    go_enter Tryz.func104,Tryz.ntmps104
    go_wp2_with (first
     |(go_at_call 139;refine HC1.out.mono ?_;rintro e w1 ⟨rfl,hb⟩;obtain⟨hc1,hf1⟩:=bcell hb;(try simp only[World.heap_drewN,World.cell?_drewN,World.frozen?_drewN] at hc1 hf1);have hs1:=hb.size;(try simp at hs1);have z0w1:w.heap.size<w1.heap.size:=Om;have z1w1:w.heap.size+1<w1.heap.size:=Om)
     |(go_at_call 84;refine(HCL.out _ hb).mono ?_;rintro e w2 ⟨A2,c2,rfl,hown2,hb2⟩;obtain⟨hc2,hf2⟩:=bcell hb2;(try simp only[World.heap_drewN,World.cell?_drewN,World.frozen?_drewN] at hc2 hf2);have hs2:=hb2.size;(try simp at hs2);have z0w2:w.heap.size<w2.heap.size:=Om;have z1w2:w.heap.size+1<w2.heap.size:=Om)
     |(at_builtin;refine wpList_append_row _ rfl _ _ _ rfl w1.heap.size 3 i0 _ 1 8 Tryz.underlying41 hi0 hz0 hz1 hz2 rfl Om _ n _ rfl (hown2.alloc _) (some ⟨w2.heap.size,0,none⟩) 1 1 [.int .i64 x] rfl (RowAt.new w2 #[.int .i64 x] 3 1 1 rfl) (oneCell_ints [x]) (n+1) _ rfl rfl (by unfold maxLen;omega) Om (by simp;omega) ?_;intro A3 c3 w3 hown3 hg3 hat3;have hb3:=below_grown (w0:=w1) (hb2.alloc1 _) (hown2.alloc _) (Nat.le_refl _) hg3;obtain⟨hc3,hf3⟩:=bcell hb3;(try simp only[World.heap_drewN,World.cell?_drewN,World.frozen?_drewN] at hc3 hf3);have hs3:=hb3.size;(try simp at hs3);have z0w3:w.heap.size<w3.heap.size:=Om;have z1w3:w.heap.size+1<w3.heap.size:=Om))
    refine bodyPost_ret (v:=.tuple #[.agg #[.slice A3 (n+1) c3],.bool true,.int .i64 0]) ?_ rfl ?_
    ·simp[results,Tryz.results104,go_sem, *]
    refine⟨_,rfl,OwnInts.of_own (l:=l++[x]) (by rw[hmp];exact ownsRow_setCell_below hown3 z1w1 _) Om,Bl⟩
   ·have e:putOf 2 l x=(l,false,0):=by simp[putOf,h0',hn,h3]
    rw[e]
    clear e h0 h0' hn
    have hd:decide ((n:Int)<3)=false:=by simp;omega
    go_enter Tryz.func104,Tryz.ntmps104
    go_wp2_with (first
     |(go_at_call 139;refine HC1.out.mono ?_;rintro e w1 ⟨rfl,hb⟩;obtain⟨hc1,hf1⟩:=bcell hb;(try simp only[World.heap_drewN,World.cell?_drewN,World.frozen?_drewN] at hc1 hf1);have hs1:=hb.size;(try simp at hs1);have z0w1:w.heap.size<w1.heap.size:=Om;have z1w1:w.heap.size+1<w1.heap.size:=Om)
     |(go_at_call 84;refine(HCL.out _ hb).mono ?_;rintro e w2 ⟨A2,c2,rfl,hown2,hb2⟩;obtain⟨hc2,hf2⟩:=bcell hb2;(try simp only[World.heap_drewN,World.cell?_drewN,World.frozen?_drewN] at hc2 hf2);have hs2:=hb2.size;(try simp at hs2);have z0w2:w.heap.size<w2.heap.size:=Om;have z1w2:w.heap.size+1<w2.heap.size:=Om))
    refine bodyPost_ret (v:=.tuple #[.agg #[.slice A2 n c2],.bool false,.int .i64 0]) ?_ rfl ?_
    ·simp[results,Tryz.results104,go_sem, *]
    refine⟨_,rfl,OwnInts.of_own (ownsRow_setCell_below hown2 z1w1 _) Om,Bl⟩
 ·have e:putOf k l x=([],false,chkLine k l.length):=by simp[putOf,h0]
  rw[e]
  clear e
  have hne:(chkLine k l.length != 0)=true:=by simpa using h0
  clear h0
  have hvw:=hv.below ((Below.refl w.heap.size w).alloc1 (.cells #[v] 195))
  have hvw2:=hvw.below ((Below.refl _ _).alloc1 (.cells #[.slice none 0 0] 195))
  go_enter Tryz.func104,Tryz.ntmps104
  go_wp2_with (go_at_call 139;refine(chansCheck_any _ _ _ _ hvw2).mono ?_;rintro e w1 ⟨rfl,hb⟩;obtain⟨hc1,hf1⟩:=bcell hb;(try simp only[World.heap_drewN,World.cell?_drewN,World.frozen?_drewN] at hc1 hf1);have hs1:=hb.size;(try simp at hs1);have z0w1:w.heap.size<w1.heap.size:=Om;have z1w1:w.heap.size+1<w1.heap.size:=Om)
  exact bodyPost_ret (v:=.tuple #[.agg #[.slice none 0 0],.bool false,.int .i64 (chkLine k l.length)]) (by simp[results,Tryz.results104,go_sem, *]) rfl ⟨_,rfl,OwnInts.nil_,Bl⟩
end
section
open Go.RowKit
def getOf(k:Int)(l:List Int):List Int×Int×Bool×Int:=
 if chkLine k l.length=0 then(match l with|[]=>([],0,false,0)|x::r=>(if k=2 then r else x::r,x,true,0)) else([],0,false,chkLine k l.length)
def LineNumBack(w0:World)(r:List Int×Int×Bool×Int)(e:Ending)(w':World):Prop:=
 ∃v,e=.returned (.tuple #[.agg #[v],.int .i64 r.2.1,.bool r.2.2.1,.int .i64 r.2.2.2])∧OwnInts w' w0.heap.size v r.1∧Below w0.heap.size w0 w'
theorem ints_tail{w:World}{ad:Addr}{c:Nat}{x:Int}{r:List Int}(h:RowAt w 1 (some ad) (x::r).length ((x::r).map (.int .i64)))(hc:(x::r).length≤c)(hm:c≤maxLen):
  (c=1→Ints w (.slice (some ad) r.length 0) r)∧(¬c=1→Ints w (.slice (some ⟨ad.block,ad.off+1,none⟩) r.length (c - 1)) r):=by
 have hcut:=h.cut (k:=1) Si hc
 have hl:(x::r).length - 1=r.length:=by simp
 rw[hl] at hcut
 simp only[List.length_cons] at hc
 refine⟨fun e=>?_,fun e=>?_⟩
 ·rw[if_pos e] at hcut
  exact⟨_,0,rfl,by omega,by omega,hcut⟩
 ·rw[if_neg e] at hcut
  exact⟨_,c - 1,rfl,by omega,by omega,hcut⟩
set_option maxRecDepth 100000 in
set_option maxHeartbeats 1000000 in
theorem get_more(k x:Int)(v:Value)(r l':List Int)(w:World)(hk:k=1∧l'=x::r∨k=2∧l'=r)(h0:chkLine k (x::r).length=0)(hv:Ints w v (x::r)):
  Calls Tryz.prog 105 #[.int .i64 k,.agg #[v]] w (LineNumBack w (l',x,true,0)):=by
 have hvw:=hv.below ((Below.refl w.heap.size w).alloc1 (.cells #[v] 195))
 have hvw2:=hvw.below ((Below.refl _ _).alloc1 (.cells #[.slice none 0 0] 195))
 have hc1:=chansCheck_any k _ _ _ hvw2
 rw[h0] at hc1
 have HC1:=hide hc1
 have hlen:l'.length≤3:=by
  have:=chk_zero h0
  simp only[List.length_cons] at this
  rcases hk with⟨_,rfl⟩|⟨_,rfl⟩
  ·simp only[List.length_cons];omega
  ·omega
 have HV:=hide hv
 clear hc1 h0
 obtain⟨A,c,rfl,hc,hm,hr⟩:=hv
 obtain⟨ad,rfl,hca⟩:=ints_at hr (k:=0) Si
 have e0:ad.add 0=ad:=by simp[Addr.add]
 rw[e0] at hca
 simp only[List.getElem_cons_zero] at hca
 have hne1:=new_ne hca 1 0
 have HT:=hide (ints_tail hr hc hm)
 clear hr e0 hvw hvw2
 have hl1:(x::r).length=r.length+1:=rfl
 generalize (x::r).length=n at*
 have hn0:((n:Int)==0)=false:=by simp;omega
 have hnp:0<n:=by omega
 have HN:=hide hl1
 clear hl1
 go_enter Tryz.func105,Tryz.ntmps105
 go_upto_if 25 with(first
  |(go_at_call 139;refine HC1.out.mono ?_;rintro e w1 ⟨rfl,hb⟩;obtain⟨hc1,hf1⟩:=bcell hb;(try simp only[World.heap_drewN,World.cell?_drewN,World.frozen?_drewN] at hc1 hf1);have hs1:=hb.size;(try simp at hs1);have z0w1:w.heap.size<w1.heap.size:=Om;have z1w1:w.heap.size+1<w1.heap.size:=Om))
 have hbw:Below w.heap.size w w1:=Bl
 have hcw1:w1.cell? ad=some (.int .i64 x):=cell_below hbw hca
 obtain⟨m,hm'⟩:∃m,l'.length=m:=⟨_,rfl⟩
 have HM:=hide hm'
 clear hm'
 go_cut [9] (fun s9 wx=>∃A' c',s9=.slice A' m c'∧Ints w (.slice A' m c') l'∧wx=w1)
 case first=>
  rcases hk with⟨rfl,rfl⟩|⟨rfl,rfl⟩
  ·obtain rfl:m=n:=by have h1:=HM.out;have h2:=HN.out;simp only[List.length_cons] at h1;omega
   go_wp2
   go_meet
   exact⟨_,_,rfl,HV.out,rfl⟩
  ·have hn1:n - 1=m:=by have h1:=HM.out;have h2:=HN.out;omega
   have HN1:=hide hn1
   clear hn1
   by_cases hc':c=1
   ·have h:=hide (HT.out.1 hc')
    subst hc'
    obtain rfl:m=0:=by have:=HN1.out;omega
    go_wp2
    go_meet
    exact⟨_,_,rfl,by have h:=h.out;rw[HM.out] at h;exact h,rfl⟩
   ·have h:=hide (HT.out.2 hc')
    go_wp2
    go_meet
    exact⟨_,_,by rw[HN1.out],by have h:=h.out;rw[HM.out] at h;exact h,rfl⟩
 case rest=>
  obtain⟨A',c',rfl,hv',rfl⟩:=hcut
  have hcl:=fun q=>cloneInt_any (w:=wc.drewN q) ((hv'.below hbw).keep fun _ _ h=>h) Om
  rw[HM.out] at hcl
  have HCL:=hide hcl
  clear hcl HT HV HC1
  go_wp2_with fail
  go_region_with (go_at_call 84;refine(HCL.out _).mono ?_;rintro e w2 ⟨A2,c2,rfl,hown2,hb2⟩;have hcw2:w2.cell? ad=some (.int .i64 x):=cell_below hb2 hcw1;obtain⟨hc2,hf2⟩:=bcell hb2;(try simp only[World.heap_drewN,World.cell?_drewN,World.frozen?_drewN] at hc2 hf2);have hs2:=hb2.size;(try simp at hs2);have z0w2:w.heap.size<w2.heap.size:=Om;have z1w2:w.heap.size+1<w2.heap.size:=Om)
  all_goals
   go_wp2
   refine bodyPost_ret (v:=.tuple #[.agg #[.slice A2 m c2],.int .i64 x,.bool true,.int .i64 0]) ?_ rfl ?_
   ·simp[results,Tryz.results105,go_sem, *]
   refine⟨_,rfl,OwnInts.of_own (ownsRow_setCell_below hown2 z1w1 _) (by simp only[World.heap_drewN];omega),Bl⟩
set_option maxRecDepth 100000 in
set_option maxHeartbeats 1000000 in
theorem get_any(k:Int)(v:Value)(l:List Int)(w:World)(hv:Ints w v l):
  Calls Tryz.prog 105 #[.int .i64 k,.agg #[v]] w (LineNumBack w (getOf k l)):=by
 have hvw:=hv.below ((Below.refl w.heap.size w).alloc1 (.cells #[v] 195))
 have hvw2:=hvw.below ((Below.refl _ _).alloc1 (.cells #[.slice none 0 0] 195))
 have hc1:=chansCheck_any k _ l _ hvw2
 by_cases h0:chkLine k l.length=0
 ·cases l with
  |cons x r=>
   have hl:=chk_zero h0
   have e:getOf k (x::r)=(if k=2 then r else x::r,x,true,0):=by simp only[getOf,if_pos h0]
   rw[e]
   rcases hl with⟨rfl,-⟩|⟨rfl,-⟩
   ·exact get_more 1 x v r (x::r) w (.inl ⟨rfl,rfl⟩) h0 hv
   ·exact get_more 2 x v r r w (.inr ⟨rfl,rfl⟩) h0 hv
  |nil=>
   rw[h0] at hc1
   have HC1:=hide hc1
   have e:getOf k []=([],0,false,0):=by simp only[getOf,if_pos h0]
   rw[e]
   clear hvw2 hvw h0 hc1 e
   obtain⟨A,c,rfl,-,-,-⟩:=hv
   go_enter Tryz.func105,Tryz.ntmps105
   go_wp2_with (first
    |(go_at_call 139;refine HC1.out.mono ?_;rintro e w1 ⟨rfl,hb⟩;obtain⟨hc1,hf1⟩:=bcell hb;(try simp only[World.heap_drewN,World.cell?_drewN,World.frozen?_drewN] at hc1 hf1);have hs1:=hb.size;(try simp at hs1);have z0w1:w.heap.size<w1.heap.size:=Om;have z1w1:w.heap.size+1<w1.heap.size:=Om))
   refine bodyPost_ret (v:=.tuple #[.agg #[.slice none 0 0],.int .i64 0,.bool false,.int .i64 0]) ?_ rfl ?_
   ·simp[results,Tryz.results105,go_sem, *]
   refine⟨_,rfl,OwnInts.nil_,Bl⟩
 ·have e:getOf k l=([],0,false,chkLine k l.length):=by simp only[getOf,if_neg h0]
  rw[e]
  clear e
  have HC1:=hide hc1
  have hne:(chkLine k l.length != 0)=true:=by simpa using h0
  clear h0 hc1
  go_enter Tryz.func105,Tryz.ntmps105
  go_wp2_with (first
   |(go_at_call 139;refine HC1.out.mono ?_;rintro e w1 ⟨rfl,hb⟩;obtain⟨hc1,hf1⟩:=bcell hb;(try simp only[World.heap_drewN,World.cell?_drewN,World.frozen?_drewN] at hc1 hf1);have hs1:=hb.size;(try simp at hs1);have z0w1:w.heap.size<w1.heap.size:=Om;have z1w1:w.heap.size+1<w1.heap.size:=Om))
  refine bodyPost_ret (v:=.tuple #[.agg #[.slice none 0 0],.int .i64 0,.bool false,.int .i64 (chkLine k l.length)]) ?_ rfl ?_
  ·simp[results,Tryz.results105,go_sem, *]
  refine⟨_,rfl,OwnInts.nil_,Bl⟩
end
section
open Go.RowKit
end
end Go.Proofs.YtndcjmopebcdgaaGreatDoor
