/- The reference's SameCode, SameSystems, CheckSystem, there. -/
import Derived.Test.YtndcjmopebcdgaaGreatDoorSysB
set_option linter.unusedSimpArgs false
set_option linter.unusedVariables false
namespace Go.Proofs.YtndcjmopebcdgaaGreatDoor
open Go.ChangeShapes Go.WideShapes Go.ChangeAt Go.RowKit
set_option maxRecDepth 100000
theorem list_eq_getD{α:Type}{l m:List α}(d:α)(hl:l.length=m.length)(h:∀i,i<l.length→l.getD i d=m.getD i d):l=m:=
 List.ext_getElem hl fun i hi hj=>by have:=h i hi;simpa[List.getD,hi,hj] using this
theorem chkSys_2{s:Sys}(h:sizesOk s=false):chkSys s=2:=if_pos h
theorem chkSys_c{s:Sys}(h:sizesOk s=true)(h2:firstCode s.parts≠0):chkSys s=firstCode s.parts:=by
 unfold chkSys;rw[if_neg (by simp[h]),if_pos h2]
theorem chkSys_4{s:Sys}(h:sizesOk s=true)(h2:firstCode s.parts=0)(h3:(s.chans.all fun c=>kindOk c.kind)=false):chkSys s=4:=by
 unfold chkSys;rw[if_neg (by simp[h]),if_neg (by simp[h2]),if_pos h3]
theorem chkSys_3{s:Sys}(h:sizesOk s=true)(h2:firstCode s.parts=0)(h3:(s.chans.all fun c=>kindOk c.kind)=true)(h4:s.chans.all (chnOk s.parts.length)=false):chkSys s=3:=by
 unfold chkSys;rw[if_neg (by simp[h]),if_neg (by simp[h2]),if_neg (by simp[h3]),if_pos h4]
theorem chkSys_3'{s:Sys}(h:sizesOk s=true)(h2:firstCode s.parts=0)(h3:(s.chans.all fun c=>kindOk c.kind)=true)(h4:s.chans.all (chnOk s.parts.length)=true)(h5:s.slots.all (sltOk s.parts.length)=false):chkSys s=3:=by
 unfold chkSys;rw[if_neg (by simp[h]),if_neg (by simp[h2]),if_neg (by simp[h3]),if_neg (by simp[h4]),if_pos h5]
theorem chkSys_1{s:Sys}(h:sizesOk s=true)(h2:firstCode s.parts=0)(h3:(s.chans.all fun c=>kindOk c.kind)=true)(h4:s.chans.all (chnOk s.parts.length)=true)(h5:s.slots.all (sltOk s.parts.length)=true)(h6:namesFrom s.chans 0 s.parts=false):chkSys s=1:=by
 unfold chkSys;rw[if_neg (by simp[h]),if_neg (by simp[h2]),if_neg (by simp[h3]),if_neg (by simp[h4]),if_neg (by simp[h5]),if_pos h6]
theorem chkSys_0{s:Sys}(h:sizesOk s=true)(h2:firstCode s.parts=0)(h3:(s.chans.all fun c=>kindOk c.kind)=true)(h4:s.chans.all (chnOk s.parts.length)=true)(h5:s.slots.all (sltOk s.parts.length)=true)(h6:namesFrom s.chans 0 s.parts=true):chkSys s=0:=by
 unfold chkSys;rw[if_neg (by simp[h]),if_neg (by simp[h2]),if_neg (by simp[h3]),if_neg (by simp[h4]),if_neg (by simp[h5]),if_neg (by simp[h6])]
section
variable {x:SysD}
theorem sizes_true(h1:1≤x.parts.length∧x.parts.length≤4)(h2:x.chans.length≤6)(h3:1≤x.slots.length∧x.slots.length≤6)(h4:∀i,i<x.parts.length→(x.parts.getD i P0).1.inp.length≤12):sizesOk x.sys=true:=by
 have e:(x.parts.map Prod.fst).all (fun p:Prt=>decide (p.inp.length≤12))=true:=(all_getD P0.1).2 fun k hk=>by
  rw[getD_map]
  exact decide_eq_true (h4 k (by simpa using hk))
 simp only[sizesOk,SysD.sys,List.length_map,e,Bool.and_true,decide_eq_true_eq]
 exact⟨h1.1,h1.2,h2,h3.1,h3.2⟩
theorem sizes_false(h:¬((1≤x.parts.length∧x.parts.length≤4)∧x.chans.length≤6∧(1≤x.slots.length∧x.slots.length≤6))):sizesOk x.sys=false:=by
 simp only[sizesOk,SysD.sys,List.length_map]
 rw[decide_eq_false Om,Bool.false_and]
theorem sizes_inp{k:Nat}(hk:k<x.parts.length)(h:12<(x.parts.getD k P0).1.inp.length):sizesOk x.sys=false:=by
 have e:(x.parts.map Prod.fst).all (fun p:Prt=>decide (p.inp.length≤12))=false:=all_false P0.1 (k:=k) (by simpa using hk) (by rw[getD_map];exact decide_eq_false Om)
 simp only[sizesOk,SysD.sys,e,Bool.and_false]
theorem first_step{k:Nat}(hk:k<x.parts.length)(h:firstCode x.sys.parts=firstCode (x.sys.parts.drop k))(h0:chkCode (x.parts.getD k P0).1.code=0):firstCode x.sys.parts=firstCode (x.sys.parts.drop (k+1)):=by
 have hk':k<x.sys.parts.length:=by simpa[SysD.sys] using hk
 rw[h,firstCode_drop hk',if_pos]
 have:x.sys.parts[k]=(x.parts.getD k P0).1:=by simp[SysD.sys,List.getD,List.getElem?_eq_getElem hk]
 rw[this];exact h0
theorem first_at{k:Nat}(hk:k<x.parts.length)(h:firstCode x.sys.parts=firstCode (x.sys.parts.drop k))(h0:chkCode (x.parts.getD k P0).1.code≠0):firstCode x.sys.parts=chkCode (x.parts.getD k P0).1.code:=by
 have hk':k<x.sys.parts.length:=by simpa[SysD.sys] using hk
 have:x.sys.parts[k]=(x.parts.getD k P0).1:=by simp[SysD.sys,List.getD,List.getElem?_eq_getElem hk]
 rw[h,firstCode_drop hk',this,if_neg h0]
theorem first_end(h:firstCode x.sys.parts=firstCode (x.sys.parts.drop x.parts.length)):firstCode x.sys.parts=0:=by
 rw[h,List.drop_of_length_le (by simp[SysD.sys])];rfl
theorem codes_ok(h:firstCode x.sys.parts=0){k:Nat}(hk:k<x.parts.length):chkCode (x.parts.getD k P0).1.code=0:=by
 have key:∀(l:List Prt),firstCode l=0→∀p,p∈l→chkCode p.code=0:=by
  intro l
  induction l with
  |nil=>intro _ p hp;cases hp
  |cons q r ih=>
   intro h0 p hp
   unfold firstCode at h0
   split at h0
   ·rcases List.mem_cons.1 hp with rfl|hp
    ·assumption
    ·exact ih h0 p hp
   ·exact absurd h0 Am
 exact key _ h _ (List.mem_map.2 ⟨_,mem_getD P0 hk,rfl⟩)
end
theorem insNum{i:Ins}(h:chkIns i=0):i.op=12∨i.op=13→0≤i.n∧i.n<6:=by
 unfold chkIns chkI at h
 by_cases h1:¬(1≤i.op∧i.op≤15)
 ·rw[if_pos h1] at h;cases h
 ·rw[if_neg h1] at h
  by_cases h2:(hasA i.op&& !regOk i.a||hasB i.op&& !regOk i.b)=true
  ·rw[if_pos h2] at h;cases h
  ·rw[if_neg h2] at h
   by_cases h3:numOk i.op i.n=false
   ·rw[if_pos h3] at h;cases h
   ·have h4:numOk i.op i.n=true:=by simpa using h3
    intro h12
    unfold numOk at h4
    rw[if_neg Om,if_pos h12] at h4
    simpa using h4
theorem code_le{x:SysD}(h:firstCode x.sys.parts=0){k:Nat}(hk:k<x.parts.length):(x.parts.getD k P0).1.code.length≤20:=(chkCode_all (codes_ok h hk)).1.2
end Go.Proofs.YtndcjmopebcdgaaGreatDoor
