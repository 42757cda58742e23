/- The reference's SameCode, SameSystems, CheckSystem, there. -/
import Derived.Test.YtndcjmopebcdgaaGreatDoorSysB
set_option linter.unusedSimpArgs false
set_option linter.unusedVariables false
namespace Go.Proofs.YtndcjmopebcdgaaGreatDoor
open Go.ChangeShapes Go.WideShapes Go.ChangeAt Go.RowKit
set_option maxRecDepth 100000
theorem list_eq_getD{α:Type}{l m:List α}(d:α)(hl:l.length=m.length)(h:∀i,i<l.length→l.getD i d=m.getD i d):l=m:=
 List.ext_getElem hl fun i hi hj=>by have:=h i hi;simpa[List.getD,hi,hj] using this
theorem kindK_any(k:Int)(w:World):Calls Tryz.prog 110 #[.int .i64 k] w fun e w'=>e=.returned (.bool (kindOk k))∧Below w.heap.size w w':=by
 refine enter Tryz.func110 rfl Tryz.ntmps110 rfl fun a hF=>?_
 have hW:=Wd.start w NoB
 refine c_sr<|pq 1 hF rfl fun a hF=>lts<|pq 2 hF rfl fun a hF=>?_;refine Fr.splitD hF (fun h1 hF=>?_) (fun h1 hF=>?_);refine pq 5 hF rfl fun a hF=>l_nil<|t_n<|wp_ret<|ret1 Tryz.results110 hF (rv_t hF rfl) ?_
 exact⟨by simp[kindOk];simp_all,hW.below⟩
 refine pq 3 hF rfl fun a hF=>?_;refine Fr.splitD hF (fun h2 hF=>?_) (fun h2 hF=>?_);refine pq 2 hF rfl fun a hF=>l_nil<|t_n<|wp_ret<|ret1 Tryz.results110 hF (rv_t hF rfl) ?_
 exact⟨by simp[kindOk];simp_all,hW.below⟩
 refine pq 2 hF rfl fun a hF=>l_nil<|t_n<|wp_ret<|ret1 Tryz.results110 hF (rv_t hF rfl) ?_
 exact⟨by simp[kindOk];simp_all,hW.below⟩
theorem chkSys_2{s:Sys}(h:sizesOk s=false):chkSys s=2:=if_pos h
theorem chkSys_c{s:Sys}(h:sizesOk s=true)(h2:firstCode s.parts≠0):chkSys s=firstCode s.parts:=by
 unfold chkSys;rw[if_neg (by simp[h]),if_pos h2]
theorem chkSys_4{s:Sys}(h:sizesOk s=true)(h2:firstCode s.parts=0)(h3:(s.chans.all fun c=>kindOk c.kind)=false):chkSys s=4:=by
 unfold chkSys;rw[if_neg (by simp[h]),if_neg (by simp[h2]),if_pos h3]
theorem chkSys_3{s:Sys}(h:sizesOk s=true)(h2:firstCode s.parts=0)(h3:(s.chans.all fun c=>kindOk c.kind)=true)(h4:s.chans.all (chnOk s.parts.length)=false):chkSys s=3:=by
 unfold chkSys;rw[if_neg (by simp[h]),if_neg (by simp[h2]),if_neg (by simp[h3]),if_pos h4]
theorem chkSys_3'{s:Sys}(h:sizesOk s=true)(h2:firstCode s.parts=0)(h3:(s.chans.all fun c=>kindOk c.kind)=true)(h4:s.chans.all (chnOk s.parts.length)=true)(h5:s.slots.all (sltOk s.parts.length)=false):chkSys s=3:=by
 unfold chkSys;rw[if_neg (by simp[h]),if_neg (by simp[h2]),if_neg (by simp[h3]),if_neg (by simp[h4]),if_pos h5]
theorem chkSys_1{s:Sys}(h:sizesOk s=true)(h2:firstCode s.parts=0)(h3:(s.chans.all fun c=>kindOk c.kind)=true)(h4:s.chans.all (chnOk s.parts.length)=true)(h5:s.slots.all (sltOk s.parts.length)=true)(h6:namesFrom s.chans 0 s.parts=false):chkSys s=1:=by
 unfold chkSys;rw[if_neg (by simp[h]),if_neg (by simp[h2]),if_neg (by simp[h3]),if_neg (by simp[h4]),if_neg (by simp[h5]),if_pos h6]
theorem chkSys_0{s:Sys}(h:sizesOk s=true)(h2:firstCode s.parts=0)(h3:(s.chans.all fun c=>kindOk c.kind)=true)(h4:s.chans.all (chnOk s.parts.length)=true)(h5:s.slots.all (sltOk s.parts.length)=true)(h6:namesFrom s.chans 0 s.parts=true):chkSys s=0:=by
 unfold chkSys;rw[if_neg (by simp[h]),if_neg (by simp[h2]),if_neg (by simp[h3]),if_neg (by simp[h4]),if_neg (by simp[h5]),if_neg (by simp[h6])]
section
variable {x:SysD}
theorem sizes_true(h1:1≤x.parts.length∧x.parts.length≤4)(h2:x.chans.length≤6)(h3:1≤x.slots.length∧x.slots.length≤6)(h4:∀i,i<x.parts.length→(x.parts.getD i P0).1.inp.length≤12):sizesOk x.sys=true:=by
 have e:(x.parts.map Prod.fst).all (fun p:Prt=>decide (p.inp.length≤12))=true:=(all_getD P0.1).2 fun k hk=>by
  rw[getD_map]
  exact decide_eq_true (h4 k (by simpa using hk))
 simp only[sizesOk,SysD.sys,List.length_map,e,Bool.and_true,decide_eq_true_eq]
 exact⟨h1.1,h1.2,h2,h3.1,h3.2⟩
theorem sizes_false(h:¬((1≤x.parts.length∧x.parts.length≤4)∧x.chans.length≤6∧(1≤x.slots.length∧x.slots.length≤6))):sizesOk x.sys=false:=by
 simp only[sizesOk,SysD.sys,List.length_map]
 rw[decide_eq_false Om,Bool.false_and]
theorem sizes_inp{k:Nat}(hk:k<x.parts.length)(h:12<(x.parts.getD k P0).1.inp.length):sizesOk x.sys=false:=by
 have e:(x.parts.map Prod.fst).all (fun p:Prt=>decide (p.inp.length≤12))=false:=all_false P0.1 (k:=k) (by simpa using hk) (by rw[getD_map];exact decide_eq_false Om)
 simp only[sizesOk,SysD.sys,e,Bool.and_false]
theorem first_step{k:Nat}(hk:k<x.parts.length)(h:firstCode x.sys.parts=firstCode (x.sys.parts.drop k))(h0:chkCode (x.parts.getD k P0).1.code=0):firstCode x.sys.parts=firstCode (x.sys.parts.drop (k+1)):=by
 have hk':k<x.sys.parts.length:=by simpa[SysD.sys] using hk
 rw[h,firstCode_drop hk',if_pos]
 have:x.sys.parts[k]=(x.parts.getD k P0).1:=by simp[SysD.sys,List.getD,List.getElem?_eq_getElem hk]
 rw[this];exact h0
theorem first_at{k:Nat}(hk:k<x.parts.length)(h:firstCode x.sys.parts=firstCode (x.sys.parts.drop k))(h0:chkCode (x.parts.getD k P0).1.code≠0):firstCode x.sys.parts=chkCode (x.parts.getD k P0).1.code:=by
 have hk':k<x.sys.parts.length:=by simpa[SysD.sys] using hk
 have:x.sys.parts[k]=(x.parts.getD k P0).1:=by simp[SysD.sys,List.getD,List.getElem?_eq_getElem hk]
 rw[h,firstCode_drop hk',this,if_neg h0]
theorem first_end(h:firstCode x.sys.parts=firstCode (x.sys.parts.drop x.parts.length)):firstCode x.sys.parts=0:=by
 rw[h,List.drop_of_length_le (by simp[SysD.sys])];rfl
theorem names_true(h:∀k,k<x.parts.length→∀i,i<(x.parts.getD k P0).1.code.length→insOk x.chans k ((x.parts.getD k P0).1.code.getD i I0)=true):namesFrom x.sys.chans 0 x.sys.parts=true:=
 (namesFrom_iff _ _ _).2 fun k hk=>by
  have e:(x.sys.parts.getD k ⟨[],[]⟩)=(x.parts.getD k P0).1:=getD_map Prod.fst k P0
  rw[e,Nat.zero_add]
  exact(all_getD I0).2 fun i hi=>h k (by simpa[SysD.sys] using hk) i hi
theorem names_false{k i:Nat}(hk:k<x.parts.length)(hi:i<(x.parts.getD k P0).1.code.length)(h:insOk x.chans k ((x.parts.getD k P0).1.code.getD i I0)=false):namesFrom x.sys.chans 0 x.sys.parts=false:=by
 cases hn:namesFrom x.sys.chans 0 x.sys.parts
 ·rfl
 ·have:=(namesFrom_iff _ _ _).1 hn k (by simpa[SysD.sys] using hk)
  have e:(x.sys.parts.getD k ⟨[],[]⟩)=(x.parts.getD k P0).1:=getD_map Prod.fst k P0
  rw[e,Nat.zero_add,(all_getD I0)] at this
  exact absurd (h.symm.trans (this i hi)) Bool.false_ne_true
theorem codes_ok(h:firstCode x.sys.parts=0){k:Nat}(hk:k<x.parts.length):chkCode (x.parts.getD k P0).1.code=0:=by
 have key:∀(l:List Prt),firstCode l=0→∀p,p∈l→chkCode p.code=0:=by
  intro l
  induction l with
  |nil=>intro _ p hp;cases hp
  |cons q r ih=>
   intro h0 p hp
   unfold firstCode at h0
   split at h0
   ·rcases List.mem_cons.1 hp with rfl|hp
    ·assumption
    ·exact ih h0 p hp
   ·exact absurd h0 Am
 exact key _ h _ (List.mem_map.2 ⟨_,mem_getD P0 hk,rfl⟩)
end
theorem insNum{i:Ins}(h:chkIns i=0):i.op=12∨i.op=13→0≤i.n∧i.n<6:=by
 unfold chkIns chkI at h
 by_cases h1:¬(1≤i.op∧i.op≤15)
 ·rw[if_pos h1] at h;cases h
 ·rw[if_neg h1] at h
  by_cases h2:(hasA i.op&& !regOk i.a||hasB i.op&& !regOk i.b)=true
  ·rw[if_pos h2] at h;cases h
  ·rw[if_neg h2] at h
   by_cases h3:numOk i.op i.n=false
   ·rw[if_pos h3] at h;cases h
   ·have h4:numOk i.op i.n=true:=by simpa using h3
    intro h12
    unfold numOk at h4
    rw[if_neg Om,if_pos h12] at h4
    simpa using h4
theorem chan_num{x:SysD}(h:firstCode x.sys.parts=0){k i:Nat}(hk:k<x.parts.length)(hi:i<(x.parts.getD k P0).1.code.length)(ho:((x.parts.getD k P0).1.code.getD i I0).op=12∨((x.parts.getD k P0).1.code.getD i I0).op=13):0≤((x.parts.getD k P0).1.code.getD i I0).n∧((x.parts.getD k P0).1.code.getD i I0).n<6:=
 insNum ((chkCode_all (codes_ok h hk)).2 _ (mem_getD I0 hi)) ho
theorem chan_nat{x:SysD}(h:firstCode x.sys.parts=0){k i:Nat}(hk:k<x.parts.length)(hi:i<(x.parts.getD k P0).1.code.length)(ho:((x.parts.getD k P0).1.code.getD i I0).op=12∨((x.parts.getD k P0).1.code.getD i I0).op=13):
  Value.int .i64 ((x.parts.getD k P0).1.code.getD i I0).n=.int .i64 ((((x.parts.getD k P0).1.code.getD i I0).n.toNat:Nat):Int):=by
 rw[Int.toNat_of_nonneg (chan_num h hk hi ho).1]
theorem code_le{x:SysD}(h:firstCode x.sys.parts=0){k:Nat}(hk:k<x.parts.length):(x.parts.getD k P0).1.code.length≤20:=(chkCode_all (codes_ok h hk)).1.2
theorem ins_bad12{cs:List Chn}{p:Nat}{i:Ins}(h:i.op=12)(h2:(cs.length:Int)≤i.n∨(cs.getD i.n.toNat C0).from_≠p):insOk cs p i=false:=by
 unfold insOk
 rcases h2 with h2|h2
 ·rw[decide_eq_false (by omega:¬i.n<cs.length)];simp[h]
 ·rw[show((cs.getD i.n.toNat C0).from_==(p:Int))=false by simpa using h2];simp[h]
theorem ins_bad13{cs:List Chn}{p:Nat}{i:Ins}(h:i.op=13)(h2:(cs.length:Int)≤i.n∨(cs.getD i.n.toNat C0).to_≠p):insOk cs p i=false:=by
 unfold insOk
 rcases h2 with h2|h2
 ·rw[decide_eq_false (by omega:¬i.n<cs.length)];simp[h]
 ·rw[show((cs.getD i.n.toNat C0).to_==(p:Int))=false by simpa using h2];simp[h]
theorem ins_good{cs:List Chn}{p:Nat}{i:Ins}(h1:i.op=12→i.n<cs.length∧(cs.getD i.n.toNat C0).from_=p)(h2:i.op=13→i.n<cs.length∧(cs.getD i.n.toNat C0).to_=p):insOk cs p i=true:=by
 unfold insOk
 by_cases h12:i.op=12
 ·obtain⟨a,b⟩:=h1 h12
  rw[decide_eq_true a,b]
  simp[h12]
 ·by_cases h13:i.op=13
  ·obtain⟨a,b⟩:=h2 h13
   rw[decide_eq_true a,b]
   simp[h13]
  ·simp[h12,h13]
theorem chn_good{n:Nat}{c:Chn}(h1:0≤c.from_∧c.from_<n)(h2:0≤c.to_∧c.to_<n)(h3:c.from_≠c.to_):chnOk n c=true:=by
 unfold chnOk partOk
 rw[decide_eq_true h1,decide_eq_true h2]
 simpa using h3
theorem chn_bad{x:SysD}{m:Nat}(hm:m<x.chans.length)(h:¬((0≤(x.chans.getD m C0).from_∧(x.chans.getD m C0).from_<x.parts.length)∧(0≤(x.chans.getD m C0).to_∧(x.chans.getD m C0).to_<x.parts.length)∧(x.chans.getD m C0).from_≠(x.chans.getD m C0).to_)):x.sys.chans.all (chnOk x.sys.parts.length)=false:=by
 refine all_false C0 (k:=m) hm ?_
 cases hc:chnOk x.sys.parts.length (x.sys.chans.getD m C0)
 ·rfl
 ·exfalso
  apply h
  simp only[chnOk,partOk,SysD.sys,List.length_map,Bool.and_eq_true,decide_eq_true_eq,bne_iff_ne,ne_eq] at hc
  exact⟨hc.1,hc.2.1,hc.2.2⟩
theorem slt_good{n:Nat}{c:Slt}(h1:0≤c.part∧c.part<n)(h2:1≤c.ticks∧c.ticks≤8):sltOk n c=true:=by
 unfold sltOk partOk
 rw[decide_eq_true h1,decide_eq_true h2]
 rfl
theorem slt_bad{x:SysD}{m:Nat}(hm:m<x.slots.length)(h:¬((0≤(x.slots.getD m S0).part∧(x.slots.getD m S0).part<x.parts.length)∧1≤(x.slots.getD m S0).ticks∧(x.slots.getD m S0).ticks≤8)):x.sys.slots.all (sltOk x.sys.parts.length)=false:=by
 refine all_false S0 (k:=m) hm ?_
 cases hc:sltOk x.sys.parts.length (x.sys.slots.getD m S0)
 ·rfl
 ·exfalso
  apply h
  simp only[sltOk,partOk,SysD.sys,List.length_map,Bool.and_eq_true,decide_eq_true_eq] at hc
  exact⟨hc.1,of_decide_eq_true hc.2⟩
set_option maxHeartbeats 8000000 in
theorem checkSystem_any{x:SysD}{w:World}(hx:x.At w):
  Calls Tryz.prog 69 #[x.val] w fun e w'=>e=.returned (.int .i64 (chkSys x.sys))∧Below w.heap.size w w':=by
 have hl1:=hx.parts.len
 have hl2:=hx.chans.len
 have hl3:=hx.slots.len
 unfold maxLen at hl1 hl2 hl3
 rw[x.val_eq]
 refine enter Tryz.func69 rfl Tryz.ntmps69 rfl fun a hF=>?_
 have hW:=Wd.start w NoB
 refine c_sr<|pe<|e_box hF hW rfl rfl rfl rfl fun b1 a wc hF hW=>pq 1 hF rfl fun a hF=>lts<|pq 1 hF rfl fun a hF=>pv hF hW (y_loadOwn hF rfl 0 rfl rfl Tryz.underlying35 rfl) fun a hF=>pq 2 hF rfl fun a hF=>l_nil<|t_n<|c_s<|c_sr<|pq 1 hF rfl fun a hF=>pe<|e_callK hF hW rfl rfl en_23 Rl (withinD_any _ _ _ _) fun a w1 hW hF=>?_;refine Fr.splitB hF (fun h2 hF=>?_) (fun h2 hF=>?_);refine pq 2 hF rfl fun a hF=>?_;replace hF:=hF.ff;refine pq 1 hF rfl fun a hF=>pvg hF hW (y_loadOwn hF rfl 0 rfl rfl Tryz.underlying36 rfl) (ws hF rfl rfl) fun a hF=>pq 2 hF rfl fun a hF=>?_;refine Fr.splitD hF (fun h3 hF=>?_) (fun h3 hF=>?_);refine pq 8 hF rfl fun a hF=>l_nil ?_;replace hF:=hF.ks [0,1,2,3,32] rfl;refine t_n<|c_t hF rfl<|c_sr<|pq 1 hF rfl fun a hF=>l_nil<|t_n<|wp_ret<|t_r<|ret1 Tryz.results69 hF (rv_t hF rfl) ?_
 exact⟨by rw[chkSys_2 (sizes_false Om)],hW.below⟩
 refine pq 3 hF rfl fun a hF=>pvg hF hW (y_loadOwn hF rfl 0 rfl rfl Tryz.underlying37 rfl) (ws hF rfl rfl) fun a hF=>pq 1 hF rfl fun a hF=>?_;refine pe (e_callK hF hW rfl rfl en_23 Rl (withinD_any _ _ _ _) ?_) (ws hF rfl rfl);intro a w1 hW hF;refine Fr.splitB hF (fun h4 hF=>?_) (fun h4 hF=>?_);refine pq 2 hF rfl fun a hF=>?_;replace hF:=hF.ff;refine l_nil ?_;replace hF:=hF.ks [0,1,2,3,32] rfl;refine t_n<|c_f hF rfl<|wp_skip<|t_n<|c_s<|c_sr<|pq 1 hF rfl fun a hF=>l_nil<|t_n<|wp_block ?_;refine c_loop (G:=Nat) (fun k:Nat=>[(4,.int .i64 (k:Int))]) (fun k:Nat=>[]) (fun k:Nat=>k≤x.parts.length∧∀i,i<k→(x.parts.getD i P0).1.inp.length≤12) (fun k:Nat=>x.parts.length - k) 0 (hF.ks [0,1,3,32] rfl) (Fr.cons hF (t:=4) rfl Rg (Fr.nil hF)) (hW) ?_ ?_
 exact⟨by omega,fun i hi=>by omega⟩
 clear hF hW
 try clear a
 intro k a wc hC hF hW
 obtain⟨hk,hinp⟩:=hC
 refine c_s<|c_sr<|pq 3 hF rfl fun a hF=>?_;refine Fr.splitD hF (fun h5 hF=>?_) (fun h5 hF=>?_);refine l_nil<|t_n<|c_t hF rfl<|wp_skip<|t_n<|c_s<|wp_block<|c_sr<|pq 1 hF rfl fun a hF=>pv hF hW (y_loadOwn hF rfl 0 rfl rfl Tryz.underlying35 rfl) fun a hF=>pq 1 hF rfl fun a hF=>pv hF hW (y_indexS hF rfl rfl Od Tryz.underlying35 sz_43 (fun w h=>(hx.partsR).wd h)) fun a hF=>pv hF hW (y_fieldRow hF rfl fa_43_1) fun a hF=>pv hF hW (y_loadRow hF rfl (fun w h=>(hx.partsR).wd h) Od rfl Tryz.underlying41 rfl) fun a hF=>pq 2 hF rfl fun a hF=>?_;refine Fr.splitD hF (fun h6 hF=>?_) (fun h6 hF=>?_);refine l_nil<|t_n<|c_t hF rfl<|c_sr<|pq 1 hF rfl fun a hF=>l_nil<|t_n<|wp_ret<|b_r<|t_r<|t_r<|b_r<|t_r<|ret1 Tryz.results69 hF (rv_t hF rfl) ?_
 exact⟨by rw[chkSys_2 (sizes_inp (k:=k) Om Om)],hW.below⟩
 refine l_nil<|t_n<|c_f hF rfl<|wp_skip<|b_n<|t_n<|c_r<|pq 1 hF rfl fun a hF=>pv hF hW (y_add hF rfl rfl (IntWalk.i64_in _ Om)) fun a hF=>pq 1 hF rfl fun a hF=>l_nil<|t_n ?_;refine⟨(k+1),?_,?_,?_,?_⟩
 exact⟨by omega,fun i hi=>by rcases Nat.lt_or_ge i k with h|h;exact hinp i h;(have hik:i=k:=by omega);rw[hik];omega⟩
 first|omega|(dsimp only;omega)
 exact hF.a1 rfl rfl
 exact hW
 refine l_nil<|t_n<|c_f hF rfl<|wp_exit<|t_x<|t_x<|b_h<|t_n<|c_s ?_
 have HS:sizesOk x.sys=true:=(by simp only[decide_eq_true_eq] at*;exact sizes_true Om Om Om (fun i hi=>hinp i Om))
 refine c_sr<|pq 1 hF rfl fun a hF=>l_nil<|t_n<|wp_block ?_;refine c_loop (G:=Nat) (fun k:Nat=>[(5,.int .i64 (k:Int))]) (fun k:Nat=>[]) (fun k:Nat=>k≤x.parts.length∧firstCode x.sys.parts=firstCode (x.sys.parts.drop k)) (fun k:Nat=>x.parts.length - k) 0 (hF.ks [0,1,3,4,32,35] rfl) (Fr.cons hF (t:=5) rfl Rg (Fr.nil hF)) (hW) ?_ ?_
 exact⟨by omega,rfl⟩
 clear hF hW
 try clear a
 intro k a wc hC hF hW
 obtain⟨hk,hfc⟩:=hC
 refine c_s<|c_sr<|pq 3 hF rfl fun a hF=>?_;refine Fr.splitD hF (fun h7 hF=>?_) (fun h7 hF=>?_);refine l_nil<|t_n<|c_t hF rfl<|wp_skip<|t_n<|c_s<|wp_block<|c_sr<|pq 1 hF rfl fun a hF=>pv hF hW (y_loadOwn hF rfl 0 rfl rfl Tryz.underlying35 rfl) fun a hF=>pq 1 hF rfl fun a hF=>pv hF hW (y_indexS hF rfl rfl Od Tryz.underlying35 sz_43 (fun w h=>(hx.partsR).wd h)) fun a hF=>pv hF hW (y_fieldRow hF rfl fa_43_0) fun a hF=>pv hF hW (y_loadRow hF rfl (fun w h=>(hx.partsR).wd h) Od rfl Tryz.underlying40 rfl) fun a hF=>pe<|e_callK hF hW rfl rfl en_109 Rl (checkCode_any _ _ _ ((hx.part (k:=k) Om).below hW.below).code) fun a w1 hW hF=>pq 1 hF rfl fun a hF=>lts<|pq 2 hF rfl fun a hF=>?_;refine Fr.splitD hF (fun h8 hF=>?_) (fun h8 hF=>?_);refine l_nil<|t_n<|c_t hF rfl<|c_sr<|pq 2 hF rfl fun a hF=>l_nil<|t_n<|wp_ret<|b_r<|t_r<|t_r<|b_r<|t_r<|ret1 Tryz.results69 hF (rv_t hF rfl) ?_
 exact⟨by rw[chkSys_c HS (by rw[first_at (k:=k) Om hfc Om];omega),first_at (k:=k) Om hfc Om],hW.below⟩
 refine l_nil<|t_n<|c_f hF rfl<|wp_skip<|b_n<|t_n<|c_r<|pq 1 hF rfl fun a hF=>pv hF hW (y_add hF rfl rfl (IntWalk.i64_in _ Om)) fun a hF=>pq 1 hF rfl fun a hF=>l_nil<|t_n ?_;refine⟨(k+1),?_,?_,?_,?_⟩
 exact⟨by omega,first_step Om hfc Om⟩
 first|omega|(dsimp only;omega)
 exact hF.a1 rfl rfl
 exact hW
 refine l_nil<|t_n<|c_f hF rfl<|wp_exit<|t_x<|t_x<|b_h<|t_n<|c_s ?_
 have HFC:firstCode x.sys.parts=0:=first_end (by rw[hfc];congr 2;omega)
 refine c_sr<|pq 1 hF rfl fun a hF=>l_nil<|t_n<|wp_block ?_;refine c_loop (G:=Nat) (fun m:Nat=>[(7,.int .i64 (m:Int))]) (fun m:Nat=>[]) (fun m:Nat=>m≤x.chans.length∧∀i,i<m→kindOk (x.chans.getD i C0).kind=true) (fun m:Nat=>x.chans.length - m) 0 (hF.ks [0,1,3,4,5,32,35,48] rfl) (Fr.cons hF (t:=7) rfl Rg (Fr.nil hF)) (hW) ?_ ?_
 exact⟨by omega,fun i hi=>by omega⟩
 clear hF hW
 try clear a
 intro m a wc hC hF hW
 obtain⟨hm,hkd⟩:=hC
 refine c_s<|c_sr<|pq 2 hF rfl fun a hF=>pv hF hW (y_loadOwn hF rfl 0 rfl rfl Tryz.underlying36 rfl) fun a hF=>pq 2 hF rfl fun a hF=>?_;refine Fr.splitD hF (fun h9 hF=>?_) (fun h9 hF=>?_);refine l_nil<|t_n<|c_t hF rfl<|wp_skip<|t_n<|c_s<|wp_block<|c_sr<|pq 1 hF rfl fun a hF=>pv hF hW (y_loadOwn hF rfl 0 rfl rfl Tryz.underlying36 rfl) fun a hF=>pq 1 hF rfl fun a hF=>pv hF hW (y_indexS hF rfl rfl Od Tryz.underlying36 sz_121 (fun w h=>(hx.chansR).wd h)) fun a hF=>pv hF hW (y_fieldRow hF rfl fa_121_0) fun a hF=>pv hF hW (y_loadRow hF rfl (fun w h=>(hx.chansR).wd h) Od rfl Tryz.underlying3 rfl) fun a hF=>pe<|e_callK hF hW rfl rfl en_110 Rl (kindK_any _ _) fun a w1 hW hF=>?_;refine Fr.splitB hF (fun h10 hF=>?_) (fun h10 hF=>?_);refine pq 1 hF rfl fun a hF=>l_nil<|t_n<|c_f hF rfl<|wp_skip<|b_n<|t_n<|c_r<|pq 1 hF rfl fun a hF=>pv hF hW (y_add hF rfl rfl (IntWalk.i64_in _ Om)) fun a hF=>pq 1 hF rfl fun a hF=>l_nil<|t_n ?_;refine⟨(m+1),?_,?_,?_,?_⟩
 exact⟨by omega,fun i hi=>by rcases Nat.lt_or_ge i m with h|h;exact hkd i h;(have hik:i=m:=by omega);rw[hik];assumption⟩
 first|omega|(dsimp only;omega)
 exact hF.a1 rfl rfl
 exact hW
 refine pq 1 hF rfl fun a hF=>l_nil<|t_n<|c_t hF rfl<|c_sr<|pq 1 hF rfl fun a hF=>l_nil<|t_n<|wp_ret<|b_r<|t_r<|t_r<|b_r<|t_r<|ret1 Tryz.results69 hF (rv_t hF rfl) ?_
 exact⟨by rw[chkSys_4 HS HFC (all_false C0 (k:=m) (show m<x.chans.length by omega) (by show kindOk (x.chans.getD m C0).kind=false;assumption))],hW.below⟩
 refine l_nil<|t_n<|c_f hF rfl<|wp_exit<|t_x<|t_x<|b_h<|t_n<|c_s ?_
 have HKD:(x.sys.chans.all fun c=>kindOk c.kind)=true:=(all_getD C0).2 fun i hi=>hkd i (by simp only[SysD.sys] at hi;omega)
 refine c_sr<|pq 1 hF rfl fun a hF=>l_nil<|t_n<|wp_block ?_;refine c_loop (G:=Nat) (fun m:Nat=>[(8,.int .i64 (m:Int))]) (fun m:Nat=>[]) (fun m:Nat=>m≤x.chans.length∧∀i,i<m→chnOk x.parts.length (x.chans.getD i C0)=true) (fun m:Nat=>x.chans.length - m) 0 (hF.ks [0,1,3,4,5,7,32,35,48,65] rfl) (Fr.cons hF (t:=8) rfl Rg (Fr.nil hF)) (hW) ?_ ?_
 exact⟨by omega,fun i hi=>by omega⟩
 clear hF hW
 try clear a
 intro m a wc hC hF hW
 obtain⟨hm,hch⟩:=hC
 refine c_s<|c_sr<|pq 2 hF rfl fun a hF=>pv hF hW (y_loadOwn hF rfl 0 rfl rfl Tryz.underlying36 rfl) fun a hF=>pq 2 hF rfl fun a hF=>?_;refine Fr.splitD hF (fun h11 hF=>?_) (fun h11 hF=>?_);refine l_nil<|t_n<|c_t hF rfl<|wp_skip<|t_n<|c_s<|wp_block<|c_sr<|pq 1 hF rfl fun a hF=>pv hF hW (y_loadOwn hF rfl 0 rfl rfl Tryz.underlying36 rfl) fun a hF=>pq 1 hF rfl fun a hF=>pv hF hW (y_indexS hF rfl rfl Od Tryz.underlying36 sz_121 (fun w h=>(hx.chansR).wd h)) fun a hF=>pv hF hW (y_loadRowW hF rfl (fun w h=>(hx.chansR).wd h) Od Tryz.underlying121 rfl sz_121) fun a hF=>pe<|e_alloc hF hW ze_121 rfl rfl rfl fun b12 a wc hF hW=>pe<|e_storeAll rfl hF hW rfl rfl 0 rfl rfl rfl Kr sz_121 fun wc hW=>lts<|pq 1 hF rfl fun a hF=>pv hF hW (y_loadOwn hF rfl 0 rfl rfl Tryz.underlying3 rfl) fun a hF=>pq 1 hF rfl fun a hF=>pv hF hW (y_sub hF rfl rfl (IntWalk.i64_in _ Om)) fun a hF=>pe<|e_callK hF hW rfl rfl en_23 Rl (withinD_any _ _ _ _) fun a w1 hW hF=>?_;refine Fr.splitB hF (fun h13 hF=>?_) (fun h13 hF=>?_);refine pq 2 hF rfl fun a hF=>?_;replace hF:=hF.ff;refine pq 1 hF rfl fun a hF=>pvg hF hW (y_loadOwn hF rfl 0 rfl rfl Tryz.underlying3 rfl) (ws hF rfl rfl) fun a hF=>pq 1 hF rfl fun a hF=>pvg hF hW (y_sub hF rfl rfl (IntWalk.i64_in _ Om)) (ws hF rfl rfl) fun a hF=>?_;refine pe (e_callK hF hW rfl rfl en_23 Rl (withinD_any _ _ _ _) ?_) (ws hF rfl rfl);intro a w1 hW hF;refine Fr.splitB hF (fun h14 hF=>?_) (fun h14 hF=>?_);refine pq 2 hF rfl fun a hF=>?_;replace hF:=hF.ff;refine pq 1 hF rfl fun a hF=>?_;replace hF:=hF.ff;refine pq 1 hF rfl fun a hF=>pvg hF hW (y_loadOwn hF rfl 0 rfl rfl Tryz.underlying3 rfl) (ws hF rfl rfl) fun a hF=>pq 1 hF rfl fun a hF=>pvg hF hW (y_loadOwn hF rfl 0 rfl rfl Tryz.underlying3 rfl) (ws hF rfl rfl) fun a hF=>pq 1 hF rfl fun a hF=>?_;refine Fr.splitD hF (fun h15 hF=>?_) (fun h15 hF=>?_);refine pq 1 hF rfl fun a hF=>l_nil ?_;replace hF:=hF.ks [0,1,3,4,5,7,8,9,32,35,48,65,80,108] rfl;refine t_n<|c_t hF rfl<|c_sr<|pq 1 hF rfl fun a hF=>l_nil<|t_n<|wp_ret<|b_r<|t_r<|t_r<|b_r<|t_r<|ret1 Tryz.results69 hF (rv_t hF rfl) ?_
 exact⟨by rw[chkSys_3 HS HFC HKD (chn_bad (m:=m) Om Om)],hW.below⟩
 refine pq 1 hF rfl fun a hF=>l_nil ?_;replace hF:=hF.ks [0,1,3,4,5,7,8,9,32,35,48,65,80,108] rfl;refine t_n<|c_f hF rfl<|wp_skip<|b_n<|t_n<|c_r<|pq 1 hF rfl fun a hF=>pv hF hW (y_add hF rfl rfl (IntWalk.i64_in _ Om)) fun a hF=>pq 1 hF rfl fun a hF=>l_nil ?_;replace hW:=hW.del 0 rfl;refine t_n ?_;refine⟨(m+1),?_,?_,?_,?_⟩
 exact⟨by omega,fun i hi=>by rcases Nat.lt_or_ge i m with h|h;exact hch i h;(have hik:i=m:=by omega);rw[hik];simp only[decide_eq_true_eq] at*;exact chn_good Om Om Om⟩
 first|omega|(dsimp only;omega)
 exact hF.a1 rfl rfl
 exact hW
 refine pq 2 hF rfl fun a hF=>?_;replace hF:=hF.tt;refine pq 1 hF rfl fun a hF=>?_;replace hF:=hF.tt;refine pq 6 hF rfl fun a hF=>l_nil ?_;replace hF:=hF.ks [0,1,3,4,5,7,8,9,32,35,48,65,80,108] rfl;refine t_n<|c_t hF rfl<|c_sr<|pq 1 hF rfl fun a hF=>l_nil<|t_n<|wp_ret<|b_r<|t_r<|t_r<|b_r<|t_r<|ret1 Tryz.results69 hF (rv_t hF rfl) ?_
 exact⟨by rw[chkSys_3 HS HFC HKD (chn_bad (m:=m) Om (by simp only[decide_eq_false_iff_not,decide_eq_true_eq] at*;omega))],hW.below⟩
 refine pq 2 hF rfl fun a hF=>?_;replace hF:=hF.tt;refine pq 14 hF rfl fun a hF=>l_nil ?_;replace hF:=hF.ks [0,1,3,4,5,7,8,9,32,35,48,65,80,108] rfl;refine t_n<|c_t hF rfl<|c_sr<|pq 1 hF rfl fun a hF=>l_nil<|t_n<|wp_ret<|b_r<|t_r<|t_r<|b_r<|t_r<|ret1 Tryz.results69 hF (rv_t hF rfl) ?_
 exact⟨by rw[chkSys_3 HS HFC HKD (chn_bad (m:=m) Om (by simp only[decide_eq_false_iff_not,decide_eq_true_eq] at*;omega))],hW.below⟩
 refine l_nil<|t_n<|c_f hF rfl<|wp_exit<|t_x<|t_x<|b_h<|t_n<|c_s ?_
 have HCH:x.sys.chans.all (chnOk x.sys.parts.length)=true:=(all_getD C0).2 fun i hi=>by rw[show x.sys.parts.length=x.parts.length by simp[SysD.sys]];exact hch i (by simp only[SysD.sys] at hi;omega)
 refine c_sr<|pq 1 hF rfl fun a hF=>l_nil<|t_n<|wp_block ?_;refine c_loop (G:=Nat) (fun m:Nat=>[(10,.int .i64 (m:Int))]) (fun m:Nat=>[]) (fun m:Nat=>m≤x.slots.length∧∀i,i<m→sltOk x.parts.length (x.slots.getD i S0)=true) (fun m:Nat=>x.slots.length - m) 0 (hF.ks [0,1,3,4,5,7,8,32,35,48,65,80] rfl) (Fr.cons hF (t:=10) rfl Rg (Fr.nil hF)) (hW) ?_ ?_
 exact⟨by omega,fun i hi=>by omega⟩
 clear hF hW
 try clear a
 intro m a wc hC hF hW
 obtain⟨hm,hsl⟩:=hC
 refine c_s<|c_sr<|pq 2 hF rfl fun a hF=>pv hF hW (y_loadOwn hF rfl 0 rfl rfl Tryz.underlying37 rfl) fun a hF=>pq 2 hF rfl fun a hF=>?_;refine Fr.splitD hF (fun h16 hF=>?_) (fun h16 hF=>?_);refine l_nil<|t_n<|c_t hF rfl<|wp_skip<|t_n<|c_s<|wp_block<|c_sr<|pq 1 hF rfl fun a hF=>pv hF hW (y_loadOwn hF rfl 0 rfl rfl Tryz.underlying37 rfl) fun a hF=>pq 1 hF rfl fun a hF=>pv hF hW (y_indexS hF rfl rfl Od Tryz.underlying37 sz_123 (fun w h=>(hx.slotsR).wd h)) fun a hF=>pv hF hW (y_fieldRow hF rfl fa_123_0) fun a hF=>pv hF hW (y_loadRow hF rfl (fun w h=>(hx.slotsR).wd h) Od rfl Tryz.underlying3 rfl) fun a hF=>pq 1 hF rfl fun a hF=>pv hF hW (y_sub hF rfl rfl (IntWalk.i64_in _ Om)) fun a hF=>pe<|e_callK hF hW rfl rfl en_23 Rl (withinD_any _ _ _ _) fun a w1 hW hF=>?_;refine Fr.splitB hF (fun h17 hF=>?_) (fun h17 hF=>?_);refine pq 2 hF rfl fun a hF=>?_;replace hF:=hF.ff;refine pq 1 hF rfl fun a hF=>pvg hF hW (y_loadOwn hF rfl 0 rfl rfl Tryz.underlying37 rfl) (ws hF rfl rfl) fun a hF=>pq 1 hF rfl fun a hF=>pvg hF hW (y_indexS hF rfl rfl Od Tryz.underlying37 sz_123 (fun w h=>(hx.slotsR).wd h)) (ws hF rfl rfl) fun a hF=>pvg hF hW (y_fieldRow hF rfl fa_123_1) (ws hF rfl rfl) fun a hF=>pvg hF hW (y_loadRow hF rfl (fun w h=>(hx.slotsR).wd h) Od rfl Tryz.underlying3 rfl) (ws hF rfl rfl) fun a hF=>?_;refine pe (e_callK hF hW rfl rfl en_23 Rl (withinD_any _ _ _ _) ?_) (ws hF rfl rfl);intro a w1 hW hF;refine Fr.splitB hF (fun h18 hF=>?_) (fun h18 hF=>?_);refine pq 2 hF rfl fun a hF=>?_;replace hF:=hF.ff;refine l_nil ?_;replace hF:=hF.ks [0,1,3,4,5,7,8,10,32,35,48,65,80,113,135] rfl;refine t_n<|c_f hF rfl<|wp_skip<|b_n<|t_n<|c_r<|pq 1 hF rfl fun a hF=>pv hF hW (y_add hF rfl rfl (IntWalk.i64_in _ Om)) fun a hF=>pq 1 hF rfl fun a hF=>l_nil<|t_n ?_;refine⟨(m+1),?_,?_,?_,?_⟩
 exact⟨by omega,fun i hi=>by rcases Nat.lt_or_ge i m with h|h;exact hsl i h;(have hik:i=m:=by omega);rw[hik];simp only[decide_eq_true_eq] at*;exact slt_good Om Om⟩
 first|omega|(dsimp only;omega)
 exact hF.a1 rfl rfl
 exact hW
 refine pq 2 hF rfl fun a hF=>?_;replace hF:=hF.tt;refine l_nil ?_;replace hF:=hF.ks [0,1,3,4,5,7,8,10,32,35,48,65,80,113,135] rfl;refine t_n<|c_t hF rfl<|c_sr<|pq 1 hF rfl fun a hF=>l_nil<|t_n<|wp_ret<|b_r<|t_r<|t_r<|b_r<|t_r<|ret1 Tryz.results69 hF (rv_t hF rfl) ?_
 exact⟨by rw[chkSys_3' HS HFC HKD HCH (slt_bad (m:=m) Om (by simp only[decide_eq_false_iff_not,decide_eq_true_eq] at*;omega))],hW.below⟩
 refine pq 2 hF rfl fun a hF=>?_;replace hF:=hF.tt;refine pq 9 hF rfl fun a hF=>l_nil ?_;replace hF:=hF.ks [0,1,3,4,5,7,8,10,32,35,48,65,80,113,135] rfl;refine t_n<|c_t hF rfl<|c_sr<|pq 1 hF rfl fun a hF=>l_nil<|t_n<|wp_ret<|b_r<|t_r<|t_r<|b_r<|t_r<|ret1 Tryz.results69 hF (rv_t hF rfl) ?_
 exact⟨by rw[chkSys_3' HS HFC HKD HCH (slt_bad (m:=m) Om (by simp only[decide_eq_false_iff_not,decide_eq_true_eq] at*;omega))],hW.below⟩
 refine l_nil<|t_n<|c_f hF rfl<|wp_exit<|t_x<|t_x<|b_h<|t_n<|c_s ?_
 have HSL:x.sys.slots.all (sltOk x.sys.parts.length)=true:=(all_getD S0).2 fun i hi=>by rw[show x.sys.parts.length=x.parts.length by simp[SysD.sys]];exact hsl i (by simp only[SysD.sys] at hi;omega)
 refine c_sr<|pq 1 hF rfl fun a hF=>l_nil<|t_n<|wp_block ?_;refine c_loop (G:=Nat) (fun k:Nat=>[(11,.int .i64 (k:Int))]) (fun k:Nat=>[]) (fun k:Nat=>k≤x.parts.length∧∀q,q<k→∀i,i<(x.parts.getD q P0).1.code.length→insOk x.chans q ((x.parts.getD q P0).1.code.getD i I0)=true) (fun k:Nat=>x.parts.length - k) 0 (hF.ks [0,1,3,4,5,7,8,10,32,35,48,65,80,113] rfl) (Fr.cons hF (t:=11) rfl Rg (Fr.nil hF)) (hW) ?_ ?_
 exact⟨by omega,fun i hi=>by omega⟩
 clear hF hW
 try clear a
 intro k a wc hC hF hW
 obtain⟨hk,hnm⟩:=hC
 refine c_s<|c_sr<|pq 3 hF rfl fun a hF=>?_;refine Fr.splitD hF (fun h19 hF=>?_) (fun h19 hF=>?_);refine l_nil<|t_n<|c_t hF rfl<|wp_skip<|t_n<|c_s<|wp_block ?_
 have hcl:=code_le HFC (k:=k) Om
 refine c_sr<|pq 1 hF rfl fun a hF=>l_nil<|t_n<|wp_block ?_;refine c_loop (G:=Nat) (fun m:Nat=>[(12,.int .i64 (m:Int))]) (fun m:Nat=>[]) (fun m:Nat=>m≤(x.parts.getD k P0).1.code.length∧∀i,i<m→insOk x.chans k ((x.parts.getD k P0).1.code.getD i I0)=true) (fun m:Nat=>(x.parts.getD k P0).1.code.length - m) 0 (hF.ks [0,1,3,4,5,7,8,10,11,32,35,48,65,80,113,138] rfl) (Fr.cons hF (t:=12) rfl Rg (Fr.nil hF)) (hW) ?_ ?_
 exact⟨by omega,fun i hi=>by omega⟩
 clear hF hW
 try clear a
 intro m a wc hC hF hW
 obtain⟨hm,hin⟩:=hC
 refine c_s<|c_sr<|pq 2 hF rfl fun a hF=>pv hF hW (y_loadOwn hF rfl 0 rfl rfl Tryz.underlying35 rfl) fun a hF=>pq 1 hF rfl fun a hF=>pv hF hW (y_indexS hF rfl rfl Od Tryz.underlying35 sz_43 (fun w h=>(hx.partsR).wd h)) fun a hF=>pv hF hW (y_fieldRow hF rfl fa_43_0) fun a hF=>pv hF hW (y_loadRow hF rfl (fun w h=>(hx.partsR).wd h) Od rfl Tryz.underlying40 rfl) fun a hF=>pq 2 hF rfl fun a hF=>?_;refine Fr.splitD hF (fun h20 hF=>?_) (fun h20 hF=>?_);refine l_nil<|t_n<|c_t hF rfl<|wp_skip<|t_n<|c_s<|wp_block<|c_sr<|pq 1 hF rfl fun a hF=>pv hF hW (y_loadOwn hF rfl 0 rfl rfl Tryz.underlying35 rfl) fun a hF=>pq 1 hF rfl fun a hF=>pv hF hW (y_indexS hF rfl rfl Od Tryz.underlying35 sz_43 (fun w h=>(hx.partsR).wd h)) fun a hF=>pv hF hW (y_fieldRow hF rfl fa_43_0) fun a hF=>pv hF hW (y_loadRow hF rfl (fun w h=>(hx.partsR).wd h) Od rfl Tryz.underlying40 rfl) fun a hF=>pq 1 hF rfl fun a hF=>pv hF hW (y_indexS hF rfl rfl Od Tryz.underlying40 sz_118 (fun w h=>((hx.codeR (k:=k) Om)).wd h)) fun a hF=>pv hF hW (y_loadRowW hF rfl (fun w h=>((hx.codeR (k:=k) Om)).wd h) Od Tryz.underlying118 rfl sz_118) fun a hF=>pe<|e_alloc hF hW ze_118 rfl rfl rfl fun b21 a wc hF hW=>pe<|e_storeAll rfl hF hW rfl rfl 0 rfl rfl rfl Kr sz_118 fun wc hW=>l_nil ?_;replace hF:=hF.ks [0,1,3,4,5,7,8,10,11,12,13,32,35,48,65,80,113,138,149] rfl;refine t_n<|c_sr<|pq 1 hF rfl fun a hF=>pv hF hW (y_loadOwn hF rfl 0 rfl rfl Tryz.underlying3 rfl) fun a hF=>pq 1 hF rfl fun a hF=>?_;refine Fr.splitD hF (fun h22 hF=>?_) (fun h22 hF=>?_);refine pq 2 hF rfl fun a hF=>pvg hF hW (y_loadOwn hF rfl 0 rfl rfl Tryz.underlying3 rfl) (ws hF rfl rfl) fun a hF=>pq 1 hF rfl fun a hF=>pvg hF hW (y_loadOwn hF rfl 1 rfl rfl Tryz.underlying36 rfl) (ws hF rfl rfl) fun a hF=>pq 2 hF rfl fun a hF=>?_;refine Fr.splitD hF (fun h23 hF=>?_) (fun h23 hF=>?_);refine pq 36 hF rfl fun a hF=>l_nil ?_;replace hF:=hF.ks [0,1,3,4,5,7,8,10,11,12,13,32,35,48,65,80,113,138,149,206] rfl;refine t_n<|c_t hF rfl<|c_sr<|pq 1 hF rfl fun a hF=>l_nil<|t_n<|wp_ret<|b_r<|t_r<|t_r<|b_r<|b_r<|t_r<|t_r<|b_r<|t_r ?_
 refine ret1 Tryz.results69 hF (rv_t hF rfl) ?_
 exact⟨by rw[chkSys_1 HS HFC HKD HCH HSL (names_false (k:=k) (i:=m) Om Om (ins_bad12 Om Om))],hW.below⟩
 refine pq 2 hF rfl fun a hF=>pvg hF hW (y_loadOwn hF rfl 1 rfl rfl Tryz.underlying36 rfl) (ws hF rfl rfl) fun a hF=>pq 1 hF rfl fun a hF=>pvg hF hW (y_loadOwn hF rfl 0 rfl rfl Tryz.underlying3 rfl) (ws hF rfl rfl) fun a hF=>?_;replace hF:=Fr.cast (v':=.int .i64 ((((x.parts.getD k P0).1.code.getD m I0).n.toNat:Nat):Int)) (by exact chan_nat HFC Om Om Om) hF;refine pvg hF hW (y_indexS hF rfl rfl (by have:=chan_num HFC (k:=k) (i:=m) Om Om Om;omega) Tryz.underlying36 sz_121 (fun w h=>(hx.chansR).wd h)) (ws hF rfl rfl) fun a hF=>pvg hF hW (y_fieldRow hF rfl fa_121_1) (ws hF rfl rfl) fun a hF=>pvg hF hW (y_loadRow hF rfl (fun w h=>(hx.chansR).wd h) (by have:=chan_num HFC (k:=k) (i:=m) Om Om Om;omega) rfl Tryz.underlying3 rfl) (ws hF rfl rfl) fun a hF=>pq 2 hF rfl fun a hF=>?_;refine Fr.splitD hF (fun h24 hF=>?_) (fun h24 hF=>?_);refine pq 26 hF rfl fun a hF=>l_nil ?_;replace hF:=hF.ks [0,1,3,4,5,7,8,10,11,12,13,32,35,48,65,80,113,138,149,206] rfl;refine t_n<|c_t hF rfl<|c_sr<|pq 1 hF rfl fun a hF=>l_nil<|t_n<|wp_ret<|b_r<|t_r<|t_r<|b_r<|b_r<|t_r<|t_r<|b_r<|t_r<|ret1 Tryz.results69 hF (rv_t hF rfl) ?_
 exact⟨by rw[chkSys_1 HS HFC HKD HCH HSL (names_false (k:=k) (i:=m) Om Om (ins_bad12 Om Om))],hW.below⟩
 refine pq 4 hF rfl fun a hF=>pvg hF hW (y_loadOwn hF rfl 0 rfl rfl Tryz.underlying3 rfl) (ws hF rfl rfl) fun a hF=>pq 1 hF rfl fun a hF=>?_;refine Fr.splitD hF (fun h25 hF=>?_) (fun h25 hF=>?_);refine pq 2 hF rfl fun a hF=>pvg hF hW (y_loadOwn hF rfl 0 rfl rfl Tryz.underlying3 rfl) (ws hF rfl rfl) fun a hF=>pq 1 hF rfl fun a hF=>pvg hF hW (y_loadOwn hF rfl 1 rfl rfl Tryz.underlying36 rfl) (ws hF rfl rfl) fun a hF=>pq 2 hF rfl fun a hF=>?_;refine Fr.splitD hF (fun h26 hF=>?_) (fun h26 hF=>?_);refine pq 13 hF rfl fun a hF=>l_nil ?_;replace hF:=hF.ks [0,1,3,4,5,7,8,10,11,12,13,32,35,48,65,80,113,138,149,206] rfl;refine t_n<|c_t hF rfl<|c_sr<|pq 1 hF rfl fun a hF=>l_nil<|t_n<|wp_ret<|b_r<|t_r<|t_r<|b_r<|b_r<|t_r<|t_r<|b_r<|t_r<|ret1 Tryz.results69 hF (rv_t hF rfl) ?_
 exact⟨by rw[chkSys_1 HS HFC HKD HCH HSL (names_false (k:=k) (i:=m) Om Om (ins_bad13 Om Om))],hW.below⟩
 refine pq 2 hF rfl fun a hF=>pvg hF hW (y_loadOwn hF rfl 1 rfl rfl Tryz.underlying36 rfl) (ws hF rfl rfl) fun a hF=>pq 1 hF rfl fun a hF=>pvg hF hW (y_loadOwn hF rfl 0 rfl rfl Tryz.underlying3 rfl) (ws hF rfl rfl) fun a hF=>?_;replace hF:=Fr.cast (v':=.int .i64 ((((x.parts.getD k P0).1.code.getD m I0).n.toNat:Nat):Int)) (by exact chan_nat HFC Om Om Om) hF;refine pvg hF hW (y_indexS hF rfl rfl (by have:=chan_num HFC (k:=k) (i:=m) Om Om Om;omega) Tryz.underlying36 sz_121 (fun w h=>(hx.chansR).wd h)) (ws hF rfl rfl) fun a hF=>pvg hF hW (y_fieldRow hF rfl fa_121_2) (ws hF rfl rfl) fun a hF=>pvg hF hW (y_loadRow hF rfl (fun w h=>(hx.chansR).wd h) (by have:=chan_num HFC (k:=k) (i:=m) Om Om Om;omega) rfl Tryz.underlying3 rfl) (ws hF rfl rfl) fun a hF=>pq 2 hF rfl fun a hF=>?_;refine Fr.splitD hF (fun h27 hF=>?_) (fun h27 hF=>?_);refine pq 3 hF rfl fun a hF=>l_nil ?_;replace hF:=hF.ks [0,1,3,4,5,7,8,10,11,12,13,32,35,48,65,80,113,138,149,206] rfl;refine t_n<|c_t hF rfl<|c_sr<|pq 1 hF rfl fun a hF=>l_nil<|t_n<|wp_ret<|b_r<|t_r<|t_r<|b_r<|b_r<|t_r<|t_r<|b_r<|t_r<|ret1 Tryz.results69 hF (rv_t hF rfl) ?_
 exact⟨by rw[chkSys_1 HS HFC HKD HCH HSL (names_false (k:=k) (i:=m) Om Om (ins_bad13 Om Om))],hW.below⟩
 refine pq 3 hF rfl fun a hF=>l_nil ?_;replace hF:=hF.ks [0,1,3,4,5,7,8,10,11,12,13,32,35,48,65,80,113,138,149,206] rfl;refine t_n<|c_f hF rfl<|wp_skip<|b_n<|t_n<|c_r<|pq 1 hF rfl fun a hF=>pv hF hW (y_add hF rfl rfl (IntWalk.i64_in _ Om)) fun a hF=>pq 1 hF rfl fun a hF=>l_nil ?_;replace hW:=hW.del 0 rfl;refine t_n ?_;refine⟨(m+1),?_,?_,?_,?_⟩
 exact⟨by omega,fun i hi=>by rcases Nat.lt_or_ge i m with h|h;exact hin i h;(have hik:i=m:=by omega);rw[hik];exact ins_good (fun _=>⟨by omega,by omega⟩) (fun _=>⟨by omega,by omega⟩)⟩
 first|omega|(dsimp only;omega)
 exact hF.a1 rfl rfl
 exact hW
 refine pq 20 hF rfl fun a hF=>l_nil ?_;replace hF:=hF.ks [0,1,3,4,5,7,8,10,11,12,13,32,35,48,65,80,113,138,149,206] rfl;refine t_n<|c_f hF rfl<|wp_skip<|b_n<|t_n<|c_r<|pq 1 hF rfl fun a hF=>pv hF hW (y_add hF rfl rfl (IntWalk.i64_in _ Om)) fun a hF=>pq 1 hF rfl fun a hF=>l_nil ?_;replace hW:=hW.del 0 rfl;refine t_n ?_;refine⟨(m+1),?_,?_,?_,?_⟩
 exact⟨by omega,fun i hi=>by rcases Nat.lt_or_ge i m with h|h;exact hin i h;(have hik:i=m:=by omega);rw[hik];exact ins_good (fun _=>⟨by omega,by omega⟩) (fun _=>⟨by omega,by omega⟩)⟩
 first|omega|(dsimp only;omega)
 exact hF.a1 rfl rfl
 exact hW
 refine pq 21 hF rfl fun a hF=>pvg hF hW (y_loadOwn hF rfl 0 rfl rfl Tryz.underlying3 rfl) (ws hF rfl rfl) fun a hF=>pq 1 hF rfl fun a hF=>?_;refine Fr.splitD hF (fun h28 hF=>?_) (fun h28 hF=>?_);refine pq 2 hF rfl fun a hF=>pvg hF hW (y_loadOwn hF rfl 0 rfl rfl Tryz.underlying3 rfl) (ws hF rfl rfl) fun a hF=>pq 1 hF rfl fun a hF=>pvg hF hW (y_loadOwn hF rfl 1 rfl rfl Tryz.underlying36 rfl) (ws hF rfl rfl) fun a hF=>pq 2 hF rfl fun a hF=>?_;refine Fr.splitD hF (fun h29 hF=>?_) (fun h29 hF=>?_);refine pq 13 hF rfl fun a hF=>l_nil ?_;replace hF:=hF.ks [0,1,3,4,5,7,8,10,11,12,13,32,35,48,65,80,113,138,149,206] rfl;refine t_n<|c_t hF rfl<|c_sr<|pq 1 hF rfl fun a hF=>l_nil<|t_n<|wp_ret<|b_r<|t_r<|t_r<|b_r<|b_r<|t_r<|t_r<|b_r<|t_r<|ret1 Tryz.results69 hF (rv_t hF rfl) ?_
 exact⟨by rw[chkSys_1 HS HFC HKD HCH HSL (names_false (k:=k) (i:=m) Om Om (ins_bad13 Om Om))],hW.below⟩
 refine pq 2 hF rfl fun a hF=>pvg hF hW (y_loadOwn hF rfl 1 rfl rfl Tryz.underlying36 rfl) (ws hF rfl rfl) fun a hF=>pq 1 hF rfl fun a hF=>pvg hF hW (y_loadOwn hF rfl 0 rfl rfl Tryz.underlying3 rfl) (ws hF rfl rfl) fun a hF=>?_;replace hF:=Fr.cast (v':=.int .i64 ((((x.parts.getD k P0).1.code.getD m I0).n.toNat:Nat):Int)) (by exact chan_nat HFC Om Om Om) hF;refine pvg hF hW (y_indexS hF rfl rfl (by have:=chan_num HFC (k:=k) (i:=m) Om Om Om;omega) Tryz.underlying36 sz_121 (fun w h=>(hx.chansR).wd h)) (ws hF rfl rfl) fun a hF=>pvg hF hW (y_fieldRow hF rfl fa_121_2) (ws hF rfl rfl) fun a hF=>pvg hF hW (y_loadRow hF rfl (fun w h=>(hx.chansR).wd h) (by have:=chan_num HFC (k:=k) (i:=m) Om Om Om;omega) rfl Tryz.underlying3 rfl) (ws hF rfl rfl) fun a hF=>pq 2 hF rfl fun a hF=>?_;refine Fr.splitD hF (fun h30 hF=>?_) (fun h30 hF=>?_);refine pq 3 hF rfl fun a hF=>l_nil ?_;replace hF:=hF.ks [0,1,3,4,5,7,8,10,11,12,13,32,35,48,65,80,113,138,149,206] rfl;refine t_n<|c_t hF rfl<|c_sr<|pq 1 hF rfl fun a hF=>l_nil<|t_n<|wp_ret<|b_r<|t_r<|t_r<|b_r<|b_r<|t_r<|t_r<|b_r<|t_r<|ret1 Tryz.results69 hF (rv_t hF rfl) ?_
 exact⟨by rw[chkSys_1 HS HFC HKD HCH HSL (names_false (k:=k) (i:=m) Om Om (ins_bad13 Om Om))],hW.below⟩
 refine pq 3 hF rfl fun a hF=>l_nil ?_;replace hF:=hF.ks [0,1,3,4,5,7,8,10,11,12,13,32,35,48,65,80,113,138,149,206] rfl;refine t_n<|c_f hF rfl<|wp_skip<|b_n<|t_n<|c_r<|pq 1 hF rfl fun a hF=>pv hF hW (y_add hF rfl rfl (IntWalk.i64_in _ Om)) fun a hF=>pq 1 hF rfl fun a hF=>l_nil ?_;replace hW:=hW.del 0 rfl;refine t_n ?_;refine⟨(m+1),?_,?_,?_,?_⟩
 exact⟨by omega,fun i hi=>by rcases Nat.lt_or_ge i m with h|h;exact hin i h;(have hik:i=m:=by omega);rw[hik];exact ins_good (fun _=>⟨by omega,by omega⟩) (fun _=>⟨by omega,by omega⟩)⟩
 first|omega|(dsimp only;omega)
 exact hF.a1 rfl rfl
 exact hW
 refine pq 20 hF rfl fun a hF=>l_nil ?_;replace hF:=hF.ks [0,1,3,4,5,7,8,10,11,12,13,32,35,48,65,80,113,138,149,206] rfl;refine t_n<|c_f hF rfl<|wp_skip<|b_n<|t_n<|c_r<|pq 1 hF rfl fun a hF=>pv hF hW (y_add hF rfl rfl (IntWalk.i64_in _ Om)) fun a hF=>pq 1 hF rfl fun a hF=>l_nil ?_;replace hW:=hW.del 0 rfl;refine t_n ?_;refine⟨(m+1),?_,?_,?_,?_⟩
 exact⟨by omega,fun i hi=>by rcases Nat.lt_or_ge i m with h|h;exact hin i h;(have hik:i=m:=by omega);rw[hik];exact ins_good (fun _=>⟨by omega,by omega⟩) (fun _=>⟨by omega,by omega⟩)⟩
 first|omega|(dsimp only;omega)
 exact hF.a1 rfl rfl
 exact hW
 refine l_nil<|t_n<|c_f hF rfl<|wp_exit<|t_x<|t_x<|b_h<|b_n<|t_n<|c_r<|pq 1 hF rfl fun a hF=>pv hF hW (y_add hF rfl rfl (IntWalk.i64_in _ Om)) fun a hF=>pq 1 hF rfl fun a hF=>l_nil<|t_n ?_;refine⟨(k+1),?_,?_,?_,?_⟩
 exact⟨by omega,fun q hq=>by rcases Nat.lt_or_ge q k with h|h;exact hnm q h;(have hik:q=k:=by omega);rw[hik];exact fun i hi=>hin i Om⟩
 first|omega|(dsimp only;omega)
 exact hF.a1 rfl rfl
 exact hW
 refine l_nil<|t_n<|c_f hF rfl<|wp_exit<|t_x<|t_x<|b_h<|t_n<|c_sr<|pq 1 hF rfl fun a hF=>l_nil<|t_n<|wp_ret<|ret1 Tryz.results69 hF (rv_t hF rfl) ?_
 exact⟨by rw[chkSys_0 HS HFC HKD HCH HSL (names_true fun q hq=>hnm q Om)],hW.below⟩
 refine pq 2 hF rfl fun a hF=>?_;replace hF:=hF.tt;refine l_nil ?_;replace hF:=hF.ks [0,1,2,3,32] rfl;refine t_n<|c_t hF rfl<|c_sr<|pq 1 hF rfl fun a hF=>l_nil<|t_n<|wp_ret<|t_r<|ret1 Tryz.results69 hF (rv_t hF rfl) ?_
 exact⟨by rw[chkSys_2 (sizes_false (by simp only[decide_eq_false_iff_not,decide_eq_true_eq] at*;omega))],hW.below⟩
 refine pq 2 hF rfl fun a hF=>?_;replace hF:=hF.tt;refine pq 12 hF rfl fun a hF=>l_nil ?_;replace hF:=hF.ks [0,1,2,3,32] rfl;refine t_n<|c_t hF rfl<|c_sr<|pq 1 hF rfl fun a hF=>l_nil<|t_n<|wp_ret<|t_r<|ret1 Tryz.results69 hF (rv_t hF rfl) ?_
 exact⟨by rw[chkSys_2 (sizes_false (by simp only[decide_eq_false_iff_not,decide_eq_true_eq] at*;omega))],hW.below⟩
end Go.Proofs.YtndcjmopebcdgaaGreatDoor
