/- The partition that does nothing; is there such a partition? conf.Check finds what the reference finds. -/
import Derived.Test.YtndcjmopebcdgaaGreatSysRef
import Derived.Test.YtndcjmopebcdgaaGreatConfB1
import Derived.Test.YtndcjmopebcdgaaGreatSysB
set_option linter.unusedSimpArgs false
set_option linter.unusedVariables false
namespace Go.Proofs.YtndcjmopebcdgaaGreat
section
open Go.ChangeShapes Go.WideShapes Go.ChangeAt Go.RowKit
theorem bs_SysThere_47_1_0(x0:Int)(x1:Int)(x2:Int)(x3:Int)(w:World):(Instr.buildSlice 47 1 #[(0,(.agg #[(.int .i64 x0),(.int .i64 x1),(.int .i64 x2),(.int .i64 x3)]))]).run Tryz.prog w=.ok (.slice (some ⟨w.heap.size,0,none⟩) 1 1) (w.alloc (.cells #[(.int .i64 x0),(.int .i64 x1),(.int .i64 x2),(.int .i64 x3)] 51)):=by kernel_rfl
theorem bu_SysThere_49_0(x0:Option Addr)(x0n x0c:Nat)(w:World):(Instr.build 49 #[(0,(.slice x0 x0n x0c))]).run Tryz.prog w=.ok (.agg #[(.slice x0 x0n x0c),(.slice none 0 0)]) w:=by kernel_rfl
theorem bu_SysThere_51_0(x0:Int)(w:World):(Instr.build 51 #[(0,(.int .i64 x0))]).run Tryz.prog w=.ok (.agg #[(.int .i64 x0),(.int .i64 0),(.int .i64 0),(.int .i64 0)]) w:=by kernel_rfl
set_option maxRecDepth 100000
def calmP:Prt:=⟨[⟨15,0,0,0⟩],[]⟩
def thereErr(s:Sys)(p:Int):Int:=if chkSys s=0 then(if 0≤p∧p<s.parts.length then 0 else 5) else chkSys s
theorem there_c{s:Sys}{p:Int}(h:chkSys s≠0):thereErr s p=chkSys s:=if_neg h
theorem there_5{s:Sys}{p:Int}(h:chkSys s=0)(h2:¬(0≤p∧p<s.parts.length)):thereErr s p=5:=by unfold thereErr;rw[if_pos h,if_neg h2]
theorem there_0{s:Sys}{p:Int}(h:chkSys s=0)(h2:0≤p∧p<s.parts.length):thereErr s p=0:=by unfold thereErr;rw[if_pos h,if_pos h2]
theorem there_zero{s:Sys}{p:Int}(h:thereErr s p=0):chkSys s=0∧0≤p∧p<s.parts.length:=by
 unfold thereErr at h
 by_cases h1:chkSys s=0
 ·rw[if_pos h1] at h
  by_cases h2:0≤p∧p<s.parts.length
  ·exact⟨h1,h2⟩
  ·rw[if_neg h2] at h;cases h
 ·rw[if_neg h1] at h;exact absurd h h1
theorem chkSys_zero{s:Sys}(h:chkSys s=0):sizesOk s=true∧firstCode s.parts=0∧(s.chans.all fun c=>kindOk c.kind)=true∧s.chans.all (chnOk s.parts.length)=true∧s.slots.all (sltOk s.parts.length)=true∧namesFrom s.chans 0 s.parts=true:=by
 unfold chkSys at h
 split at h
 ·cases h
 ·split at h
  ·exact absurd h Am
  ·split at h
   ·cases h
   ·split at h
    ·cases h
    ·split at h
     ·cases h
     ·split at h
      ·cases h
      ·exact⟨by simp_all,by simp_all,by simp_all,by simp_all,by simp_all,by simp_all⟩
theorem sizes_get{x:SysD}(h:sizesOk x.sys=true):(1≤x.parts.length∧x.parts.length≤4)∧x.chans.length≤6∧(1≤x.slots.length∧x.slots.length≤6)∧∀k,k<x.parts.length→(x.parts.getD k P0).1.inp.length≤12:=by
 simp only[sizesOk,SysD.sys,List.length_map,Bool.and_eq_true] at h
 obtain⟨h1,h2⟩:=h
 have h3:=of_decide_eq_true h1
 refine⟨⟨h3.1,h3.2.1⟩,h3.2.2.1,h3.2.2.2,fun k hk=>?_⟩
 have h4:=(all_getD P0.1).1 h2 k (by simpa using hk)
 rw[getD_map] at h4
 exact of_decide_eq_true h4
theorem part_len{x:SysD}{p:Int}(h:0≤p∧p<x.sys.parts.length):0≤p∧p<x.parts.length:=by
 have e:x.sys.parts.length=x.parts.length:=by simp[SysD.sys]
 omega
theorem calmR_any(w:World):Calls Tryz.prog 44 #[] w fun e w'=>∃q:PP,e=.returned (.agg (encP q).toArray)∧q.1=calmP∧Below w.heap.size w w'∧OwnRes w w' q.At:=by
 refine enter Tryz.func44 rfl Tryz.ntmps44 rfl fun a hF=>?_
 have hW:=Wd.start w NoB
 refine c_sr ?_;refine pe (e_alloc hF hW ze_49 rfl rfl rfl ?_);intro b1 a wc hF hW;refine l_nil<|t_n<|c_sr<|pv hF hW (y_build hF rfl (fun w=>bu_SysThere_51_0 _ w)) fun a hF=>?_;refine pe (e_buildSlice hF hW rfl (fun w=>bs_SysThere_47_1_0 _ _ _ _ w) rfl rfl rfl ?_);intro b2 a wc hF hW;refine pv hF hW (y_build hF rfl (fun w=>bu_SysThere_49_0 _ _ _ w)) fun a hF=>?_;refine pe (e_storeAll rfl hF hW rfl rfl 1 rfl rfl rfl Kr sz_49 ?_);intro wc hW;refine l_nil ?_;replace hF:=hF.ks [0] rfl;refine t_n<|wp_ret<|ret1 Tryz.results44 hF (rv_c hF rfl hW 1 rfl Tryz.underlying49 rfl sz_49) ?_
 exact⟨(calmP,⟨some ⟨_,0,none⟩,1,none,0⟩),rfl,rfl,hW.below,(hW.res_blk 0 rfl).mono fun u h=>⟨flat_blk h rfl rfl rfl (show 1≤maxLen by decide),Ints.nil_⟩⟩
theorem still_any(w:World):Calls Tryz.prog 32 #[] w fun e w'=>∃q:PP,e=.returned (.agg (encP q).toArray)∧q.1=calmP∧Below w.heap.size w w'∧OwnRes w w' q.At:=by
 refine enter Tryz.func32 rfl Tryz.ntmps32 rfl fun a hF=>?_
 have hW:=Wd.start w NoB
 refine c_sr ?_;refine pe (e_alloc hF hW ze_49 rfl rfl rfl ?_);intro b1 a wc hF hW;refine l_nil<|t_n<|c_sr<|pv hF hW (y_build hF rfl (fun w=>bu_SysThere_51_0 _ w)) fun a hF=>?_;refine pe (e_buildSlice hF hW rfl (fun w=>bs_SysThere_47_1_0 _ _ _ _ w) rfl rfl rfl ?_);intro b2 a wc hF hW;refine pv hF hW (y_build hF rfl (fun w=>bu_SysThere_49_0 _ _ _ w)) fun a hF=>?_;refine pe (e_storeAll rfl hF hW rfl rfl 1 rfl rfl rfl Kr sz_49 ?_);intro wc hW;refine l_nil ?_;replace hF:=hF.ks [0] rfl;refine t_n<|wp_ret<|ret1 Tryz.results32 hF (rv_c hF rfl hW 1 rfl Tryz.underlying49 rfl sz_49) ?_
 exact⟨(calmP,⟨some ⟨_,0,none⟩,1,none,0⟩),rfl,rfl,hW.below,(hW.res_blk 0 rfl).mono fun u h=>⟨flat_blk h rfl rfl rfl (show 1≤maxLen by decide),Ints.nil_⟩⟩
theorem thereR_any{x:SysD}{w:World}(hx:x.At w)(p:Int):
  Calls Tryz.prog 37 #[x.val,.int .i64 p] w fun e w'=>e=.returned (.int .i64 (thereErr x.sys p))∧Below w.heap.size w w':=by
 have hl:=hx.parts.len
 unfold maxLen at hl
 have hp:=fun h=>part_len (x:=x) (p:=p) h
 have hp':0≤p∧p<x.parts.length→0≤p∧p<x.sys.parts.length:=fun h=>by simpa[SysD.sys] using h
 rw[x.val_eq]
 refine enter Tryz.func37 rfl Tryz.ntmps37 rfl fun a hF=>?_
 have hW:=Wd.start w NoB
 refine c_sr ?_;refine pe (e_box hF hW rfl rfl rfl rfl ?_);intro b1 a wc hF hW;refine pv hF hW (y_assign hF rfl) fun a hF=>l_nil<|t_n<|c_s<|c_sr<|pv hF hW (y_loadAll hF rfl 0 rfl Tryz.underlying26 rfl sz_26) fun a hF=>?_;refine pe (e_call hF rfl rfl en_16 Rl rfl rfl (checkSystem_any (hx.below hW.below)) ?_);rintro e w1 ⟨rfl,hb⟩;replace hW:=hW.kept hb;clear hb;refine⟨_,rfl,fun a hF=>?_⟩;refine pv hF hW (y_assign hF rfl) fun a hF=>l_nil ?_;replace hF:=hF.ks [0,1,2,4,5] rfl;refine t_n<|c_sr<|pv hF hW (y_move hF rfl) fun a hF=>pv hF hW (y_neq hF rfl rfl) fun a hF=>?_;refine Fr.splitD hF ?_ ?_
 ·intro h2 hF;refine l_nil ?_;replace hF:=hF.ks [0,1,2,4,5,9] rfl;refine t_n<|c_t hF rfl<|c_sr<|pv hF hW (y_move hF rfl) fun a hF=>?_;replace hF:=hF.drop 4;refine pv hF hW (y_assign hF rfl) fun a hF=>l_nil ?_;replace hF:=hF.ks [0,1,2,4,5,9] rfl;refine t_n<|wp_ret<|t_r<|ret1 Tryz.results37 hF (rv_t hF rfl) ?_
  exact⟨by rw[there_c Am],hW.below⟩
 ·intro h2 hF;refine l_nil ?_;replace hF:=hF.ks [0,1,2,4,5,9] rfl;refine t_n<|c_f hF rfl<|wp_skip<|t_n<|c_s<|c_sr<|pv hF hW (y_move hF rfl) fun a hF=>pv hF hW (y_fieldOwn hF rfl fa_26_0) fun a hF=>pv hF hW (y_loadOwn hF rfl 0 rfl rfl Tryz.underlying22 rfl) fun a hF=>pv hF hW (y_len hF rfl Tryz.underlying22) fun a hF=>pv hF hW (y_sub hF rfl rfl (IntWalk.i64_in _ Om)) fun a hF=>?_;refine pe (e_call hF rfl rfl en_17 Rl rfl rfl (withinD_any _ _ _ _) ?_);rintro e w1 ⟨rfl,hb⟩;replace hW:=hW.kept hb;clear hb;refine⟨_,rfl,fun a hF=>?_⟩;refine Fr.splitB hF ?_ ?_
  ·intro h3 hF;refine pv hF hW (y_not hF rfl) fun a hF=>?_;replace hF:=hF.ff;refine l_nil ?_;replace hF:=hF.ks [0,1,2,4,5,9,17] rfl;refine t_n<|c_f hF rfl<|wp_skip<|t_n<|c_sr ?_;replace hF:=hF.drop 4;refine pv hF hW (y_assign hF rfl) fun a hF=>l_nil<|t_n<|wp_ret<|ret1 Tryz.results37 hF (rv_t hF rfl) ?_
   exact⟨by rw[there_0 Om (hp' (by simp only[decide_eq_true_eq] at*;omega))],hW.below⟩
  ·intro h3 hF;refine pv hF hW (y_not hF rfl) fun a hF=>?_;replace hF:=hF.tt;refine l_nil ?_;replace hF:=hF.ks [0,1,2,4,5,9,17] rfl;refine t_n<|c_t hF rfl<|c_sr ?_;replace hF:=hF.drop 4;refine pv hF hW (y_assign hF rfl) fun a hF=>l_nil<|t_n<|wp_ret<|t_r<|ret1 Tryz.results37 hF (rv_t hF rfl) ?_
   exact⟨by rw[there_5 Om (fun h=>by have:=hp h;simp only[decide_eq_false_iff_not] at*;omega)],hW.below⟩
theorem thereRR_any{x:SysD}{w:World}(hx:x.At w)(p:Int):
  Calls Tryz.prog 13 #[x.val,.int .i64 p] w fun e w'=>e=.returned (.int .i64 (thereErr x.sys p))∧Below w.heap.size w w':=by
 rw[x.val_eq]
 refine enter Tryz.func13 rfl Tryz.ntmps13 rfl fun a hF=>?_
 have hW:=Wd.start w NoB
 refine c_sr ?_;refine pe (e_box hF hW rfl rfl rfl rfl ?_);intro b1 a wc hF hW;refine pv hF hW (y_assign hF rfl) fun a hF=>l_nil<|t_n<|c_sr<|pv hF hW (y_loadAll hF rfl 0 rfl Tryz.underlying26 rfl sz_26) fun a hF=>pv hF hW (y_move hF rfl) fun a hF=>?_;refine pe (e_call hF rfl rfl en_37 Rl rfl rfl (thereR_any (hx.below hW.below) p) ?_);rintro e w1 ⟨rfl,hb⟩;replace hW:=hW.kept hb;clear hb;refine⟨_,rfl,fun a hF=>?_⟩;replace hF:=hF.drop 4;refine pv hF hW (y_assign hF rfl) fun a hF=>l_nil ?_;replace hF:=hF.ks [0,1,2,4] rfl;refine t_n<|wp_ret<|ret1 Tryz.results13 hF (rv_t hF rfl) ?_
 exact⟨rfl,hW.below⟩
end
section
open Go.ChangeShapes Go.WideShapes Go.ChangeAt Go.RowKit
set_option maxRecDepth 100000
section
variable {x:SysD} {w:World} {b1:Nat} {T1:TypeId}
theorem names_iff{cs:List Chn}{k:Nat}{l:List Ins}(hn:∀i,i∈l→i.op=12∨i.op=13→0≤i.n):l.all (insOk cs k)=(!(namedOf 12 l).any (badPut cs k)&& !(namedOf 13 l).any (badGet cs k)):=by
 rw[Bool.eq_iff_iff,List.all_eq_true,Bool.and_eq_true,Bool.not_eq_true',Bool.not_eq_true',List.any_eq_false,List.any_eq_false]
 constructor
 ·intro h
  refine⟨fun m hm=>?_,fun m hm=>?_⟩
  ·obtain⟨i,hi,ho,rfl⟩:=mem_namedOf.1 hm
   have:=h i hi
   simp only[insOk,ho] at this
   simp only[badPut]
   simp_all
  ·obtain⟨i,hi,ho,rfl⟩:=mem_namedOf.1 hm
   have:=h i hi
   simp only[insOk,ho] at this
   simp only[badGet]
   simp_all
 ·rintro⟨h1,h2⟩ i hi
  by_cases h12:i.op=12
  ·have:=h1 i.n (mem_namedOf.2 ⟨i,hi,h12,rfl⟩)
   simp only[badPut] at this
   simp only[insOk,h12]
   simp_all
  ·by_cases h13:i.op=13
   ·have:=h2 i.n (mem_namedOf.2 ⟨i,hi,h13,rfl⟩)
    simp only[badGet] at this
    simp only[insOk,h13]
    simp_all
   ·simp[insOk,h12,h13]
theorem someS1(hx:x.At w):Calls Tryz.prog 66 #[.slice x.pa x.parts.length x.pc,.func (.func 67) #[] #[]] w fun e w'=>e=.returned (.bool (x.parts.any fun q=>decide (12<q.1.inp.length)))∧Below w.heap.size w w':=
 (some_part (f:=fun k=>encP (x.parts.getD k P0)) (by have:=hx.parts.len;omega) hx.partsR (fun _=>rfl) en_67 tells1).mono fun e w' ⟨h,hb⟩=>⟨h.trans (by rw[any_getD P0 (fun q:PP=>decide (12<q.1.inp.length))]),hb⟩
theorem someS3(hx:x.At w):Calls Tryz.prog 70 #[.slice x.ha x.chans.length x.hc,.func (.func 71) #[] #[]] w fun e w'=>e=.returned (.bool (!x.chans.all fun c=>kindOk c.kind))∧Below w.heap.size w w':=
 (some_chan (f:=fun k=>Chn.cells (x.chans.getD k C0)) (by have:=hx.chans.len;omega) hx.chansR (fun _=>rfl) en_71 tells3).mono fun e w' ⟨h,hb⟩=>⟨h.trans (by rw[any_getD C0 (fun c:Chn=> !kindOk c.kind),any_not]),hb⟩
theorem someS4{b6:Nat}{T6:TypeId}(hx:x.At w)(hB:Blk w b1 T1 [.slice x.pa x.parts.length x.pc,.slice x.ha x.chans.length x.hc,.slice x.sa x.slots.length x.sc])(h6:Blk w b6 T6 [.func (.func 69) #[] #[.pointer (some ⟨b1,0,none⟩)]]):
  Calls Tryz.prog 70 #[.slice x.ha x.chans.length x.hc,.func (.func 72) #[] #[.pointer (some ⟨b6,0,none⟩)]] w fun e w'=>e=.returned (.bool (!x.chans.all (chnOk x.parts.length)))∧Below w.heap.size w w':=
 (some_chan (f:=fun k=>Chn.cells (x.chans.getD k C0)) (by have:=hx.chans.len;omega) hx.chansR (fun _=>rfl) en_72 (tells4 hB h6)).mono fun e w' ⟨h,hb⟩=>⟨h.trans (by rw[any_getD C0 (fun c:Chn=> !chnOk x.parts.length c),any_not]),hb⟩
theorem someS5{b6:Nat}{T6:TypeId}(hx:x.At w)(hB:Blk w b1 T1 [.slice x.pa x.parts.length x.pc,.slice x.ha x.chans.length x.hc,.slice x.sa x.slots.length x.sc])(h6:Blk w b6 T6 [.func (.func 69) #[] #[.pointer (some ⟨b1,0,none⟩)]]):
  Calls Tryz.prog 73 #[.slice x.sa x.slots.length x.sc,.func (.func 74) #[] #[.pointer (some ⟨b6,0,none⟩)]] w fun e w'=>e=.returned (.bool (!x.slots.all (sltOk x.parts.length)))∧Below w.heap.size w w':=
 (some_slot (f:=fun k=>Slt.cells (x.slots.getD k S0)) (by have:=hx.slots.len;omega) hx.slotsR (fun _=>rfl) en_74 (tells5 hB h6)).mono fun e w' ⟨h,hb⟩=>⟨h.trans (by rw[any_getD S0 (fun c:Slt=> !sltOk x.parts.length c),any_not]),hb⟩
theorem someS6{b7 p n c:Nat}{A:Option Addr}{T7:TypeId}{l:List Int}(hi:Ints w (.slice A n c) l)(hl:∀m,m∈l→0≤m)(hx:x.At w)(hB:Blk w b1 T1 [.slice x.pa x.parts.length x.pc,.slice x.ha x.chans.length x.hc,.slice x.sa x.slots.length x.sc])(h7:Blk w b7 T7 [.int .i64 p]):
  Calls Tryz.prog 77 #[.slice A n c,.func (.func 78) #[] #[.pointer (some ⟨b1,0,none⟩),.pointer (some ⟨b7,0,none⟩)]] w fun e w'=>e=.returned (.bool (l.any (badPut x.chans p)))∧Below w.heap.size w w':=by
 obtain rfl:n=l.length:=hi.len.1
 exact(some_int (f:=fun k=>l.getD k 0) (by have:=hi.len;omega) hi.rf en_78 (tells6 hl hx hB h7)).mono fun e w' ⟨h,hb⟩=>⟨h.trans (by rw[any_getD 0 (badPut x.chans p)]),hb⟩
theorem someS7{b7 p n c:Nat}{A:Option Addr}{T7:TypeId}{l:List Int}(hi:Ints w (.slice A n c) l)(hl:∀m,m∈l→0≤m)(hx:x.At w)(hB:Blk w b1 T1 [.slice x.pa x.parts.length x.pc,.slice x.ha x.chans.length x.hc,.slice x.sa x.slots.length x.sc])(h7:Blk w b7 T7 [.int .i64 p]):
  Calls Tryz.prog 77 #[.slice A n c,.func (.func 79) #[] #[.pointer (some ⟨b1,0,none⟩),.pointer (some ⟨b7,0,none⟩)]] w fun e w'=>e=.returned (.bool (l.any (badGet x.chans p)))∧Below w.heap.size w w':=by
 obtain rfl:n=l.length:=hi.len.1
 exact(some_int (f:=fun k=>l.getD k 0) (by have:=hi.len;omega) hi.rf en_79 (tells7 hl hx hB h7)).mono fun e w' ⟨h,hb⟩=>⟨h.trans (by rw[any_getD 0 (badGet x.chans p)]),hb⟩
end
theorem named_nonneg{l:List Ins}(h0:chkCode l=0)(hni:∀i,i∈l→i.op=12∨i.op=13→0≤i.n){op m:Int}(ho:op=12∨op=13)(hm:m∈namesOr op l):0≤m:=by
 rw[namesOr_ok h0] at hm
 obtain⟨i,hi,h1,rfl⟩:=mem_namedOf.1 hm
 exact hni i hi Om
theorem nfa{b:Bool}(h:(!b)=false):b=true:=by simpa using h
theorem nta{b:Bool}(h:(!b)=true):b=false:=by simpa using h
section
variable {x:SysD}
theorem inp_all(h:(x.parts.any fun q=>decide (12<q.1.inp.length))=false){k:Nat}(hk:k<x.parts.length):(x.parts.getD k P0).1.inp.length≤12:=by
 have:=List.any_eq_false.1 h _ (mem_getD P0 hk)
 simpa using this
theorem inp_bad(h:(x.parts.any fun q=>decide (12<q.1.inp.length))=true):sizesOk x.sys=false:=by
 obtain⟨q,hq,hl⟩:=List.any_eq_true.1 h
 obtain⟨k,hk,rfl⟩:=List.mem_iff_getElem.1 hq
 refine sizes_inp hk ?_
 rw[List.getD,List.getElem?_eq_getElem hk]
 simpa using hl
theorem names_bad{k:Nat}(hk:k<x.parts.length)(h:(x.parts.getD k P0).1.code.all (insOk x.chans k)=false):namesFrom x.sys.chans 0 x.sys.parts=false:=by
 cases hn:namesFrom x.sys.chans 0 x.sys.parts
 ·rfl
 ·have:=(namesFrom_iff _ _ _).1 hn k (by simpa[SysD.sys] using hk)
  have e:(x.sys.parts.getD k ⟨[],[]⟩)=(x.parts.getD k P0).1:=getD_map Prod.fst k P0
  rw[e,Nat.zero_add] at this
  exact absurd (h.symm.trans this) Bool.false_ne_true
theorem names_good(h:∀k,k<x.parts.length→(x.parts.getD k P0).1.code.all (insOk x.chans k)=true):namesFrom x.sys.chans 0 x.sys.parts=true:=
 (namesFrom_iff _ _ _).2 fun k hk=>by
  have e:(x.sys.parts.getD k ⟨[],[]⟩)=(x.parts.getD k P0).1:=getD_map Prod.fst k P0
  rw[e,Nat.zero_add]
  exact h k (by simpa[SysD.sys] using hk)
end
set_option maxHeartbeats 8000000 in
theorem confCheck_any{x:SysD}{w:World}(hx:x.At w):
  Calls Tryz.prog 47 #[x.val] w fun e w'=>e=.returned (.int .i64 (chkSys x.sys))∧Below w.heap.size w w':=by
 have hl1:=hx.parts.len
 have hl2:=hx.chans.len
 have hl3:=hx.slots.len
 unfold maxLen at hl1 hl2 hl3
 rw[x.val_eq]
 refine enter Tryz.func47 rfl Tryz.ntmps47 rfl fun a hF=>?_
 have hW:=Wd.start w NoB
 refine c_sr ?_;refine pe (e_box hF hW rfl rfl rfl rfl ?_);intro b1 a wc hF hW;refine pv hF hW (y_assign hF rfl) fun a hF=>l_nil<|t_n<|c_s<|c_sr<|pv hF hW (y_fieldOwn hF rfl fa_26_0) fun a hF=>pv hF hW (y_loadOwn hF rfl 0 rfl rfl Tryz.underlying22 rfl) fun a hF=>pv hF hW (y_len hF rfl Tryz.underlying22) fun a hF=>pv hF hW (y_lss hF rfl rfl) fun a hF=>?_;refine Fr.splitD hF ?_ ?_
 ·intro h2 hF;refine pv hF hW (y_move hF rfl) fun a hF=>pk hF (wn hF rfl rfl rfl) fun a hF=>pk hF (wn hF rfl rfl rfl) fun a hF=>pk hF (wn hF rfl rfl rfl) fun a hF=>pk hF (wn hF rfl rfl rfl) fun a hF=>pv hF hW (y_pick hF rfl rfl) fun a hF=>pv hF hW (y_move hF rfl) fun a hF=>pk hF (wn hF rfl rfl rfl) fun a hF=>pk hF (wn hF rfl rfl rfl) fun a hF=>pk hF (wn hF rfl rfl rfl) fun a hF=>pk hF (wn hF rfl rfl rfl) fun a hF=>pv hF hW (y_pick hF rfl rfl) fun a hF=>pv hF hW (y_move hF rfl) fun a hF=>pk hF (wn hF rfl rfl rfl) fun a hF=>pk hF (wn hF rfl rfl rfl) fun a hF=>pk hF (wn hF rfl rfl rfl) fun a hF=>pk hF (wn hF rfl rfl rfl) fun a hF=>pv hF hW (y_pick hF rfl rfl) fun a hF=>pv hF hW (y_move hF rfl) fun a hF=>pk hF (wn hF rfl rfl rfl) fun a hF=>pk hF (wn hF rfl rfl rfl) fun a hF=>pk hF (wn hF rfl rfl rfl) fun a hF=>pk hF (wn hF rfl rfl rfl) fun a hF=>pv hF hW (y_pick hF rfl rfl) fun a hF=>pv hF hW (y_move hF rfl) fun a hF=>pk hF (wn hF rfl rfl rfl) fun a hF=>pk hF (wn hF rfl rfl rfl) fun a hF=>pk hF (wn hF rfl rfl rfl) fun a hF=>pv hF hW (y_pick hF rfl rfl) fun a hF=>l_nil ?_;replace hF:=hF.ks [0,1,2,45] rfl;refine t_n<|c_t hF rfl<|c_sr ?_;replace hF:=hF.drop 2;refine pv hF hW (y_assign hF rfl) fun a hF=>l_nil<|t_n<|wp_ret<|t_r<|ret1 Tryz.results47 hF (rv_t hF rfl) ?_
  exact⟨by rw[chkSys_2 (sizes_false Om)],hW.below⟩
 ·intro h2 hF;refine pv hF hW (y_move hF rfl) fun a hF=>pvg hF hW (y_fieldOwn hF rfl fa_26_0) (ws hF rfl rfl) fun a hF=>pvg hF hW (y_loadOwn hF rfl 0 rfl rfl Tryz.underlying22 rfl) (ws hF rfl rfl) fun a hF=>pvg hF hW (y_len hF rfl Tryz.underlying22) (ws hF rfl rfl) fun a hF=>pvg hF hW (y_gtr hF rfl rfl) (ws hF rfl rfl) fun a hF=>?_;refine Fr.splitD hF ?_ ?_
  ·intro h3 hF;refine pv hF hW (y_pick hF rfl rfl) fun a hF=>pv hF hW (y_move hF rfl) fun a hF=>pk hF (wn hF rfl rfl rfl) fun a hF=>pk hF (wn hF rfl rfl rfl) fun a hF=>pk hF (wn hF rfl rfl rfl) fun a hF=>pk hF (wn hF rfl rfl rfl) fun a hF=>pv hF hW (y_pick hF rfl rfl) fun a hF=>pv hF hW (y_move hF rfl) fun a hF=>pk hF (wn hF rfl rfl rfl) fun a hF=>pk hF (wn hF rfl rfl rfl) fun a hF=>pk hF (wn hF rfl rfl rfl) fun a hF=>pk hF (wn hF rfl rfl rfl) fun a hF=>pv hF hW (y_pick hF rfl rfl) fun a hF=>pv hF hW (y_move hF rfl) fun a hF=>pk hF (wn hF rfl rfl rfl) fun a hF=>pk hF (wn hF rfl rfl rfl) fun a hF=>pk hF (wn hF rfl rfl rfl) fun a hF=>pk hF (wn hF rfl rfl rfl) fun a hF=>pv hF hW (y_pick hF rfl rfl) fun a hF=>pv hF hW (y_move hF rfl) fun a hF=>pk hF (wn hF rfl rfl rfl) fun a hF=>pk hF (wn hF rfl rfl rfl) fun a hF=>pk hF (wn hF rfl rfl rfl) fun a hF=>pv hF hW (y_pick hF rfl rfl) fun a hF=>l_nil ?_;replace hF:=hF.ks [0,1,2,45] rfl;refine t_n<|c_t hF rfl<|c_sr ?_;replace hF:=hF.drop 2;refine pv hF hW (y_assign hF rfl) fun a hF=>l_nil<|t_n<|wp_ret<|t_r<|ret1 Tryz.results47 hF (rv_t hF rfl) ?_
   exact⟨by rw[chkSys_2 (sizes_false Om)],hW.below⟩
  ·intro h3 hF;refine pv hF hW (y_pick hF rfl rfl) fun a hF=>pv hF hW (y_move hF rfl) fun a hF=>pvg hF hW (y_fieldOwn hF rfl fa_26_1) (ws hF rfl rfl) fun a hF=>pvg hF hW (y_loadOwn hF rfl 0 rfl rfl Tryz.underlying23 rfl) (ws hF rfl rfl) fun a hF=>pvg hF hW (y_len hF rfl Tryz.underlying23) (ws hF rfl rfl) fun a hF=>pvg hF hW (y_gtr hF rfl rfl) (ws hF rfl rfl) fun a hF=>?_;refine Fr.splitD hF ?_ ?_
   ·intro h4 hF;refine pv hF hW (y_pick hF rfl rfl) fun a hF=>pv hF hW (y_move hF rfl) fun a hF=>pk hF (wn hF rfl rfl rfl) fun a hF=>pk hF (wn hF rfl rfl rfl) fun a hF=>pk hF (wn hF rfl rfl rfl) fun a hF=>pk hF (wn hF rfl rfl rfl) fun a hF=>pv hF hW (y_pick hF rfl rfl) fun a hF=>pv hF hW (y_move hF rfl) fun a hF=>pk hF (wn hF rfl rfl rfl) fun a hF=>pk hF (wn hF rfl rfl rfl) fun a hF=>pk hF (wn hF rfl rfl rfl) fun a hF=>pk hF (wn hF rfl rfl rfl) fun a hF=>pv hF hW (y_pick hF rfl rfl) fun a hF=>pv hF hW (y_move hF rfl) fun a hF=>pk hF (wn hF rfl rfl rfl) fun a hF=>pk hF (wn hF rfl rfl rfl) fun a hF=>pk hF (wn hF rfl rfl rfl) fun a hF=>pv hF hW (y_pick hF rfl rfl) fun a hF=>l_nil ?_;replace hF:=hF.ks [0,1,2,45] rfl;refine t_n<|c_t hF rfl<|c_sr ?_;replace hF:=hF.drop 2;refine pv hF hW (y_assign hF rfl) fun a hF=>l_nil<|t_n<|wp_ret<|t_r<|ret1 Tryz.results47 hF (rv_t hF rfl) ?_
    exact⟨by rw[chkSys_2 (sizes_false Om)],hW.below⟩
   ·intro h4 hF;refine pv hF hW (y_pick hF rfl rfl) fun a hF=>pv hF hW (y_move hF rfl) fun a hF=>pvg hF hW (y_fieldOwn hF rfl fa_26_2) (ws hF rfl rfl) fun a hF=>pvg hF hW (y_loadOwn hF rfl 0 rfl rfl Tryz.underlying24 rfl) (ws hF rfl rfl) fun a hF=>pvg hF hW (y_len hF rfl Tryz.underlying24) (ws hF rfl rfl) fun a hF=>pvg hF hW (y_lss hF rfl rfl) (ws hF rfl rfl) fun a hF=>?_;refine Fr.splitD hF ?_ ?_
    ·intro h5 hF;refine pv hF hW (y_pick hF rfl rfl) fun a hF=>pv hF hW (y_move hF rfl) fun a hF=>pk hF (wn hF rfl rfl rfl) fun a hF=>pk hF (wn hF rfl rfl rfl) fun a hF=>pk hF (wn hF rfl rfl rfl) fun a hF=>pk hF (wn hF rfl rfl rfl) fun a hF=>pv hF hW (y_pick hF rfl rfl) fun a hF=>pv hF hW (y_move hF rfl) fun a hF=>pk hF (wn hF rfl rfl rfl) fun a hF=>pk hF (wn hF rfl rfl rfl) fun a hF=>pk hF (wn hF rfl rfl rfl) fun a hF=>pv hF hW (y_pick hF rfl rfl) fun a hF=>l_nil ?_;replace hF:=hF.ks [0,1,2,45] rfl;refine t_n<|c_t hF rfl<|c_sr ?_;replace hF:=hF.drop 2;refine pv hF hW (y_assign hF rfl) fun a hF=>l_nil<|t_n<|wp_ret<|t_r<|ret1 Tryz.results47 hF (rv_t hF rfl) ?_
     exact⟨by rw[chkSys_2 (sizes_false Om)],hW.below⟩
    ·intro h5 hF;refine pv hF hW (y_pick hF rfl rfl) fun a hF=>pv hF hW (y_move hF rfl) fun a hF=>pvg hF hW (y_fieldOwn hF rfl fa_26_2) (ws hF rfl rfl) fun a hF=>pvg hF hW (y_loadOwn hF rfl 0 rfl rfl Tryz.underlying24 rfl) (ws hF rfl rfl) fun a hF=>pvg hF hW (y_len hF rfl Tryz.underlying24) (ws hF rfl rfl) fun a hF=>pvg hF hW (y_gtr hF rfl rfl) (ws hF rfl rfl) fun a hF=>?_;refine Fr.splitD hF ?_ ?_
     ·intro h6 hF;refine pv hF hW (y_pick hF rfl rfl) fun a hF=>pv hF hW (y_move hF rfl) fun a hF=>pk hF (wn hF rfl rfl rfl) fun a hF=>pk hF (wn hF rfl rfl rfl) fun a hF=>pk hF (wn hF rfl rfl rfl) fun a hF=>pv hF hW (y_pick hF rfl rfl) fun a hF=>l_nil ?_;replace hF:=hF.ks [0,1,2,45] rfl;refine t_n<|c_t hF rfl<|c_sr ?_;replace hF:=hF.drop 2;refine pv hF hW (y_assign hF rfl) fun a hF=>l_nil<|t_n<|wp_ret<|t_r<|ret1 Tryz.results47 hF (rv_t hF rfl) ?_
      exact⟨by rw[chkSys_2 (sizes_false Om)],hW.below⟩
     ·intro h6 hF;refine pv hF hW (y_pick hF rfl rfl) fun a hF=>pv hF hW (y_move hF rfl) fun a hF=>pvg hF hW (y_fieldOwn hF rfl fa_26_0) (ws hF rfl rfl) fun a hF=>pvg hF hW (y_loadOwn hF rfl 0 rfl rfl Tryz.underlying22 rfl) (ws hF rfl rfl) fun a hF=>?_;refine pe (e_call hF rfl rfl en_66 Rl rfl rfl (someS1 (hx.below hW.below)) ?_) (ws hF rfl rfl);rintro e w1 ⟨rfl,hb⟩;replace hW:=hW.kept hb;clear hb;refine⟨_,rfl,fun a hF=>?_⟩;refine Fr.splitB hF ?_ ?_
      ·intro h7 hF;refine pv hF hW (y_pick hF rfl rfl) fun a hF=>l_nil ?_;replace hF:=hF.ks [0,1,2,45] rfl;refine t_n<|c_t hF rfl<|c_sr ?_;replace hF:=hF.drop 2;refine pv hF hW (y_assign hF rfl) fun a hF=>l_nil<|t_n<|wp_ret<|t_r<|ret1 Tryz.results47 hF (rv_t hF rfl) ?_
       exact⟨by rw[chkSys_2 (inp_bad Am)],hW.below⟩
      ·intro h7 hF;refine pv hF hW (y_pick hF rfl rfl) fun a hF=>l_nil ?_;replace hF:=hF.ks [0,1,2,45] rfl;refine t_n<|c_f hF rfl<|wp_skip<|t_n<|c_s ?_
       have HS:sizesOk x.sys=true:=(sizes_true Om Om Om (fun i hi=>inp_all Am hi))
       refine c_sr<|pv hF hW (y_fieldOwn hF rfl fa_26_0) fun a hF=>pv hF hW (y_loadOwn hF rfl 0 rfl rfl Tryz.underlying22 rfl) fun a hF=>pv hF hW (y_len hF rfl Tryz.underlying22) fun a hF=>pv hF hW (y_move hF rfl) fun a hF=>l_nil ?_;replace hF:=hF.ks [0,1,2,45,47,48,49] rfl;refine t_n<|wp_block ?_;refine c_loop (G:=Nat) (fun k:Nat=>[(49,.int .i64 (k:Int))]) (fun k:Nat=>[]) (fun k:Nat=>k≤x.parts.length∧firstCode x.sys.parts=firstCode (x.sys.parts.drop k)) (fun k:Nat=>x.parts.length - k) 0 (hF.ks [0,1,45,47,48] rfl) (Fr.cons hF (t:=49) rfl Rg (Fr.nil hF)) (hW) ?_ ?_
       ·exact⟨by omega,rfl⟩
       clear hF hW
       try clear a
       intro k a wc hC hF hW
       obtain⟨hk,hfc⟩:=hC
       refine c_sr<|pv hF hW (y_lss hF rfl rfl) fun a hF=>?_;refine Fr.splitD hF ?_ ?_
       ·intro h8 hF;refine l_nil<|t_n<|c_s<|c_t hF rfl<|wp_skip<|t_n<|c_s<|wp_block<|c_sr<|pv hF hW (y_indexS hF rfl rfl Od Tryz.underlying22 sz_49 (fun w h=>(hx.partsR).wd h)) fun a hF=>pv hF hW (y_loadRowW hF rfl (fun w h=>(hx.partsR).wd h) Od Tryz.underlying49 rfl sz_49) fun a hF=>?_;refine pe (e_alloc hF hW ze_49 rfl rfl rfl ?_);intro b9 a wc hF hW;refine pe (e_storeAll rfl hF hW rfl rfl 0 rfl rfl rfl Kr sz_49 ?_);intro wc hW;refine l_nil ?_;replace hF:=hF.ks [0,1,4,45,47,48,49,50] rfl;refine t_n<|c_sr<|pv hF hW (y_fieldOwn hF rfl fa_49_0) fun a hF=>pv hF hW (y_loadOwn hF rfl 0 rfl rfl Tryz.underlying47 rfl) fun a hF=>?_;refine pe (e_call hF rfl rfl en_68 Rl rfl rfl (codeCheck_any _ _ _ ((hx.part (k:=k) Om).below hW.below).code) ?_);rintro e w1 ⟨rfl,hb⟩;replace hW:=hW.kept hb;clear hb;refine⟨_,rfl,fun a hF=>?_⟩;refine pv hF hW (y_assign hF rfl) fun a hF=>l_nil ?_;replace hF:=hF.ks [0,1,4,5,45,47,48,49,50] rfl;refine t_n<|c_sr<|pv hF hW (y_move hF rfl) fun a hF=>pv hF hW (y_neq hF rfl rfl) fun a hF=>?_;refine Fr.splitD hF ?_ ?_
        ·intro h10 hF;refine l_nil ?_;replace hF:=hF.ks [0,1,4,5,45,47,48,49,50,57] rfl;refine t_n<|c_t hF rfl<|c_sr<|pv hF hW (y_move hF rfl) fun a hF=>pv hF hW (y_assign hF rfl) fun a hF=>l_nil ?_;replace hF:=hF.ks [0,1,2,4,5,45,47,48,49,50,57] rfl;refine t_n<|wp_ret<|b_r<|t_r<|t_r<|b_r<|t_r<|ret1 Tryz.results47 hF (rv_t hF rfl) ?_
         exact⟨by rw[chkSys_c HS (by rw[first_at (k:=k) Om hfc Om];omega),first_at (k:=k) Om hfc Om],hW.below⟩
        ·intro h10 hF;refine l_nil ?_;replace hF:=hF.ks [0,1,4,5,45,47,48,49,50,57] rfl;refine t_n<|c_f hF rfl<|wp_skip<|b_n<|t_n<|c_r<|pv hF hW (y_add hF rfl rfl (IntWalk.i64_in _ Om)) fun a hF=>?_;replace hF:=hF.drop 49;refine pv hF hW (y_move hF rfl) fun a hF=>l_nil ?_;replace hF:=hF.ks [0,1,4,5,45,47,48,49,50,57] rfl;replace hW:=hW.del 0 rfl;refine t_n ?_;refine⟨(k+1),?_,?_,?_,?_⟩
         ·exact⟨by omega,first_step Om hfc Om⟩
         ·first|omega|(dsimp only;omega)
         ·exact Fr.app (Fr.cons hF (t:=49) rfl Rf (Fr.nil hF)) (hF.ks [0,1,45,47,48] rfl)
         ·exact hW
       ·intro h8 hF;refine l_nil<|t_n<|c_s<|c_f hF rfl<|wp_exit<|t_x<|t_x<|b_h<|t_n ?_
        have HFC:firstCode x.sys.parts=0:=first_end (by rw[hfc];congr 2;omega)
        have hni:∀k,k<x.parts.length→∀i,i∈(x.parts.getD k P0).1.code→i.op=12∨i.op=13→0≤i.n:=fun k hk i hi ho=>(insNum ((chkCode_all (codes_ok HFC hk)).2 i hi) ho).1
        have hnn:∀k,k<x.parts.length→∀op m,op=12∨op=13→m∈namesOr op (x.parts.getD k P0).1.code→0≤m:=fun k hk op m ho hm=>named_nonneg (codes_ok HFC hk) (hni k hk) ho hm
        have hpl:x.sys.parts.length=x.parts.length:=(by simp[SysD.sys])
        refine c_sr<|pv hF hW (y_makeFunc hF rfl) fun a hF=>?_;refine pe (e_alloc hF hW ze_100 rfl rfl rfl ?_);intro b11 a wc hF hW;refine pe (e_store rfl hF hW rfl rfl 0 rfl rfl rfl sz_100 ?_);intro wc hW;refine l_nil ?_;replace hF:=hF.ks [0,1,6,45,47,48,49,50] rfl;refine t_n<|c_s<|wp_block<|c_sr<|pv hF hW (y_fieldOwn hF rfl fa_26_1) fun a hF=>pv hF hW (y_loadOwn hF rfl 1 rfl rfl Tryz.underlying23 rfl) fun a hF=>?_;refine pe (e_call hF rfl rfl en_70 Rl rfl rfl (someS3 (hx.below hW.below)) ?_);rintro e w1 ⟨rfl,hb⟩;replace hW:=hW.kept hb;clear hb;refine⟨_,rfl,fun a hF=>?_⟩;refine Fr.splitB hF ?_ ?_
        ·intro h12 hF;refine pv hF hW (y_assign hF rfl) fun a hF=>l_nil ?_;replace hF:=hF.ks [0,1,6,45,47,48,49,50,61] rfl;refine t_n<|c_t hF rfl<|c_sr<|pv hF hW (y_assign hF rfl) fun a hF=>l_nil<|t_n<|wp_ret<|b_r<|t_r<|ret1 Tryz.results47 hF (rv_t hF rfl) ?_
         exact⟨by rw[chkSys_4 HS HFC (nta Am)],hW.below⟩
        ·intro h12 hF;refine pv hF hW (y_assign hF rfl) fun a hF=>l_nil ?_;replace hF:=hF.ks [0,1,6,45,47,48,49,50,61] rfl;refine t_n<|c_f hF rfl ?_
         have HKD:(x.sys.chans.all fun c=>kindOk c.kind)=true:=nfa Am
         refine c_sr<|pv hF hW (y_fieldOwn hF rfl fa_26_1) fun a hF=>pv hF hW (y_loadOwn hF rfl 1 rfl rfl Tryz.underlying23 rfl) fun a hF=>pv hF hW (y_makeFunc hF rfl) fun a hF=>?_;refine pe (e_call hF rfl rfl en_70 Rl rfl rfl (someS4 (hx.below hW.below) (hW.blk 1 rfl) (hW.blk 0 rfl)) ?_);rintro e w1 ⟨rfl,hb⟩;replace hW:=hW.kept hb;clear hb;refine⟨_,rfl,fun a hF=>?_⟩;refine Fr.splitB hF ?_ ?_
         ·intro h13 hF;refine pv hF hW (y_assign hF rfl) fun a hF=>l_nil ?_;replace hF:=hF.ks [0,1,6,45,47,48,49,50,61,65] rfl;refine t_n<|c_t hF rfl<|c_sr<|pv hF hW (y_assign hF rfl) fun a hF=>l_nil<|t_n<|wp_ret<|b_r<|t_r<|ret1 Tryz.results47 hF (rv_t hF rfl) ?_
          exact⟨by rw[chkSys_3 HS HFC HKD (by rw[hpl];exact nta Am)],hW.below⟩
         ·intro h13 hF;refine pv hF hW (y_assign hF rfl) fun a hF=>l_nil ?_;replace hF:=hF.ks [0,1,6,45,47,48,49,50,61,65] rfl;refine t_n<|c_f hF rfl ?_
          have HCH:x.sys.chans.all (chnOk x.sys.parts.length)=true:=(by rw[hpl];exact nfa Am)
          refine c_sr<|pv hF hW (y_fieldOwn hF rfl fa_26_2) fun a hF=>pv hF hW (y_loadOwn hF rfl 1 rfl rfl Tryz.underlying24 rfl) fun a hF=>pv hF hW (y_makeFunc hF rfl) fun a hF=>?_;refine pe (e_call hF rfl rfl en_73 Rl rfl rfl (someS5 (hx.below hW.below) (hW.blk 1 rfl) (hW.blk 0 rfl)) ?_);rintro e w1 ⟨rfl,hb⟩;replace hW:=hW.kept hb;clear hb;refine⟨_,rfl,fun a hF=>?_⟩;refine Fr.splitB hF ?_ ?_
          ·intro h14 hF;refine pv hF hW (y_assign hF rfl) fun a hF=>l_nil ?_;replace hF:=hF.ks [0,1,6,45,47,48,49,50,61,65,70] rfl;refine t_n<|c_t hF rfl<|c_sr<|pv hF hW (y_assign hF rfl) fun a hF=>l_nil<|t_n<|wp_ret<|b_r<|t_r<|ret1 Tryz.results47 hF (rv_t hF rfl) ?_
           exact⟨by rw[chkSys_3' HS HFC HKD HCH (by rw[hpl];exact nta Am)],hW.below⟩
          ·intro h14 hF;refine pv hF hW (y_assign hF rfl) fun a hF=>l_nil ?_;replace hF:=hF.ks [0,1,6,45,47,48,49,50,61,65,70] rfl;refine t_n<|c_f hF rfl<|wp_skip<|b_n<|t_n<|c_s ?_
           have HSL:x.sys.slots.all (sltOk x.sys.parts.length)=true:=(by rw[hpl];exact nfa Am)
           refine c_sr<|pv hF hW (y_fieldOwn hF rfl fa_26_0) fun a hF=>pv hF hW (y_loadOwn hF rfl 1 rfl rfl Tryz.underlying22 rfl) fun a hF=>pv hF hW (y_len hF rfl Tryz.underlying22) fun a hF=>pv hF hW (y_move hF rfl) fun a hF=>l_nil ?_;replace hF:=hF.ks [0,1,6,45,47,48,49,50,61,65,70,76,77,78] rfl;refine t_n<|wp_block ?_;refine c_loop (G:=Nat) (fun k:Nat=>[(78,.int .i64 (k:Int))]) (fun k:Nat=>[]) (fun k:Nat=>k≤x.parts.length∧∀q,q<k→(x.parts.getD q P0).1.code.all (insOk x.chans q)=true) (fun k:Nat=>x.parts.length - k) 0 (hF.ks [0,1,6,45,47,48,49,50,61,65,70,76,77] rfl) (Fr.cons hF (t:=78) rfl Rg (Fr.nil hF)) (hW) ?_ ?_
           ·exact⟨by omega,fun i hi=>by omega⟩
           clear hF hW
           try clear a
           intro k a wc hC hF hW
           obtain⟨hk,hnm⟩:=hC
           refine c_sr<|pv hF hW (y_lss hF rfl rfl) fun a hF=>?_;refine Fr.splitD hF ?_ ?_
           ·intro h15 hF;refine l_nil<|t_n<|c_s<|c_t hF rfl<|wp_skip<|t_n<|c_s<|wp_block<|c_sr<|pv hF hW (y_move hF rfl) fun a hF=>pv hF hW (y_indexS hF rfl rfl Od Tryz.underlying22 sz_49 (fun w h=>(hx.partsR).wd h)) fun a hF=>pv hF hW (y_loadRowW hF rfl (fun w h=>(hx.partsR).wd h) Od Tryz.underlying49 rfl sz_49) fun a hF=>?_;refine pe (e_alloc hF hW ze_3 rfl rfl rfl ?_);intro b16 a wc hF hW;refine pe (e_alloc hF hW ze_49 rfl rfl rfl ?_);intro b17 a wc hF hW;refine pe (e_store rfl hF hW rfl rfl 1 rfl rfl rfl sz_3 ?_);intro wc hW;refine pe (e_storeAll rfl hF hW rfl rfl 0 rfl rfl rfl Kr sz_49 ?_);intro wc hW;refine l_nil ?_;replace hF:=hF.ks [0,1,6,7,8,45,47,48,49,50,61,65,70,76,77,78,79] rfl;refine t_n<|c_sr<|pv hF hW (y_fieldOwn hF rfl fa_49_0) fun a hF=>pv hF hW (y_loadOwn hF rfl 0 rfl rfl Tryz.underlying47 rfl) fun a hF=>?_;refine pe (e_call hF rfl rfl en_75 Rl rfl rfl (puts_any ((hx.part (k:=k) Om).below hW.below).code) ?_);rintro e w1 ⟨A',c',rfl,hb,hr⟩;replace hW:=hW.gotR hb hr;refine⟨_,rfl,fun a hF=>?_⟩;refine pv hF hW (y_move hF rfl) fun a hF=>pv hF hW (y_extract hF rfl rfl) fun a hF=>pv hF hW (y_extract hF rfl rfl) fun a hF=>pv hF hW (y_assign hF rfl) fun a hF=>pv hF hW (y_assign hF rfl) fun a hF=>l_nil ?_;replace hF:=hF.ks [0,1,6,7,8,9,45,47,48,49,50,61,65,70,76,77,78,79] rfl;refine t_n<|c_sr<|pv hF hW (y_fieldOwn hF rfl fa_49_0) fun a hF=>pv hF hW (y_loadOwn hF rfl 1 rfl rfl Tryz.underlying47 rfl) fun a hF=>?_;refine pe (e_call hF rfl rfl en_76 Rl rfl rfl (gets_any ((hx.part (k:=k) Om).below hW.below).code) ?_);rintro e w1 ⟨A',c',rfl,hb,hr⟩;replace hW:=hW.gotR hb hr;refine⟨_,rfl,fun a hF=>?_⟩;refine pv hF hW (y_move hF rfl) fun a hF=>pv hF hW (y_extract hF rfl rfl) fun a hF=>pv hF hW (y_extract hF rfl rfl) fun a hF=>pv hF hW (y_assign hF rfl) fun a hF=>pv hF hW (y_assign hF rfl) fun a hF=>l_nil ?_;replace hF:=hF.ks [0,1,6,7,8,9,11,45,47,48,49,50,61,65,70,76,77,78,79] rfl;refine t_n<|c_sr<|pv hF hW (y_move hF rfl) fun a hF=>pv hF hW (y_makeFunc hF rfl) fun a hF=>?_;refine pe (e_call hF rfl rfl en_77 Rl rfl rfl (someS6 (hW.res 1 rfl) (fun m hm=>hnn k Om 12 m (.inl rfl) hm) (hx.below hW.below) (hW.blk 5 rfl) (hW.blk 3 rfl)) ?_);rintro e w1 ⟨rfl,hb⟩;replace hW:=hW.kept hb;clear hb;refine⟨_,rfl,fun a hF=>?_⟩;refine Fr.splitB hF ?_ ?_
            ·intro h18 hF;refine pv hF hW (y_move hF rfl) fun a hF=>pk hF (wn hF rfl rfl rfl) fun a hF=>pk hF (wn hF rfl rfl rfl) fun a hF=>pk hF (wn hF rfl rfl rfl) fun a hF=>pv hF hW (y_pick hF rfl rfl) fun a hF=>l_nil ?_;replace hF:=hF.ks [0,1,6,7,8,9,11,45,47,48,49,50,61,65,70,76,77,78,79,102] rfl;refine t_n<|c_t hF rfl<|c_sr<|pv hF hW (y_assign hF rfl) fun a hF=>l_nil<|t_n<|wp_ret<|b_r<|t_r<|t_r<|b_r<|t_r<|ret1 Tryz.results47 hF (rv_t hF rfl) ?_
             exact⟨by rw[chkSys_1 HS HFC HKD HCH HSL (names_bad (k:=k) Om (by rw[names_iff (hni k Om),←namesOr_ok (codes_ok HFC (k:=k) Om),←namesOr_ok (codes_ok HFC (k:=k) Om),show(namesOr 12 (x.parts.getD k P0).1.code).any (badPut x.chans k)=true by assumption];rfl))],hW.below⟩
            ·intro h18 hF;refine pv hF hW (y_move hF rfl) fun a hF=>pvg hF hW (y_move hF rfl) (ws hF rfl rfl) fun a hF=>pvg hF hW (y_makeFunc hF rfl) (ws hF rfl rfl) fun a hF=>?_;refine pe (e_call hF rfl rfl en_77 Rl rfl rfl (someS7 (hW.res 0 rfl) (fun m hm=>hnn k Om 13 m (.inr rfl) hm) (hx.below hW.below) (hW.blk 5 rfl) (hW.blk 3 rfl)) ?_) (ws hF rfl rfl);rintro e w1 ⟨rfl,hb⟩;replace hW:=hW.kept hb;clear hb;refine⟨_,rfl,fun a hF=>?_⟩;refine Fr.splitB hF ?_ ?_
             ·intro h19 hF;refine pv hF hW (y_pick hF rfl rfl) fun a hF=>l_nil ?_;replace hF:=hF.ks [0,1,6,7,8,9,11,45,47,48,49,50,61,65,70,76,77,78,79,102] rfl;refine t_n<|c_t hF rfl<|c_sr<|pv hF hW (y_assign hF rfl) fun a hF=>l_nil<|t_n<|wp_ret<|b_r<|t_r<|t_r<|b_r<|t_r<|ret1 Tryz.results47 hF (rv_t hF rfl) ?_
              exact⟨by rw[chkSys_1 HS HFC HKD HCH HSL (names_bad (k:=k) Om (by rw[names_iff (hni k Om),←namesOr_ok (codes_ok HFC (k:=k) Om),←namesOr_ok (codes_ok HFC (k:=k) Om),show(namesOr 13 (x.parts.getD k P0).1.code).any (badGet x.chans k)=true by assumption,Bool.not_true,Bool.and_false]))],hW.below⟩
             ·intro h19 hF;refine pv hF hW (y_pick hF rfl rfl) fun a hF=>l_nil ?_;replace hF:=hF.ks [0,1,6,7,8,9,11,45,47,48,49,50,61,65,70,76,77,78,79,102] rfl;refine t_n<|c_f hF rfl<|wp_skip<|b_n<|t_n<|c_r<|pv hF hW (y_add hF rfl rfl (IntWalk.i64_in _ Om)) fun a hF=>?_;replace hF:=hF.drop 78;refine pv hF hW (y_move hF rfl) fun a hF=>l_nil ?_;replace hF:=hF.ks [0,1,6,7,8,9,11,45,47,48,49,50,61,65,70,76,77,78,79,102] rfl;replace hW:=hW.del 0 rfl;replace hW:=hW.del 0 rfl;replace hW:=hW.del 0 rfl;replace hW:=hW.del 0 rfl;refine t_n ?_;refine⟨(k+1),?_,?_,?_,?_⟩
              ·exact⟨by omega,fun q hq=>by rcases Nat.lt_or_ge q k with h|h;exact hnm q h;(have hik:q=k:=by omega);rw[hik,names_iff (hni k Om),←namesOr_ok (codes_ok HFC (k:=k) Om),←namesOr_ok (codes_ok HFC (k:=k) Om)];simp_all⟩
              ·first|omega|(dsimp only;omega)
              ·exact Fr.app (Fr.cons hF (t:=78) rfl Rf (Fr.nil hF)) (hF.ks [0,1,6,45,47,48,49,50,61,65,70,76,77] rfl)
              ·exact hW
           ·intro h15 hF;refine l_nil<|t_n<|c_s<|c_f hF rfl<|wp_exit<|t_x<|t_x<|b_h<|t_n<|c_sr<|pv hF hW (y_assign hF rfl) fun a hF=>l_nil<|t_n<|wp_ret<|ret1 Tryz.results47 hF (rv_t hF rfl) ?_
            exact⟨by rw[chkSys_0 HS HFC HKD HCH HSL (names_good fun q hq=>hnm q Om)],hW.below⟩
end
end Go.Proofs.YtndcjmopebcdgaaGreat
