/- The partition that does nothing; is there such a partition? conf.Check finds what the reference finds. -/
import Derived.Test.YtndcjmopebcdgaaGreatDoorSysRef
import Derived.Test.YtndcjmopebcdgaaGreatDoorConfB1
import Derived.Test.YtndcjmopebcdgaaGreatDoorSysB
set_option linter.unusedSimpArgs false
set_option linter.unusedVariables false
namespace Go.Proofs.YtndcjmopebcdgaaGreatDoor
section
open Go.ChangeShapes Go.WideShapes Go.ChangeAt Go.RowKit
set_option maxRecDepth 100000
def calmP:Prt:=⟨[⟨15,0,0,0⟩],[]⟩
def thereErr(s:Sys)(p:Int):Int:=if chkSys s=0 then(if 0≤p∧p<s.parts.length then 0 else 5) else chkSys s
theorem there_c{s:Sys}{p:Int}(h:chkSys s≠0):thereErr s p=chkSys s:=if_neg h
theorem there_5{s:Sys}{p:Int}(h:chkSys s=0)(h2:¬(0≤p∧p<s.parts.length)):thereErr s p=5:=by unfold thereErr;rw[if_pos h,if_neg h2]
theorem there_0{s:Sys}{p:Int}(h:chkSys s=0)(h2:0≤p∧p<s.parts.length):thereErr s p=0:=by unfold thereErr;rw[if_pos h,if_pos h2]
theorem there_zero{s:Sys}{p:Int}(h:thereErr s p=0):chkSys s=0∧0≤p∧p<s.parts.length:=by
 unfold thereErr at h
 by_cases h1:chkSys s=0
 ·rw[if_pos h1] at h
  by_cases h2:0≤p∧p<s.parts.length
  ·exact⟨h1,h2⟩
  ·rw[if_neg h2] at h;cases h
 ·rw[if_neg h1] at h;exact absurd h h1
theorem chkSys_zero{s:Sys}(h:chkSys s=0):sizesOk s=true∧firstCode s.parts=0∧(s.chans.all fun c=>kindOk c.kind)=true∧s.chans.all (chnOk s.parts.length)=true∧s.slots.all (sltOk s.parts.length)=true∧namesFrom s.chans 0 s.parts=true:=by
 unfold chkSys at h
 split at h
 ·cases h
 ·split at h
  ·exact absurd h Am
  ·split at h
   ·cases h
   ·split at h
    ·cases h
    ·split at h
     ·cases h
     ·split at h
      ·cases h
      ·exact⟨by simp_all,by simp_all,by simp_all,by simp_all,by simp_all,by simp_all⟩
theorem sizes_get{x:SysD}(h:sizesOk x.sys=true):(1≤x.parts.length∧x.parts.length≤4)∧x.chans.length≤6∧(1≤x.slots.length∧x.slots.length≤6)∧∀k,k<x.parts.length→(x.parts.getD k P0).1.inp.length≤12:=by
 simp only[sizesOk,SysD.sys,List.length_map,Bool.and_eq_true] at h
 obtain⟨h1,h2⟩:=h
 have h3:=of_decide_eq_true h1
 refine⟨⟨h3.1,h3.2.1⟩,h3.2.2.1,h3.2.2.2,fun k hk=>?_⟩
 have h4:=(all_getD P0.1).1 h2 k (by simpa using hk)
 rw[getD_map] at h4
 exact of_decide_eq_true h4
theorem part_len{x:SysD}{p:Int}(h:0≤p∧p<x.sys.parts.length):0≤p∧p<x.parts.length:=by
 have e:x.sys.parts.length=x.parts.length:=by simp[SysD.sys]
 omega
end
section
open Go.ChangeShapes Go.WideShapes Go.ChangeAt Go.RowKit
set_option maxRecDepth 100000
section
variable {x:SysD} {w:World} {b1:Nat} {T1:TypeId}
theorem names_iff{cs:List Chn}{k:Nat}{l:List Ins}(hn:∀i,i∈l→i.op=12∨i.op=13→0≤i.n):l.all (insOk cs k)=(!(namedOf 12 l).any (badPut cs k)&& !(namedOf 13 l).any (badGet cs k)):=by
 rw[Bool.eq_iff_iff,List.all_eq_true,Bool.and_eq_true,Bool.not_eq_true',Bool.not_eq_true',List.any_eq_false,List.any_eq_false]
 constructor
 ·intro h
  refine⟨fun m hm=>?_,fun m hm=>?_⟩
  ·obtain⟨i,hi,ho,rfl⟩:=mem_namedOf.1 hm
   have:=h i hi
   simp only[insOk,ho] at this
   simp only[badPut]
   simp_all
  ·obtain⟨i,hi,ho,rfl⟩:=mem_namedOf.1 hm
   have:=h i hi
   simp only[insOk,ho] at this
   simp only[badGet]
   simp_all
 ·rintro⟨h1,h2⟩ i hi
  by_cases h12:i.op=12
  ·have:=h1 i.n (mem_namedOf.2 ⟨i,hi,h12,rfl⟩)
   simp only[badPut] at this
   simp only[insOk,h12]
   simp_all
  ·by_cases h13:i.op=13
   ·have:=h2 i.n (mem_namedOf.2 ⟨i,hi,h13,rfl⟩)
    simp only[badGet] at this
    simp only[insOk,h13]
    simp_all
   ·simp[insOk,h12,h13]
theorem someS1(hx:x.At w):Calls Tryz.prog 88 #[.slice x.pa x.parts.length x.pc,.func (.func 89) #[] #[]] w fun e w'=>e=.returned (.bool (x.parts.any fun q=>decide (12<q.1.inp.length)))∧Below w.heap.size w w':=
 (some_part (f:=fun k=>encP (x.parts.getD k P0)) (by have:=hx.parts.len;omega) hx.partsR (fun _=>rfl) en_89 tells1).mono fun e w' ⟨h,hb⟩=>⟨h.trans (by rw[any_getD P0 (fun q:PP=>decide (12<q.1.inp.length))]),hb⟩
theorem someS3(hx:x.At w):Calls Tryz.prog 92 #[.slice x.ha x.chans.length x.hc,.func (.func 93) #[] #[]] w fun e w'=>e=.returned (.bool (!x.chans.all fun c=>kindOk c.kind))∧Below w.heap.size w w':=
 (some_chan (f:=fun k=>Chn.cells (x.chans.getD k C0)) (by have:=hx.chans.len;omega) hx.chansR (fun _=>rfl) en_93 tells3).mono fun e w' ⟨h,hb⟩=>⟨h.trans (by rw[any_getD C0 (fun c:Chn=> !kindOk c.kind),any_not]),hb⟩
theorem someS4{b6:Nat}{T6:TypeId}(hx:x.At w)(hB:Blk w b1 T1 [.slice x.pa x.parts.length x.pc,.slice x.ha x.chans.length x.hc,.slice x.sa x.slots.length x.sc])(h6:Blk w b6 T6 [.func (.func 91) #[] #[.pointer (some ⟨b1,0,none⟩)]]):
  Calls Tryz.prog 92 #[.slice x.ha x.chans.length x.hc,.func (.func 94) #[] #[.pointer (some ⟨b6,0,none⟩)]] w fun e w'=>e=.returned (.bool (!x.chans.all (chnOk x.parts.length)))∧Below w.heap.size w w':=
 (some_chan (f:=fun k=>Chn.cells (x.chans.getD k C0)) (by have:=hx.chans.len;omega) hx.chansR (fun _=>rfl) en_94 (tells4 hB h6)).mono fun e w' ⟨h,hb⟩=>⟨h.trans (by rw[any_getD C0 (fun c:Chn=> !chnOk x.parts.length c),any_not]),hb⟩
theorem someS5{b6:Nat}{T6:TypeId}(hx:x.At w)(hB:Blk w b1 T1 [.slice x.pa x.parts.length x.pc,.slice x.ha x.chans.length x.hc,.slice x.sa x.slots.length x.sc])(h6:Blk w b6 T6 [.func (.func 91) #[] #[.pointer (some ⟨b1,0,none⟩)]]):
  Calls Tryz.prog 95 #[.slice x.sa x.slots.length x.sc,.func (.func 96) #[] #[.pointer (some ⟨b6,0,none⟩)]] w fun e w'=>e=.returned (.bool (!x.slots.all (sltOk x.parts.length)))∧Below w.heap.size w w':=
 (some_slot (f:=fun k=>Slt.cells (x.slots.getD k S0)) (by have:=hx.slots.len;omega) hx.slotsR (fun _=>rfl) en_96 (tells5 hB h6)).mono fun e w' ⟨h,hb⟩=>⟨h.trans (by rw[any_getD S0 (fun c:Slt=> !sltOk x.parts.length c),any_not]),hb⟩
theorem someS6{b7 p n c:Nat}{A:Option Addr}{T7:TypeId}{l:List Int}(hi:Ints w (.slice A n c) l)(hl:∀m,m∈l→0≤m)(hx:x.At w)(hB:Blk w b1 T1 [.slice x.pa x.parts.length x.pc,.slice x.ha x.chans.length x.hc,.slice x.sa x.slots.length x.sc])(h7:Blk w b7 T7 [.int .i64 p]):
  Calls Tryz.prog 99 #[.slice A n c,.func (.func 100) #[] #[.pointer (some ⟨b1,0,none⟩),.pointer (some ⟨b7,0,none⟩)]] w fun e w'=>e=.returned (.bool (l.any (badPut x.chans p)))∧Below w.heap.size w w':=by
 obtain rfl:n=l.length:=hi.len.1
 exact(some_int (f:=fun k=>l.getD k 0) (by have:=hi.len;omega) hi.rf en_100 (tells6 hl hx hB h7)).mono fun e w' ⟨h,hb⟩=>⟨h.trans (by rw[any_getD 0 (badPut x.chans p)]),hb⟩
theorem someS7{b7 p n c:Nat}{A:Option Addr}{T7:TypeId}{l:List Int}(hi:Ints w (.slice A n c) l)(hl:∀m,m∈l→0≤m)(hx:x.At w)(hB:Blk w b1 T1 [.slice x.pa x.parts.length x.pc,.slice x.ha x.chans.length x.hc,.slice x.sa x.slots.length x.sc])(h7:Blk w b7 T7 [.int .i64 p]):
  Calls Tryz.prog 99 #[.slice A n c,.func (.func 101) #[] #[.pointer (some ⟨b1,0,none⟩),.pointer (some ⟨b7,0,none⟩)]] w fun e w'=>e=.returned (.bool (l.any (badGet x.chans p)))∧Below w.heap.size w w':=by
 obtain rfl:n=l.length:=hi.len.1
 exact(some_int (f:=fun k=>l.getD k 0) (by have:=hi.len;omega) hi.rf en_101 (tells7 hl hx hB h7)).mono fun e w' ⟨h,hb⟩=>⟨h.trans (by rw[any_getD 0 (badGet x.chans p)]),hb⟩
end
theorem named_nonneg{l:List Ins}(h0:chkCode l=0)(hni:∀i,i∈l→i.op=12∨i.op=13→0≤i.n){op m:Int}(ho:op=12∨op=13)(hm:m∈namesOr op l):0≤m:=by
 rw[namesOr_ok h0] at hm
 obtain⟨i,hi,h1,rfl⟩:=mem_namedOf.1 hm
 exact hni i hi Om
theorem nfa{b:Bool}(h:(!b)=false):b=true:=by simpa using h
theorem nta{b:Bool}(h:(!b)=true):b=false:=by simpa using h
section
variable {x:SysD}
theorem inp_all(h:(x.parts.any fun q=>decide (12<q.1.inp.length))=false){k:Nat}(hk:k<x.parts.length):(x.parts.getD k P0).1.inp.length≤12:=by
 have:=List.any_eq_false.1 h _ (mem_getD P0 hk)
 simpa using this
theorem inp_bad(h:(x.parts.any fun q=>decide (12<q.1.inp.length))=true):sizesOk x.sys=false:=by
 obtain⟨q,hq,hl⟩:=List.any_eq_true.1 h
 obtain⟨k,hk,rfl⟩:=List.mem_iff_getElem.1 hq
 refine sizes_inp hk ?_
 rw[List.getD,List.getElem?_eq_getElem hk]
 simpa using hl
theorem names_bad{k:Nat}(hk:k<x.parts.length)(h:(x.parts.getD k P0).1.code.all (insOk x.chans k)=false):namesFrom x.sys.chans 0 x.sys.parts=false:=by
 cases hn:namesFrom x.sys.chans 0 x.sys.parts
 ·rfl
 ·have:=(namesFrom_iff _ _ _).1 hn k (by simpa[SysD.sys] using hk)
  have e:(x.sys.parts.getD k ⟨[],[]⟩)=(x.parts.getD k P0).1:=getD_map Prod.fst k P0
  rw[e,Nat.zero_add] at this
  exact absurd (h.symm.trans this) Bool.false_ne_true
theorem names_good(h:∀k,k<x.parts.length→(x.parts.getD k P0).1.code.all (insOk x.chans k)=true):namesFrom x.sys.chans 0 x.sys.parts=true:=
 (namesFrom_iff _ _ _).2 fun k hk=>by
  have e:(x.sys.parts.getD k ⟨[],[]⟩)=(x.parts.getD k P0).1:=getD_map Prod.fst k P0
  rw[e,Nat.zero_add]
  exact h k (by simpa[SysD.sys] using hk)
end
set_option maxHeartbeats 8000000 in
theorem confCheck_any{x:SysD}{w:World}(hx:x.At w):
  Calls Tryz.prog 46 #[x.val] w fun e w'=>e=.returned (.int .i64 (chkSys x.sys))∧Below w.heap.size w w':=by
 have hl1:=hx.parts.len
 have hl2:=hx.chans.len
 have hl3:=hx.slots.len
 unfold maxLen at hl1 hl2 hl3
 rw[x.val_eq]
 refine enter Tryz.func46 rfl Tryz.ntmps46 rfl fun a hF=>?_
 have hW:=Wd.start w NoB
 refine c_sr<|pe<|e_box hF hW rfl rfl rfl rfl fun b1 a wc hF hW=>pq 1 hF rfl fun a hF=>l_nil<|t_n<|c_s<|c_sr<|pq 1 hF rfl fun a hF=>pv hF hW (y_loadOwn hF rfl 0 rfl rfl Tryz.underlying35 rfl) fun a hF=>pq 2 hF rfl fun a hF=>?_;refine Fr.splitD hF (fun h2 hF=>?_) (fun h2 hF=>?_);refine pq 29 hF rfl fun a hF=>l_nil ?_;replace hF:=hF.ks [0,1,2,45] rfl;refine t_n<|c_t hF rfl<|c_sr<|pq 1 hF rfl fun a hF=>l_nil<|t_n<|wp_ret<|t_r<|ret1 Tryz.results46 hF (rv_t hF rfl) ?_
 exact⟨by rw[chkSys_2 (sizes_false Om)],hW.below⟩
 refine pq 2 hF rfl fun a hF=>pvg hF hW (y_loadOwn hF rfl 0 rfl rfl Tryz.underlying35 rfl) (ws hF rfl rfl) fun a hF=>pq 2 hF rfl fun a hF=>?_;refine Fr.splitD hF (fun h3 hF=>?_) (fun h3 hF=>?_);refine pq 24 hF rfl fun a hF=>l_nil ?_;replace hF:=hF.ks [0,1,2,45] rfl;refine t_n<|c_t hF rfl<|c_sr<|pq 1 hF rfl fun a hF=>l_nil<|t_n<|wp_ret<|t_r<|ret1 Tryz.results46 hF (rv_t hF rfl) ?_
 exact⟨by rw[chkSys_2 (sizes_false Om)],hW.below⟩
 refine pq 3 hF rfl fun a hF=>pvg hF hW (y_loadOwn hF rfl 0 rfl rfl Tryz.underlying36 rfl) (ws hF rfl rfl) fun a hF=>pq 2 hF rfl fun a hF=>?_;refine Fr.splitD hF (fun h4 hF=>?_) (fun h4 hF=>?_);refine pq 18 hF rfl fun a hF=>l_nil ?_;replace hF:=hF.ks [0,1,2,45] rfl;refine t_n<|c_t hF rfl<|c_sr<|pq 1 hF rfl fun a hF=>l_nil<|t_n<|wp_ret<|t_r<|ret1 Tryz.results46 hF (rv_t hF rfl) ?_
 exact⟨by rw[chkSys_2 (sizes_false Om)],hW.below⟩
 refine pq 3 hF rfl fun a hF=>pvg hF hW (y_loadOwn hF rfl 0 rfl rfl Tryz.underlying37 rfl) (ws hF rfl rfl) fun a hF=>pq 2 hF rfl fun a hF=>?_;refine Fr.splitD hF (fun h5 hF=>?_) (fun h5 hF=>?_);refine pq 12 hF rfl fun a hF=>l_nil ?_;replace hF:=hF.ks [0,1,2,45] rfl;refine t_n<|c_t hF rfl<|c_sr<|pq 1 hF rfl fun a hF=>l_nil<|t_n<|wp_ret<|t_r<|ret1 Tryz.results46 hF (rv_t hF rfl) ?_
 exact⟨by rw[chkSys_2 (sizes_false Om)],hW.below⟩
 refine pq 3 hF rfl fun a hF=>pvg hF hW (y_loadOwn hF rfl 0 rfl rfl Tryz.underlying37 rfl) (ws hF rfl rfl) fun a hF=>pq 2 hF rfl fun a hF=>?_;refine Fr.splitD hF (fun h6 hF=>?_) (fun h6 hF=>?_);refine pq 6 hF rfl fun a hF=>l_nil ?_;replace hF:=hF.ks [0,1,2,45] rfl;refine t_n<|c_t hF rfl<|c_sr<|pq 1 hF rfl fun a hF=>l_nil<|t_n<|wp_ret<|t_r<|ret1 Tryz.results46 hF (rv_t hF rfl) ?_
 exact⟨by rw[chkSys_2 (sizes_false Om)],hW.below⟩
 refine pq 3 hF rfl fun a hF=>pvg hF hW (y_loadOwn hF rfl 0 rfl rfl Tryz.underlying35 rfl) (ws hF rfl rfl) fun a hF=>?_;refine pe (e_callK hF hW rfl rfl en_88 Rl (someS1 (hx.below hW.below)) ?_) (ws hF rfl rfl);intro a w1 hW hF;refine Fr.splitB hF (fun h7 hF=>?_) (fun h7 hF=>?_);refine pq 1 hF rfl fun a hF=>l_nil ?_;replace hF:=hF.ks [0,1,2,45] rfl;refine t_n<|c_t hF rfl<|c_sr<|pq 1 hF rfl fun a hF=>l_nil<|t_n<|wp_ret<|t_r<|ret1 Tryz.results46 hF (rv_t hF rfl) ?_
 exact⟨by rw[chkSys_2 (inp_bad Am)],hW.below⟩
 refine pq 1 hF rfl fun a hF=>l_nil ?_;replace hF:=hF.ks [0,1,2,45] rfl;refine t_n<|c_f hF rfl<|wp_skip<|t_n<|c_s ?_
 have HS:sizesOk x.sys=true:=(sizes_true Om Om Om (fun i hi=>inp_all Am hi))
 refine c_sr<|pq 1 hF rfl fun a hF=>pv hF hW (y_loadOwn hF rfl 0 rfl rfl Tryz.underlying35 rfl) fun a hF=>pq 2 hF rfl fun a hF=>l_nil<|t_n<|wp_block ?_;refine c_loop (G:=Nat) (fun k:Nat=>[(49,.int .i64 (k:Int))]) (fun k:Nat=>[]) (fun k:Nat=>k≤x.parts.length∧firstCode x.sys.parts=firstCode (x.sys.parts.drop k)) (fun k:Nat=>x.parts.length - k) 0 (hF.ks [0,1,45,47,48] rfl) (Fr.cons hF (t:=49) rfl Rg (Fr.nil hF)) (hW) ?_ ?_
 exact⟨by omega,rfl⟩
 clear hF hW
 try clear a
 intro k a wc hC hF hW
 obtain⟨hk,hfc⟩:=hC
 refine c_sr<|pq 1 hF rfl fun a hF=>?_;refine Fr.splitD hF (fun h8 hF=>?_) (fun h8 hF=>?_);refine l_nil<|t_n<|c_s<|c_t hF rfl<|wp_skip<|t_n<|c_s<|wp_block<|c_sr<|pv hF hW (y_indexS hF rfl rfl Od Tryz.underlying35 sz_43 (fun w h=>(hx.partsR).wd h)) fun a hF=>pv hF hW (y_loadRowW hF rfl (fun w h=>(hx.partsR).wd h) Od Tryz.underlying43 rfl sz_43) fun a hF=>pe<|e_alloc hF hW ze_43 rfl rfl rfl fun b9 a wc hF hW=>pe<|e_storeAll rfl hF hW rfl rfl 0 rfl rfl rfl Kr sz_43 fun wc hW=>lts<|pq 1 hF rfl fun a hF=>pv hF hW (y_loadOwn hF rfl 0 rfl rfl Tryz.underlying40 rfl) fun a hF=>pe<|e_callK hF hW rfl rfl en_90 Rl (codeCheck_any _ _ _ ((hx.part (k:=k) Om).below hW.below).code) fun a w1 hW hF=>pq 1 hF rfl fun a hF=>lts<|pq 2 hF rfl fun a hF=>?_;refine Fr.splitD hF (fun h10 hF=>?_) (fun h10 hF=>?_);refine l_nil<|t_n<|c_t hF rfl<|c_sr<|pq 2 hF rfl fun a hF=>l_nil<|t_n<|wp_ret<|b_r<|t_r<|t_r<|b_r<|t_r<|ret1 Tryz.results46 hF (rv_t hF rfl) ?_
 exact⟨by rw[chkSys_c HS (by rw[first_at (k:=k) Om hfc Om];omega),first_at (k:=k) Om hfc Om],hW.below⟩
 refine l_nil<|t_n<|c_f hF rfl<|wp_skip<|b_n<|t_n<|c_r<|pv hF hW (y_add hF rfl rfl (IntWalk.i64_in _ Om)) fun a hF=>pq 1 hF rfl fun a hF=>l_nil ?_;replace hW:=hW.del 0 rfl;refine t_n ?_;refine⟨(k+1),?_,?_,?_,?_⟩
 exact⟨by omega,first_step Om hfc Om⟩
 first|omega|(dsimp only;omega)
 exact hF.a1 rfl rfl
 exact hW
 refine l_nil<|t_n<|c_s<|c_f hF rfl<|wp_exit<|t_x<|t_x<|b_h<|t_n ?_
 have HFC:firstCode x.sys.parts=0:=first_end (by rw[hfc];congr 2;omega)
 have hni:∀k,k<x.parts.length→∀i,i∈(x.parts.getD k P0).1.code→i.op=12∨i.op=13→0≤i.n:=fun k hk i hi ho=>(insNum ((chkCode_all (codes_ok HFC hk)).2 i hi) ho).1
 have hnn:∀k,k<x.parts.length→∀op m,op=12∨op=13→m∈namesOr op (x.parts.getD k P0).1.code→0≤m:=fun k hk op m ho hm=>named_nonneg (codes_ok HFC hk) (hni k hk) ho hm
 have hpl:x.sys.parts.length=x.parts.length:=(by simp[SysD.sys])
 refine c_sr<|pv hF hW (y_makeFunc hF rfl) fun a hF=>pe<|e_alloc hF hW ze_166 rfl rfl rfl fun b11 a wc hF hW=>pe<|e_store rfl hF hW rfl rfl 0 rfl rfl rfl sz_166 fun wc hW=>l_nil<|t_n<|c_s<|wp_block<|c_sr<|pq 1 hF rfl fun a hF=>pv hF hW (y_loadOwn hF rfl 1 rfl rfl Tryz.underlying36 rfl) fun a hF=>pe<|e_callK hF hW rfl rfl en_92 Rl (someS3 (hx.below hW.below)) fun a w1 hW hF=>?_;refine Fr.splitB hF (fun h12 hF=>?_) (fun h12 hF=>?_);refine pq 1 hF rfl fun a hF=>l_nil<|t_n<|c_t hF rfl<|c_sr<|pq 1 hF rfl fun a hF=>l_nil<|t_n<|wp_ret<|b_r<|t_r<|ret1 Tryz.results46 hF (rv_t hF rfl) ?_
 exact⟨by rw[chkSys_4 HS HFC (nta Am)],hW.below⟩
 refine pq 1 hF rfl fun a hF=>l_nil<|t_n<|c_f hF rfl ?_
 have HKD:(x.sys.chans.all fun c=>kindOk c.kind)=true:=nfa Am
 refine c_sr<|pq 1 hF rfl fun a hF=>pv hF hW (y_loadOwn hF rfl 1 rfl rfl Tryz.underlying36 rfl) fun a hF=>pv hF hW (y_makeFunc hF rfl) fun a hF=>pe<|e_callK hF hW rfl rfl en_92 Rl (someS4 (hx.below hW.below) (hW.blk 1 rfl) (hW.blk 0 rfl)) fun a w1 hW hF=>?_;refine Fr.splitB hF (fun h13 hF=>?_) (fun h13 hF=>?_);refine pq 1 hF rfl fun a hF=>l_nil<|t_n<|c_t hF rfl<|c_sr<|pq 1 hF rfl fun a hF=>l_nil<|t_n<|wp_ret<|b_r<|t_r<|ret1 Tryz.results46 hF (rv_t hF rfl) ?_
 exact⟨by rw[chkSys_3 HS HFC HKD (by rw[hpl];exact nta Am)],hW.below⟩
 refine pq 1 hF rfl fun a hF=>l_nil<|t_n<|c_f hF rfl ?_
 have HCH:x.sys.chans.all (chnOk x.sys.parts.length)=true:=(by rw[hpl];exact nfa Am)
 refine c_sr<|pq 1 hF rfl fun a hF=>pv hF hW (y_loadOwn hF rfl 1 rfl rfl Tryz.underlying37 rfl) fun a hF=>pv hF hW (y_makeFunc hF rfl) fun a hF=>pe<|e_callK hF hW rfl rfl en_95 Rl (someS5 (hx.below hW.below) (hW.blk 1 rfl) (hW.blk 0 rfl)) fun a w1 hW hF=>?_;refine Fr.splitB hF (fun h14 hF=>?_) (fun h14 hF=>?_);refine pq 1 hF rfl fun a hF=>l_nil<|t_n<|c_t hF rfl<|c_sr<|pq 1 hF rfl fun a hF=>l_nil<|t_n<|wp_ret<|b_r<|t_r<|ret1 Tryz.results46 hF (rv_t hF rfl) ?_
 exact⟨by rw[chkSys_3' HS HFC HKD HCH (by rw[hpl];exact nta Am)],hW.below⟩
 refine pq 1 hF rfl fun a hF=>l_nil<|t_n<|c_f hF rfl<|wp_skip<|b_n<|t_n<|c_s ?_
 have HSL:x.sys.slots.all (sltOk x.sys.parts.length)=true:=(by rw[hpl];exact nfa Am)
 refine c_sr<|pq 1 hF rfl fun a hF=>pv hF hW (y_loadOwn hF rfl 1 rfl rfl Tryz.underlying35 rfl) fun a hF=>pq 2 hF rfl fun a hF=>l_nil<|t_n<|wp_block ?_;refine c_loop (G:=Nat) (fun k:Nat=>[(78,.int .i64 (k:Int))]) (fun k:Nat=>[]) (fun k:Nat=>k≤x.parts.length∧∀q,q<k→(x.parts.getD q P0).1.code.all (insOk x.chans q)=true) (fun k:Nat=>x.parts.length - k) 0 (hF.ks [0,1,6,45,47,48,49,50,61,65,70,76,77] rfl) (Fr.cons hF (t:=78) rfl Rg (Fr.nil hF)) (hW) ?_ ?_
 exact⟨by omega,fun i hi=>by omega⟩
 clear hF hW
 try clear a
 intro k a wc hC hF hW
 obtain⟨hk,hnm⟩:=hC
 refine c_sr<|pq 1 hF rfl fun a hF=>?_;refine Fr.splitD hF (fun h15 hF=>?_) (fun h15 hF=>?_);refine l_nil<|t_n<|c_s<|c_t hF rfl<|wp_skip<|t_n<|c_s<|wp_block<|c_sr<|pq 1 hF rfl fun a hF=>pv hF hW (y_indexS hF rfl rfl Od Tryz.underlying35 sz_43 (fun w h=>(hx.partsR).wd h)) fun a hF=>pv hF hW (y_loadRowW hF rfl (fun w h=>(hx.partsR).wd h) Od Tryz.underlying43 rfl sz_43) fun a hF=>pe<|e_alloc hF hW ze_3 rfl rfl rfl fun b16 a wc hF hW=>pe<|e_alloc hF hW ze_43 rfl rfl rfl fun b17 a wc hF hW=>pe<|e_store rfl hF hW rfl rfl 1 rfl rfl rfl sz_3 fun wc hW=>pe<|e_storeAll rfl hF hW rfl rfl 0 rfl rfl rfl Kr sz_43 fun wc hW=>lts<|pq 1 hF rfl fun a hF=>pv hF hW (y_loadOwn hF rfl 0 rfl rfl Tryz.underlying40 rfl) fun a hF=>?_;refine pe (e_callA hF rfl rfl en_97 Rl (puts_any ((hx.part (k:=k) Om).below hW.below).code) ?_);rintro e w1 ⟨A',c',rfl,hb,hr⟩;replace hW:=hW.gotR hb hr;refine⟨_,rfl,fun a hF=>?_⟩;refine pq 5 hF rfl fun a hF=>lts<|pq 1 hF rfl fun a hF=>pv hF hW (y_loadOwn hF rfl 1 rfl rfl Tryz.underlying40 rfl) fun a hF=>?_;refine pe (e_callA hF rfl rfl en_98 Rl (gets_any ((hx.part (k:=k) Om).below hW.below).code) ?_);rintro e w1 ⟨A',c',rfl,hb,hr⟩;replace hW:=hW.gotR hb hr;refine⟨_,rfl,fun a hF=>?_⟩;refine pq 5 hF rfl fun a hF=>l_nil ?_;replace hF:=hF.ks [0,1,6,7,8,9,11,45,47,48,49,50,61,65,70,76,77,78,79] rfl;refine t_n<|c_sr<|pq 1 hF rfl fun a hF=>pv hF hW (y_makeFunc hF rfl) fun a hF=>pe<|e_callK hF hW rfl rfl en_99 Rl (someS6 (hW.res 1 rfl) (fun m hm=>hnn k Om 12 m (.inl rfl) hm) (hx.below hW.below) (hW.blk 5 rfl) (hW.blk 3 rfl)) fun a w1 hW hF=>?_;refine Fr.splitB hF (fun h18 hF=>?_) (fun h18 hF=>?_);refine pq 5 hF rfl fun a hF=>l_nil<|t_n<|c_t hF rfl<|c_sr<|pq 1 hF rfl fun a hF=>l_nil<|t_n<|wp_ret<|b_r<|t_r<|t_r<|b_r<|t_r<|ret1 Tryz.results46 hF (rv_t hF rfl) ?_
 exact⟨by rw[chkSys_1 HS HFC HKD HCH HSL (names_bad (k:=k) Om (by rw[names_iff (hni k Om),←namesOr_ok (codes_ok HFC (k:=k) Om),←namesOr_ok (codes_ok HFC (k:=k) Om),show(namesOr 12 (x.parts.getD k P0).1.code).any (badPut x.chans k)=true by assumption];rfl))],hW.below⟩
 refine pq 2 hF rfl fun a hF=>pvg hF hW (y_makeFunc hF rfl) (ws hF rfl rfl) fun a hF=>?_;refine pe (e_callK hF hW rfl rfl en_99 Rl (someS7 (hW.res 0 rfl) (fun m hm=>hnn k Om 13 m (.inr rfl) hm) (hx.below hW.below) (hW.blk 5 rfl) (hW.blk 3 rfl)) ?_) (ws hF rfl rfl);intro a w1 hW hF;refine Fr.splitB hF (fun h19 hF=>?_) (fun h19 hF=>?_);refine pq 1 hF rfl fun a hF=>l_nil<|t_n<|c_t hF rfl<|c_sr<|pq 1 hF rfl fun a hF=>l_nil<|t_n<|wp_ret<|b_r<|t_r<|t_r<|b_r<|t_r<|ret1 Tryz.results46 hF (rv_t hF rfl) ?_
 exact⟨by rw[chkSys_1 HS HFC HKD HCH HSL (names_bad (k:=k) Om (by rw[names_iff (hni k Om),←namesOr_ok (codes_ok HFC (k:=k) Om),←namesOr_ok (codes_ok HFC (k:=k) Om),show(namesOr 13 (x.parts.getD k P0).1.code).any (badGet x.chans k)=true by assumption,Bool.not_true,Bool.and_false]))],hW.below⟩
 refine pq 1 hF rfl fun a hF=>l_nil<|t_n<|c_f hF rfl<|wp_skip<|b_n<|t_n<|c_r<|pv hF hW (y_add hF rfl rfl (IntWalk.i64_in _ Om)) fun a hF=>pq 1 hF rfl fun a hF=>l_nil ?_;replace hW:=hW.ds [0,0,0,0] rfl;refine t_n ?_;refine⟨(k+1),?_,?_,?_,?_⟩
 exact⟨by omega,fun q hq=>by rcases Nat.lt_or_ge q k with h|h;exact hnm q h;(have hik:q=k:=by omega);rw[hik,names_iff (hni k Om),←namesOr_ok (codes_ok HFC (k:=k) Om),←namesOr_ok (codes_ok HFC (k:=k) Om)];simp_all⟩
 first|omega|(dsimp only;omega)
 exact hF.a1 rfl rfl
 exact hW
 refine l_nil<|t_n<|c_s<|c_f hF rfl<|wp_exit<|t_x<|t_x<|b_h<|t_n<|c_sr<|pq 1 hF rfl fun a hF=>l_nil<|t_n<|wp_ret<|ret1 Tryz.results46 hF (rv_t hF rfl) ?_
 exact⟨by rw[chkSys_0 HS HFC HKD HCH HSL (names_good fun q hq=>hnm q Om)],hW.below⟩
end
end Go.Proofs.YtndcjmopebcdgaaGreatDoor
