/- cert.Check and the reference's CheckPolicy; rules as a map. -/
import Derived.Test.YtndcjmopebcdgaaGreatDoorSkG
import Derived.Test.YtndcjmopebcdgaaGreatDoorSkJ
import Derived.Test.YtndcjmopebcdgaaGreatDoorEngM
import Derived.Test.YtndcjmopebcdgaaGreatDoorSkC
import Derived.Test.YtndcjmopebcdgaaGreatDoorSkE
set_option linter.unusedSimpArgs false
set_option linter.unusedVariables false
namespace Go.Proofs.YtndcjmopebcdgaaGreatDoor
open Go.ChangeShapes Go.WideShapes Go.ChangeAt Go.RowKit
set_option maxRecDepth 100000
def edgeOk(n:Nat)(e:Edg):Bool:=decide ((0≤e.from_∧e.from_<n)∧(0≤e.to_∧e.to_<n)∧e.from_≠e.to_)
def behindB(x y:Edg):Bool:=decide (y.from_<x.from_∨(x.from_=y.from_∧y.to_<x.to_))
def polAt(n:Nat)(l:List Edg)(k:Nat):Bool:=edgeOk n (l.getD k E0)&&(k==0||behindB (l.getD k E0) (l.getD (k - 1) E0))
def polTo(n:Nat)(l:List Edg)(k:Nat):Bool:=(List.range k).all (polAt n l)
def polOK(n:Nat)(l:List Edg):Bool:=polTo n l l.length
def certErr(s:Sys)(l:List Edg):Int:=if chkSys s=0 then(if polOK s.parts.length l=true then 0 else 1) else chkSys s
theorem polTo_succ{n k:Nat}{l:List Edg}(h:polTo n l k=true)(h2:polAt n l k=true):polTo n l (k+1)=true:=by
 unfold polTo at*
 rw[List.range_succ,List.all_append,h]
 simp[h2]
theorem polOK_no{n k:Nat}{l:List Edg}(hk:k<l.length)(h:polAt n l k=false):polOK n l=false:=by
 cases hp:polOK n l
 ·rfl
 ·have:=List.all_eq_true.1 hp k (List.mem_range.2 hk)
  rw[h] at this
  cases this
theorem order_lt(x y:Edg):orderI x y<0↔x.from_<y.from_∨(x.from_=y.from_∧x.to_<y.to_):=by
 unfold orderI orI cmpI
 constructor
 ·intro h
  split at h<;>rename_i h1<;>(repeat' split at h)<;>(repeat' split at h1)<;>omega
 ·intro h
  split<;>rename_i h1<;>(repeat' split)<;>(repeat' split at h1)<;>omega
theorem certErr_c{s:Sys}{l:List Edg}(h:chkSys s≠0):certErr s l=chkSys s:=if_neg h
theorem certErr_1{s:Sys}{l:List Edg}(h:chkSys s=0)(h2:polOK s.parts.length l=false):certErr s l=1:=by
 unfold certErr
 rw[if_pos h,h2]
 rfl
theorem certErr_0{s:Sys}{l:List Edg}(h:chkSys s=0)(h2:polOK s.parts.length l=true):certErr s l=0:=by
 unfold certErr
 rw[if_pos h,h2]
 rfl
theorem certErr_zero{s:Sys}{l:List Edg}(h:certErr s l=0):chkSys s=0∧polOK s.parts.length l=true:=by
 unfold certErr at h
 split at h
 ·rename_i h1
  refine⟨h1,?_⟩
  split at h
  ·assumption
  ·cases h
 ·exact absurd h Am
theorem polAt_get{n k:Nat}{l:List Edg}{fr tt:Int}(hz:l.getD k E0=⟨fr,tt⟩):polAt n l k=true↔(0≤fr∧fr<n)∧(0≤tt∧tt<n)∧fr≠tt∧(0<k→orderI (l.getD (k - 1) E0) ⟨fr,tt⟩<0):=by
 unfold polAt edgeOk behindB
 rw[hz,order_lt]
 simp only[Bool.and_eq_true,decide_eq_true_eq,Bool.or_eq_true,beq_iff_eq]
 constructor
 ·rintro⟨⟨h1,h2,h3⟩,h4⟩
  refine⟨h1,h2,h3,fun hk=>?_⟩
  omega
 ·rintro⟨h1,h2,h3,h4⟩
  refine⟨⟨h1,h2,h3⟩,?_⟩
  by_cases hk:k=0
  ·exact .inl hk
  ·have:=h4 Om
   omega
theorem there_iff{s:Sys}(h:chkSys s=0)(p:Int):thereErr s p=0↔0≤p∧p<s.parts.length:=by
 unfold thereErr
 rw[if_pos h]
 split<;>simp_all
set_option maxHeartbeats 8000000 in
theorem certChk_any{x:SysD}{w:World}(hx:x.At w){l:List Edg}{A:Option Addr}{c:Nat}(hm:May_ w A c l)(hlm:l.length≤maxLen):
  Calls Tryz.prog 38 #[x.val,.agg #[.slice A l.length c]] w fun e w'=>e=.returned (.int .i64 (certErr x.sys l))∧Below w.heap.size w w':=by
 have hck:=fun w1 (hb:Below w.heap.size w w1)=>confCheck_any (hx.below hb)
 have hth:=fun w1 (hb:Below w.heap.size w w1) (p:Int)=>confThere_any (hx.below hb) p
 have hM:RF w A l.length 2 (fun k=>Edg.cells (l.getD k E0)):=Flat.rf Edg.cells_len E0 hm
 unfold maxLen at hlm
 by_cases hk0:chkSys x.sys=0
 ·have hti:=there_iff hk0
  rw[hk0] at hck
  rw[x.val_eq] at*
  refine enter Tryz.func38 rfl Tryz.ntmps38 rfl fun a hF=>?_
  have hW:=Wd.start w NoB
  refine c_sr<|pe<|e_box hF hW rfl rfl rfl rfl fun b1 a wc hF hW=>pe<|e_box hF hW rfl rfl rfl rfl fun b2 a wc hF hW=>pq 1 hF rfl fun a hF=>l_nil<|t_n<|c_s<|c_sr<|pv hF hW (y_loadAll hF rfl 1 rfl Tryz.underlying39 rfl sz_39) fun a hF=>pe<|e_callK hF hW rfl rfl en_46 Rl (hck _ hW.below) fun a w1 hW hF=>pq 1 hF rfl fun a hF=>lts<|pq 2 hF rfl fun a hF=>?_;replace hF:=hF.ff;refine l_nil<|t_n<|c_f hF rfl<|wp_skip<|t_n<|c_s<|c_sr<|pq 1 hF rfl fun a hF=>pv hF hW (y_loadOwn hF rfl 0 rfl rfl Tryz.underlying25 rfl) fun a hF=>pq 2 hF rfl fun a hF=>l_nil<|t_n<|wp_block ?_;refine c_loop (G:=Nat) (fun k:Nat=>[(16,.int .i64 (k:Int))]) (fun k:Nat=>[]) (fun k:Nat=>k≤l.length∧polTo x.sys.parts.length l k=true) (fun k:Nat=>l.length - k) 0 (hF.ks [0,1,2,3,5,11,14,15] rfl) (Fr.cons hF (t:=16) rfl Rg (Fr.nil hF)) (hW) ?_ ?_
  exact⟨by omega,rfl⟩
  clear hF hW
  try clear a
  intro k a wc hC hF hW
  obtain⟨hkl,hpt⟩:=hC
  refine c_sr<|pq 1 hF rfl fun a hF=>?_;refine Fr.splitD hF (fun h3 hF=>?_) (fun h3 hF=>?_);refine l_nil<|t_n<|c_s<|c_t hF rfl<|wp_skip<|t_n<|c_s<|wp_block ?_
  obtain⟨z,hz⟩:∃q,l.getD k E0=q:=⟨_,rfl⟩
  obtain⟨fr,tt⟩:=z
  have hkl2:k<l.length:=Om
  refine c_sr<|pq 1 hF rfl fun a hF=>pv hF hW (y_indexS hF rfl rfl (by exact hkl2) Tryz.underlying25 sz_53 (fun w h=>(hM).wd h)) fun a hF=>pv hF hW (y_loadRowW hF rfl (fun w h=>(hM).wd h) (by exact hkl2) Tryz.underlying53 rfl (by rw[hz];exact sz_53)) fun a hF=>?_;replace hF:=Fr.cast (v':=.agg #[.int .i64 fr,.int .i64 tt]) (by rw[hz];rfl) hF;refine pe<|e_alloc hF hW ze_53 rfl rfl rfl fun b4 a wc hF hW=>pq 1 hF rfl fun a hF=>pe<|e_storeAll rfl hF hW rfl rfl 0 rfl rfl rfl Kr sz_53 fun wc hW=>l_nil<|t_n<|c_sd mixed_ok hW (hW) ?_
  clear hW;intro wc hW hS
  refine dv 0 rfl hF hS (y_loadAll hF rfl 2 rfl Tryz.underlying39 rfl sz_39) fun a hF=>dq 1 [1] hF hS rfl fun a hF=>dv 2 rfl hF hS (y_loadOwn hF rfl 0 rfl rfl Tryz.underlying3 rfl) fun a hF=>d_1 3 Kr<|d_op rfl rfl<|e_callK hF hW rfl rfl en_43 Rl (hth _ hW.below fr) fun a w1 hW hF=>ai hW fun hS=>dq 1 [4] hF hS rfl fun a hF=>?_;refine Fr.splitD hF (fun h5 hF=>?_) (fun h5 hF=>?_);refine dq 29 [5,6,7,8,9,10,11,12,13,14,15,16,17,18,19,20,21,22,23,24,25,26,27,28,29,30,31,32,33] hF hS rfl fun a hF=>?_;clear hS;refine d_nil Kr ?_;replace hF:=hF.ks [0,1,2,3,5,6,7,11,14,15,16,17,54] rfl;refine t_n<|c_t hF rfl<|c_sr<|pq 1 hF rfl fun a hF=>l_nil<|t_n<|wp_ret<|b_r<|t_r<|t_r<|b_r<|t_r<|ret1 Tryz.results38 hF (rv_t hF rfl) ?_
  first
  |exact⟨by rw[certErr_0 hk0 (by obtain rfl:k=l.length:=Om;exact hpt)],hW.below⟩
  |exact⟨by rw[certErr_1 hk0 (polOK_no hkl2 (Bool.eq_false_iff.2 fun hp=>by obtain⟨p1,p2,p3,p4⟩:=(polAt_get hz).1 hp;have q1:=(hti fr).2 p1;have q2:=(hti tt).2 p2;first|omega|(have q3:=p4 Om;omega)))],hW.below⟩
  refine dq 1 [5] hF hS rfl fun a hF=>dvg 6 rfl hF hS (y_loadAll hF rfl 2 rfl Tryz.underlying39 rfl sz_39) (ws hF rfl rfl) fun a hF=>dq 1 [7] hF hS rfl fun a hF=>dvg 8 rfl hF hS (y_loadOwn hF rfl 0 rfl rfl Tryz.underlying3 rfl) (ws hF rfl rfl) fun a hF=>d_1 9 Kr ?_;refine d_op rfl (ws hF rfl rfl) (e_callK hF hW rfl rfl en_43 Rl (hth _ hW.below tt) ?_);intro a w1 hW hF;refine ai hW fun hS=>dq 1 [10] hF hS rfl fun a hF=>?_;refine Fr.splitD hF (fun h6 hF=>?_) (fun h6 hF=>?_);refine dq 23 [11,12,13,14,15,16,17,18,19,20,21,22,23,24,25,26,27,28,29,30,31,32,33] hF hS rfl fun a hF=>?_;clear hS;refine d_nil Kr ?_;replace hF:=hF.ks [0,1,2,3,5,6,7,11,14,15,16,17,54] rfl;refine t_n<|c_t hF rfl<|c_sr<|pq 1 hF rfl fun a hF=>l_nil<|t_n<|wp_ret<|b_r<|t_r<|t_r<|b_r<|t_r<|ret1 Tryz.results38 hF (rv_t hF rfl) ?_
  first
  |exact⟨by rw[certErr_0 hk0 (by obtain rfl:k=l.length:=Om;exact hpt)],hW.below⟩
  |exact⟨by rw[certErr_1 hk0 (polOK_no hkl2 (Bool.eq_false_iff.2 fun hp=>by obtain⟨p1,p2,p3,p4⟩:=(polAt_get hz).1 hp;have q1:=(hti fr).2 p1;have q2:=(hti tt).2 p2;first|omega|(have q3:=p4 Om;omega)))],hW.below⟩
  refine dq 3 [11,12,13] hF hS rfl fun a hF=>dvg 14 rfl hF hS (y_loadOwn hF rfl 0 rfl rfl Tryz.underlying3 rfl) (ws hF rfl rfl) fun a hF=>dq 1 [15] hF hS rfl fun a hF=>dvg 16 rfl hF hS (y_loadOwn hF rfl 0 rfl rfl Tryz.underlying3 rfl) (ws hF rfl rfl) fun a hF=>dq 1 [17] hF hS rfl fun a hF=>?_;refine Fr.splitD hF (fun h7 hF=>?_) (fun h7 hF=>?_);refine dq 16 [18,19,20,21,22,23,24,25,26,27,28,29,30,31,32,33] hF hS rfl fun a hF=>?_;clear hS;refine d_nil Kr ?_;replace hF:=hF.ks [0,1,2,3,5,6,7,11,14,15,16,17,54] rfl;refine t_n<|c_t hF rfl<|c_sr<|pq 1 hF rfl fun a hF=>l_nil<|t_n<|wp_ret<|b_r<|t_r<|t_r<|b_r<|t_r<|ret1 Tryz.results38 hF (rv_t hF rfl) ?_
  first
  |exact⟨by rw[certErr_0 hk0 (by obtain rfl:k=l.length:=Om;exact hpt)],hW.below⟩
  |exact⟨by rw[certErr_1 hk0 (polOK_no hkl2 (Bool.eq_false_iff.2 fun hp=>by obtain⟨p1,p2,p3,p4⟩:=(polAt_get hz).1 hp;have q1:=(hti fr).2 p1;have q2:=(hti tt).2 p2;first|omega|(have q3:=p4 Om;omega)))],hW.below⟩
  refine dq 4 [18,19,20,21] hF hS rfl fun a hF=>?_;refine Fr.splitD hF (fun h8 hF=>?_) (fun h8 hF=>?_);refine dq 2 [22,23] hF hS rfl fun a hF=>dvg 24 rfl hF hS (y_loadOwn hF rfl 1 rfl rfl Tryz.underlying25 rfl) (ws hF rfl rfl) fun a hF=>dq 1 [25] hF hS rfl fun a hF=>dvg 26 rfl hF hS (y_sub hF rfl rfl (IntWalk.i64_in _ Om)) (ws hF rfl rfl) fun a hF=>?_;replace hF:=Fr.cast (v':=.int .i64 ((k - 1:Nat):Int)) (by congr 1;omega) hF;refine dvg 27 rfl hF hS (y_indexS hF rfl rfl Od Tryz.underlying25 sz_53 (fun w h=>(hM).wd h)) (ws hF rfl rfl) fun a hF=>dvg 28 rfl hF hS (y_loadRowW hF rfl (fun w h=>(hM).wd h) Od Tryz.underlying53 rfl sz_53) (ws hF rfl rfl) fun a hF=>dvg 29 rfl hF hS (y_loadAll hF rfl 0 rfl Tryz.underlying53 rfl sz_53) (ws hF rfl rfl) fun a hF=>d_1 30 Kr ?_;refine d_op rfl (ws hF rfl rfl) (e_callK hF hW rfl rfl en_82 Rl (order_any (l.getD (k - 1) E0) ⟨fr,tt⟩ _) ?_);intro a w1 hW hF;refine ai hW fun hS=>dq 1 [31] hF hS rfl fun a hF=>?_;refine Fr.splitD hF (fun h9 hF=>?_) (fun h9 hF=>?_);refine dq 2 [32,33] hF hS rfl fun a hF=>?_;clear hS;refine d_nil Kr ?_;replace hF:=hF.ks [0,1,2,3,5,6,7,11,14,15,16,17,54] rfl;refine t_n<|c_t hF rfl<|c_sr<|pq 1 hF rfl fun a hF=>l_nil<|t_n<|wp_ret<|b_r<|t_r<|t_r<|b_r<|t_r<|ret1 Tryz.results38 hF (rv_t hF rfl) ?_
  first
  |exact⟨by rw[certErr_0 hk0 (by obtain rfl:k=l.length:=Om;exact hpt)],hW.below⟩
  |exact⟨by rw[certErr_1 hk0 (polOK_no hkl2 (Bool.eq_false_iff.2 fun hp=>by obtain⟨p1,p2,p3,p4⟩:=(polAt_get hz).1 hp;have q1:=(hti fr).2 p1;have q2:=(hti tt).2 p2;first|omega|(have q3:=p4 Om;omega)))],hW.below⟩
  refine dq 2 [32,33] hF hS rfl fun a hF=>?_;clear hS;refine d_nil Kr ?_;replace hF:=hF.ks [0,1,2,3,5,6,7,11,14,15,16,17,54] rfl;refine t_n<|c_f hF rfl<|wp_skip<|b_n<|t_n<|c_r<|pv hF hW (y_add hF rfl rfl (IntWalk.i64_in _ Om)) fun a hF=>pq 1 hF rfl fun a hF=>l_nil ?_;replace hW:=hW.del 0 rfl;refine t_n ?_;refine⟨(k+1),?_,?_,?_,?_⟩
  exact⟨by omega,polTo_succ hpt ((polAt_get hz).2 ⟨(hti fr).1 Om,(hti tt).1 Om,by omega,fun hk=>by omega⟩)⟩
  first|omega|(dsimp only;omega)
  exact hF.a1 rfl rfl
  exact hW
  refine dq 12 [22,23,24,25,26,27,28,29,30,31,32,33] hF hS rfl fun a hF=>?_;clear hS;refine d_nil Kr ?_;replace hF:=hF.ks [0,1,2,3,5,6,7,11,14,15,16,17,54] rfl;refine t_n<|c_f hF rfl<|wp_skip<|b_n<|t_n<|c_r<|pv hF hW (y_add hF rfl rfl (IntWalk.i64_in _ Om)) fun a hF=>pq 1 hF rfl fun a hF=>l_nil ?_;replace hW:=hW.del 0 rfl;refine t_n ?_;refine⟨(k+1),?_,?_,?_,?_⟩
  exact⟨by omega,polTo_succ hpt ((polAt_get hz).2 ⟨(hti fr).1 Om,(hti tt).1 Om,by omega,fun hk=>by omega⟩)⟩
  first|omega|(dsimp only;omega)
  exact hF.a1 rfl rfl
  exact hW
  refine l_nil<|t_n<|c_s<|c_f hF rfl<|wp_exit<|t_x<|t_x<|b_h<|t_n<|c_sr<|pq 1 hF rfl fun a hF=>l_nil<|t_n<|wp_ret<|ret1 Tryz.results38 hF (rv_t hF rfl) ?_
  first
  |exact⟨by rw[certErr_0 hk0 (by obtain rfl:k=l.length:=Om;exact hpt)],hW.below⟩
  |exact⟨by rw[certErr_1 hk0 (polOK_no hkl2 (Bool.eq_false_iff.2 fun hp=>by obtain⟨p1,p2,p3,p4⟩:=(polAt_get hz).1 hp;have q1:=(hti fr).2 p1;have q2:=(hti tt).2 p2;first|omega|(have q3:=p4 Om;omega)))],hW.below⟩
 ·rw[certErr_c hk0]
  generalize chkSys x.sys=E at*
  rw[x.val_eq] at*
  refine enter Tryz.func38 rfl Tryz.ntmps38 rfl fun a hF=>?_
  have hW:=Wd.start w NoB
  refine c_sr<|pe<|e_box hF hW rfl rfl rfl rfl fun b1 a wc hF hW=>pe<|e_box hF hW rfl rfl rfl rfl fun b2 a wc hF hW=>pq 1 hF rfl fun a hF=>l_nil<|t_n<|c_s<|c_sr<|pv hF hW (y_loadAll hF rfl 1 rfl Tryz.underlying39 rfl sz_39) fun a hF=>pe<|e_callK hF hW rfl rfl en_46 Rl (hck _ hW.below) fun a w1 hW hF=>pq 1 hF rfl fun a hF=>lts<|pq 2 hF rfl fun a hF=>?_;refine Fr.splitD hF (fun h3 hF=>?_) (fun h3 hF=>?_);refine l_nil<|t_n<|c_t hF rfl<|c_sr<|pq 2 hF rfl fun a hF=>l_nil<|t_n<|wp_ret<|t_r<|ret1 Tryz.results38 hF (rv_t hF rfl) ?_
  exact⟨rfl,hW.below⟩
  exfalso
  exact h3 hk0
end Go.Proofs.YtndcjmopebcdgaaGreatDoor
