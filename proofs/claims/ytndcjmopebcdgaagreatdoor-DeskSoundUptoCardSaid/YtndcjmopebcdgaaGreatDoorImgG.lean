/- image's glass: numbers are read off a string. -/
import Derived.Test.YtndcjmopebcdgaaGreatDoorSkB
import Derived.Test.YtndcjmopebcdgaaGreatDoorImgP
import Derived.Test.YtndcjmopebcdgaaGreatDoorTys
set_option linter.unusedSimpArgs false
set_option linter.unusedVariables false
namespace Go.Proofs.YtndcjmopebcdgaaGreatDoor
open Go.ChangeShapes Go.WideShapes Go.ChangeAt Go.RowKit
theorem ck_ImgG_5_3(n:Int)(h: -9223372036854775808≤n∧n≤9223372036854775807)(w:World):(convert 5 3 (.int .u8 n)).run Tryz.prog w=.ok (.int .i64 n) w:=by
 have:=IntWalk.i64_in n h
 simp[convert,run_underlying Tryz.underlying5,run_underlying Tryz.underlying3,Conv.intToInt,this]
theorem bu_ImgG_145_(w:World):(Instr.build 145 #[]).run Tryz.prog w=.ok (.agg #[]) w:=by kernel_rfl
set_option maxRecDepth 100000
abbrev glassS(bg:Nat)(l:List UInt8):Asn:=.blk bg 126 [.string (bstr l)]
def brkI:List PanicEntry:=[{v:=.iface 145 (.agg #[]),recovered:=false}]
theorem foldB_take{l:List UInt8}{k:Nat}(hk:k<l.length):foldB (l.take (k+1))=step8 (foldB (l.take k)) (l.getD k 0):=by
 rw[List.take_add_one,List.getElem?_eq_getElem hk]
 simp only[Option.toList_some]
 rw[foldB_add]
 simp[List.getD,hk]
set_option maxHeartbeats 4000000 in
theorem number_in{w:World}{X:Nat→Prop}{bg size:Nat}{l:List UInt8}(hW:Wd w X [glassS bg l] w)(hs:size≤100):
  Calls Tryz.prog 55 #[.pointer (some ⟨bg,0,none⟩),.int .i64 size] w fun e w'=>(∃n r,e=.returned (.int .i64 n)∧numOf size l=some (n,r)∧Wd w X [glassS bg r] w')∨(e=.panicked brkI∧numOf size l=none∧Wd w X [] w'):=by
 refine enter Tryz.func55 rfl Tryz.ntmps55 rfl fun a hF=>c_sr<|pq 1 hF rfl fun a hF=>l_nil<|t_n<|c_s<|c_sr<|pq 3 hF rfl fun a hF=>pv hF hW (y_loadOwn hF rfl 0 rfl rfl Tryz.underlying9 rfl) fun a hF=>pv hF hW (y_lenB hF rfl Tryz.underlying9) fun a hF=>pq 2 hF rfl fun a hF=>?_;refine Fr.splitD hF (fun h1 hF=>?_) (fun h1 hF=>?_);refine l_nil<|t_n<|c_t hF rfl<|c_r<|pv hF hW (y_build hF rfl (fun w=>bu_ImgG_145_ w)) fun a hF=>pv hF hW (y_makeIface hF rfl Tryz.underlying145 (by intro ms h;cases h)) fun a hF=>?_;refine pe (e_panic hF rfl ?_);refine t_p<|endp hF ?_
 exact .inr ⟨rfl,if_pos Om,hW.none_⟩
 refine l_nil<|t_n<|c_f hF rfl<|wp_skip<|t_n<|c_sr<|pq 1 hF rfl fun a hF=>l_nil<|t_n<|c_s ?_
 have hsl:size≤l.length:=Om
 refine c_sr<|pq 2 hF rfl fun a hF=>l_nil<|t_n<|wp_block ?_;refine c_loop (G:=Nat) (fun k:Nat=>[(17,.int .i64 (k:Int)),(5,.int .i64 (foldB (l.take k)))]) (fun k:Nat=>[]) (fun k:Nat=>k≤size) (fun k:Nat=>size - k) 0 (hF.ks [0,1,4,13,16] rfl) (Fr.cons hF (t:=17) rfl Rg (Fr.cons hF (t:=5) rfl Rg (Fr.nil hF))) (hW) ?_ ?_
 omega
 clear hF hW
 try clear a
 intro k a wc hC hF hW
 have hkl:=hC
 refine c_sr<|pq 1 hF rfl fun a hF=>?_;refine Fr.splitD hF (fun h2 hF=>?_) (fun h2 hF=>?_);refine l_nil<|t_n<|c_s<|c_t hF rfl<|wp_skip<|t_n<|c_s<|wp_block<|c_sr<|pq 2 hF rfl fun a hF=>l_nil<|t_n ?_
 have hk1:k<l.length:=Om
 refine c_r<|pq 1 hF rfl fun a hF=>pv hF hW (y_shl hF rfl rfl (by first|decide|(show _≤64;omega))) fun a hF=>pq 3 hF rfl fun a hF=>pv hF hW (y_loadOwn hF rfl 0 rfl rfl Tryz.underlying9 rfl) fun a hF=>pq 1 hF rfl fun a hF=>pv hF hW (y_indexStr hF rfl rfl (by exact hk1) Tryz.underlying9) fun a hF=>pv hF hW (y_convert hF rfl (ck_ImgG_5_3 _ (by have:=(l.getD k 0).toNat_lt;omega))) fun a hF=>pv hF hW (y_or hF rfl rfl) fun a hF=>?_;replace hF:=Fr.cast (v':=.int .i64 (step8 (foldB (l.take k)) (l.getD k 0))) (by exact congrArg _ (step8_or _ _)) hF;refine pq 1 hF rfl fun a hF=>l_nil<|b_n<|t_n<|c_r<|pv hF hW (y_add hF rfl rfl (IntWalk.i64_in _ Om)) fun a hF=>pq 1 hF rfl fun a hF=>l_nil<|t_n ?_;refine⟨(k+1),?_,?_,?_,?_⟩
 omega
 first|omega|(dsimp only;omega)
 focus
  exact Fr.app (Fr.cons hF (t:=17) rfl (by first|rfl|(exact congrArg _ (foldB_take hk1).symm)|(simp;done)|omega) (Fr.cons hF (t:=5) rfl (by first|rfl|(exact congrArg _ (foldB_take hk1).symm)|(simp;done)|omega) (Fr.nil hF))) (hF.ks [0,1,4,13,16] rfl)
 exact hW
 refine l_nil<|t_n<|c_s<|c_f hF rfl<|wp_exit<|t_x<|t_x<|b_h<|t_n<|c_sr<|pq 4 hF rfl fun a hF=>pv hF hW (y_loadOwn hF rfl 0 rfl rfl Tryz.underlying9 rfl) fun a hF=>pq 1 hF rfl fun a hF=>pv hF hW (y_sliceStrL hF rfl rfl (by exact hsl) Tryz.underlying9) fun a hF=>pq 2 hF rfl fun a hF=>pe<|e_store rfl hF hW rfl rfl 0 rfl rfl rfl sz_9 fun wc hW=>lts<|pq 2 hF rfl fun a hF=>l_nil<|t_n<|wp_ret<|ret1 Tryz.results55 hF (rv_t hF rfl) ?_
 rw[show k=size by omega]
 exact .inl ⟨_,_,rfl,if_neg Om,hW⟩
theorem number_call{w0 w:World}{X:Nat→Prop}{es:List Asn}{bg size:Nat}{l:List UInt8}(hW:Wd w0 X (glassS bg l::es) w)(hs:size≤100):
  Calls Tryz.prog 55 #[.pointer (some ⟨bg,0,none⟩),.int .i64 size] w fun e w'=>(∃n r,e=.returned (.int .i64 n)∧numOf size l=some (n,r)∧Wd w0 X (glassS bg r::es) w')∨(e=.panicked brkI∧numOf size l=none∧Wd w0 X es w'):=by
 obtain⟨X',hL,hback⟩:=Own.lendI [_] hW
 refine(number_in hL hs).mono ?_
 rintro e w' (⟨n,r,rfl,h1,hN⟩|⟨rfl,h1,hN⟩)
 ·exact .inl ⟨n,r,rfl,h1,hback _ _ hN⟩
 ·exact .inr ⟨rfl,h1,hback _ _ hN⟩
theorem numOf_drop{l:List UInt8}{k:Nat}{n:Int}{r:List UInt8}(h:numOf 1 (l.drop k)=some (n,r)):k<l.length∧n=((l.getD k 0).toNat:Int)∧r=(l.drop k).drop 1:=by
 have h1:=numOf_one_at h
 simp only[Prod.mk.injEq] at h1
 refine⟨?_,?_,h1.2⟩
 ·unfold numOf at h
  split at h
  ·cases h
  ·rename_i h2
   rw[List.length_drop] at h2
   omega
 ·rw[h1.1]
  simp[List.getD,List.getElem?_drop]
theorem numOf_none{l:List UInt8}{k:Nat}(h:numOf 1 (l.drop k)=none):l.length≤k:=by
 unfold numOf at h
 split at h
 ·rename_i h2
  rw[List.length_drop] at h2
  omega
 ·cases h
def ptrs(bx m:Nat):List Value:=(List.range m).map fun j=>.pointer (some ⟨bx,j,none⟩)
theorem ptrs_get{bx m k:Nat}(hk:k<m):(ptrs bx m)[k]?=some (.pointer (some ⟨bx,k,none⟩)):=by simp[ptrs,hk]
def setN(l:List UInt8)(k:Nat)(L:List Value):List Value:=((l.take k).map fun b=>Value.int .i64 (b.toNat:Int))++L.drop k
theorem setN_zero(l:List UInt8)(L:List Value):setN l 0 L=L:=by simp[setN]
theorem setN_succ{l:List UInt8}{k:Nat}{L:List Value}(hk:k<l.length)(hL:k<L.length):(setN l k L).set k (.int .i64 ((l.getD k 0).toNat:Int))=setN l (k+1) L:=by
 unfold setN
 rw[List.set_append_right _ _ (by rw[List.length_map,List.length_take];omega),List.length_map,List.length_take,Nat.min_eq_left Om,Nat.sub_self,List.drop_eq_getElem_cons hL,List.set_cons_zero,List.take_add_one,List.getElem?_eq_getElem hk,List.map_append,List.append_assoc]
 simp[List.getD,hk]
theorem setN_is{l:List UInt8}{k:Nat}{L:List Value}(hk:k<l.length)(hL:k<L.length):((setN l k L)[k]?).isSome=true:=by
 unfold setN
 rw[List.getElem?_eq_getElem (by rw[List.length_append,List.length_map,List.length_take,List.length_drop];omega)]
 rfl
set_option maxHeartbeats 4000000 in
theorem into_in{w:World}{X:Nat→Prop}{bg bx bs m:Nat}{T:TypeId}{l:List UInt8}{L:List Value}(hW:Wd w X [glassS bg l,.blk bx T L,.blk bs 132 (ptrs bx m)] w)(hm:m≤3)(hL:m≤L.length):
  Calls Tryz.prog 54 #[.pointer (some ⟨bg,0,none⟩),.slice (some ⟨bs,0,none⟩) m m] w fun e w'=>(e=.returned (.tuple #[])∧m≤l.length∧Wd w X [glassS bg (l.drop m),.blk bx T (setN l m L)] w')∨(e=.panicked brkI∧l.length<m∧Wd w X [] w'):=by
 refine enter Tryz.func54 rfl Tryz.ntmps54 rfl fun a hF=>c_sr<|pq 3 hF rfl fun a hF=>l_nil<|t_n<|wp_block ?_;replace hW:=hW.fs [1,1] rfl
 rw[←setN_zero l L] at hW
 refine c_loop (G:=Nat) (fun k:Nat=>[(8,.int .i64 (k:Int))]) (fun k:Nat=>[glassS bg (l.drop k),.blk bx T (setN l k L)]) (fun k:Nat=>k≤m∧k≤l.length) (fun k:Nat=>m - k) 0 (hF.ks [0,1,6,7] rfl) (Fr.cons hF (t:=8) rfl Rg (Fr.nil hF)) (hW) ?_ ?_
 exact⟨by omega,by omega⟩
 clear hF hW
 try clear a
 intro k a wc hC hF hW
 obtain⟨hkm,hkl⟩:=hC
 refine c_sr<|pq 1 hF rfl fun a hF=>?_;refine Fr.splitD hF (fun h1 hF=>?_) (fun h1 hF=>?_);refine l_nil<|t_n<|c_s<|c_t hF rfl<|wp_skip<|t_n<|c_s<|wp_block ?_
 have hk0:k<m:=Om
 refine c_sr<|pv hF hW (y_indexOwnS hF rfl rfl (by exact hk0) Tryz.underlying186 sz_132) fun a hF=>pv hF hW (y_loadOwn hF rfl 2 rfl (show _=some (.pointer (some ⟨bx,k,none⟩)) by simpa using ptrs_get (bx:=bx) hk0) Tryz.underlying132 rfl) fun a hF=>?_;replace hF:=Fr.cast (v':=.pointer (some ⟨bx,k,none⟩)) Rl hF;refine pq 1 hF rfl fun a hF=>ltr<|pq 2 hF rfl fun a hF=>?_;refine pe (e_callp hF rfl rfl en_55 Rl rfl rfl (number_call (l:=l.drop k) (size:=1) (hW.front 0 rfl rfl) Dc) ?_);rintro e w1 (⟨n,r,rfl,hT,hN⟩|⟨rfl,hT,hN⟩)
 have hk1:=numOf_drop hT
 obtain⟨hk1,rfl,rfl⟩:=hk1
 replace hW:=hN;refine .inl ⟨_,rfl,fun a hF=>?_⟩;refine pq 1 hF rfl fun a hF=>pe<|e_store rfl hF hW rfl rfl 1 rfl (setN_is hk1 Om) rfl sz_3 fun wc hW=>l_nil<|b_n<|t_n<|c_r<|pv hF hW (y_add hF rfl rfl (IntWalk.i64_in _ Om)) fun a hF=>pq 1 hF rfl fun a hF=>l_nil<|t_n ?_
 rw[List.drop_drop,setN_succ hk1 Om] at hW
 refine⟨k+1,?_,?_,?_,?_⟩
 exact⟨by omega,by omega⟩
 first|omega|(dsimp only;omega)
 exact hF.a1 rfl rfl
 exact hW
 replace hW:=hN;refine .inr ⟨_,rfl,?_⟩;refine b_p<|t_p<|t_p<|b_p<|endp hF ?_
 exact .inr ⟨rfl,by have:=numOf_none hT;omega,hW.none_⟩
 refine l_nil<|t_n<|c_s<|c_f hF rfl<|wp_exit<|t_x<|t_x<|b_h<|end0 Tryz.results54 hF ?_;replace hW:=hW.del 2 rfl
 rw[show k=m by omega] at hW
 exact .inl ⟨rfl,by omega,hW⟩
theorem into_call{w0 w:World}{X:Nat→Prop}{es:List Asn}{bg bx bs m:Nat}{T:TypeId}{l:List UInt8}{L:List Value}(hW:Wd w0 X (glassS bg l::.blk bx T L::.blk bs 132 (ptrs bx m)::es) w)(hm:m≤3)(hL:m≤L.length):
  Calls Tryz.prog 54 #[.pointer (some ⟨bg,0,none⟩),.slice (some ⟨bs,0,none⟩) m m] w fun e w'=>(e=.returned (.tuple #[])∧m≤l.length∧Wd w0 X (glassS bg (l.drop m)::.blk bx T (setN l m L)::es) w')∨(e=.panicked brkI∧l.length<m∧Wd w0 X es w'):=by
 obtain⟨X',hL',hback⟩:=Own.lendI [_,_,_] hW
 refine(into_in hL' hm hL).mono ?_
 rintro e w' (⟨rfl,h1,hN⟩|⟨rfl,h1,hN⟩)
 ·exact .inl ⟨rfl,h1,hback _ _ hN⟩
 ·exact .inr ⟨rfl,h1,hback _ _ hN⟩
end Go.Proofs.YtndcjmopebcdgaaGreatDoor
