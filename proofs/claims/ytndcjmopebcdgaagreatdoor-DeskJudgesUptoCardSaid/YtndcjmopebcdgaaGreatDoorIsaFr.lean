/- The reference's InstrFrom finds what a text says. -/
import Derived.Test.YtndcjmopebcdgaaGreatDoorDkD
import Derived.Test.YtndcjmopebcdgaaGreatDoorDkF
set_option linter.unusedSimpArgs false
set_option linter.unusedVariables false
namespace Go.Proofs.YtndcjmopebcdgaaGreatDoor
open Go.ChangeShapes Go.WideShapes Go.ChangeAt Go.RowKit
theorem ck_IsaFr_5_3(n:Int)(h: -9223372036854775808≤n∧n≤9223372036854775807)(w:World):(convert 5 3 (.int .u8 n)).run Tryz.prog w=.ok (.int .i64 n) w:=by
 have:=IntWalk.i64_in n h
 simp[convert,run_underlying Tryz.underlying5,run_underlying Tryz.underlying3,Conv.intToInt,this]
theorem bs_IsaFr_86_1_0(x0:ByteArray)(w:World):(Instr.buildSlice 86 1 #[(0,(.string x0))]).run Tryz.prog w=.ok (.slice (some ⟨w.heap.size,0,none⟩) 1 1) (w.alloc (.cells #[(.string x0)] 9)):=by kernel_rfl
set_option maxRecDepth 100000
section
variable {w0 w:World} {X:Nat→Prop} {es:List Asn}
theorem Wd.row_vseg(hW:Wd w0 X es w)(i:Nat){T:TypeId}{A:Option Addr}{n c:Nat}{l:List Value}(hi:es[i]?=some (.row T 1 (.slice A n c) n l))(hn:0<n):Wd w0 X (es.set i (.vseg T (.slice A n c) l)) w:=by
 rcases(hW.row i hi).2 with⟨_,h0⟩|⟨g,cap,cur,e,_,hg,h1,h2,h3,h4⟩
 ·omega
 injection e with e1 _ e3
 subst e1 e3
 have hl:l.length=n:=by rw[←h4,List.length_take,Array.length_toList,h3];omega
 refine hW.upd i hi fun F hF=>⟨Chg.refl _ _,(· =g),⟨some ⟨g,0,none⟩,c,by rw[hl],by omega,h2,fun _=>⟨g,0,cur.toList,rfl,rfl,by simpa[Blk] using hg,by simp[h3],by rw[hl,List.drop_zero,←h4,Nat.mul_one]⟩⟩,fun k hk=>?_⟩
 subst hk
 exact⟨(Array.getElem?_eq_some_iff.1 hg).1,.inl (hF.2 _ rfl)⟩
end
theorem strV_getD{l:List (List UInt8)}{k:Nat}(hk:k<l.length):(strV l).getD k .nilFunc=.string (bstr (l.getD k [])):=by
 unfold strV
 rw[List.getD,List.getElem?_map,List.getElem?_eq_getElem hk,List.getD,List.getElem?_eq_getElem hk]
 rfl
theorem strV_len(l:List (List UInt8)):(strV l).length=l.length:=List.length_map _
def SpI(c:UInt8)(l:List UInt8)(i fr:Nat)(out:List (List UInt8)):Prop:=
 (fr≤i∧i≤l.length∧splitC c l=out++splitC c (l.drop fr)∧c∉(l.drop fr).take (i - fr))∨(i=l.length+1∧splitC c l=out)
theorem SpI.start(c:UInt8)(l:List UInt8):SpI c l 0 0 []:=.inl ⟨Nat.le_refl _,Nat.zero_le _,by simp,by simp⟩
theorem SpI.last{c:UInt8}{l:List UInt8}{i fr:Nat}{out:List (List UInt8)}(h:SpI c l i fr out)(hi:i=l.length):fr≤i∧SpI c l (i+1) (i+1) (out++[(l.drop fr).take (i - fr)]):=by
 rcases h with⟨h1,h2,h3,h4⟩|⟨h1,_⟩
 ·subst hi
  rw[List.take_of_length_le (by rw[List.length_drop];exact Nat.le_refl _)] at h4⊢
  exact⟨h1,.inr ⟨rfl,by rw[h3,splitC_none h4]⟩⟩
 ·omega
theorem SpI.cut{c:UInt8}{l:List UInt8}{i fr:Nat}{out:List (List UInt8)}(h:SpI c l i fr out)(hi:i<l.length)(hc:l.getD i 0=c):fr≤i∧SpI c l (i+1) (i+1) (out++[(l.drop fr).take (i - fr)]):=by
 rcases h with⟨h1,h2,h3,h4⟩|⟨h1,_⟩
 ·refine⟨h1,.inl ⟨Nat.le_refl _,hi,?_,by simp⟩⟩
  have hd:l.drop fr=(l.drop fr).take (i - fr)++c::l.drop (i+1):=by
   have h5:(l.drop fr).drop (i - fr)=c::l.drop (i+1):=by
    rw[List.drop_drop,show fr+(i - fr)=i by omega,List.drop_eq_getElem_cons hi]
    congr 1
    rw[←hc,List.getD,List.getElem?_eq_getElem hi,Option.getD_some]
   rw[←h5,List.take_append_drop]
  rw[h3,List.append_assoc]
  congr 1
  conv=>lhs;rw[hd]
  rw[splitC_app _ h4]
  rfl
 ·omega
theorem SpI.go{c:UInt8}{l:List UInt8}{i fr:Nat}{out:List (List UInt8)}(h:SpI c l i fr out)(hi:i<l.length)(hc:¬l.getD i 0=c):SpI c l (i+1) fr out:=by
 rcases h with⟨h1,h2,h3,h4⟩|⟨h1,_⟩
 ·refine .inl ⟨by omega,hi,h3,fun hm=>?_⟩
  have hlt:i - fr<(l.drop fr).length:=by rw[List.length_drop];omega
  rw[show i+1 - fr=(i - fr)+1 by omega,List.take_succ_eq_append_getElem hlt,List.mem_append,List.mem_singleton] at hm
  rcases hm with hm|hm
  ·exact h4 hm
  ·apply hc
   rw[hm,List.getElem_drop,List.getD,List.getElem?_eq_getElem hi,Option.getD_some]
   congr 1
   omega
 ·omega
theorem SpI.le{c:UInt8}{l:List UInt8}{i fr:Nat}{out:List (List UInt8)}(h:SpI c l i fr out)(hi:i≤l.length):fr≤i:=by
 rcases h with⟨h1,_⟩|⟨h1,_⟩
 ·exact h1
 ·omega
theorem SpI.fin{c:UInt8}{l:List UInt8}{i fr n:Nat}{out:List (List UInt8)}(h:SpI c l i fr out)(hn:out.length≤n)(he:l.length<i∨n≤out.length):out=(splitC c l).take n:=by
 rcases h with⟨h1,h2,h3,h4⟩|⟨h1,h2⟩
 ·have:out.length=n:=by omega
  rw[h3,List.take_left' this]
 ·rw[h2,List.take_of_length_le hn]
set_option maxHeartbeats 4000000 in
theorem split_any(c:UInt8)(n:Nat)(hn:1≤n∧n≤100)(l:List UInt8)(hl:l.length≤4294967296)(w:World):Calls Tryz.prog 32 #[.string (bstr l),.int .u8 (c.toNat:Int),.int .i64 (n:Int)] w fun e w'=>
  ∃A cp,e=.returned (.slice A ((splitC c l).take n).length cp)∧Wd w NoB [rowS A cp ((splitC c l).take n)] w':=by
 refine enter Tryz.func32 rfl Tryz.ntmps32 rfl fun a hF=>?_
 have hW:=Wd.start w NoB
 refine c_sr<|pq 1 hF rfl fun a hF=>lts<|pq 1 hF rfl fun a hF=>lts<|pq 1 hF rfl fun a hF=>l_nil<|t_n<|c_s<|c_sr<|pq 1 hF rfl fun a hF=>l_nil<|t_n<|wp_block ?_;replace hW:=hW.nil_row 9 1;refine c_loop (G:=Nat×Nat×List (List UInt8)×Option Addr×Nat) (fun⟨i,fr,out,A,cp⟩=>[(9,.int .i64 (i:Int)),(8,.int .i64 (fr:Int)),(7,.slice A out.length cp)]) (fun⟨i,fr,out,A,cp⟩=>[rowS A cp out]) (fun⟨i,fr,out,A,cp⟩=>SpI c l i fr out∧out.length≤n) (fun⟨i,fr,out,A,cp⟩=>l.length+1 - i) (0,0,[],none,0) (hF.ks [0,1,2,6] rfl) (Fr.cons hF (t:=9) rfl Rg (Fr.cons hF (t:=8) rfl Rg (Fr.cons hF (t:=7) rfl Rg (Fr.nil hF)))) (hW) ?_ ?_
 exact⟨SpI.start _ _,Nat.zero_le _⟩
 clear hF hW
 try clear a
 intro gq a wc hC hF hW
 obtain⟨i,fr,out,A,cp⟩:=gq
 dsimp only at hC
 obtain⟨hS,hon⟩:=hC
 refine c_s<|c_sr<|pq 2 hF rfl fun a hF=>pv hF hW (y_lenB hF rfl Tryz.underlying9) fun a hF=>pq 1 hF rfl fun a hF=>?_;refine Fr.splitD hF (fun h1 hF=>?_) (fun h1 hF=>?_);refine pq 5 hF rfl fun a hF=>?_;refine Fr.splitD hF (fun h2 hF=>?_) (fun h2 hF=>?_);refine pq 1 hF rfl fun a hF=>l_nil<|t_n<|c_t hF rfl<|wp_skip<|t_n<|c_s<|wp_block<|c_sr<|pq 2 hF rfl fun a hF=>pv hF hW (y_lenB hF rfl Tryz.underlying9) fun a hF=>pq 1 hF rfl fun a hF=>?_;refine Fr.splitD hF (fun h3 hF=>?_) (fun h3 hF=>?_);refine pq 7 hF rfl fun a hF=>l_nil ?_;replace hF:=hF.ks [0,1,2,6,7,8,9,19,32] rfl;refine t_n<|c_t hF rfl ?_
 have hfr:=hS.le Om
 have hol:(out++[(l.drop fr).take (i - fr)]).length=out.length+1:=(by rw[List.length_append];rfl)
 refine c_sr<|pq 4 hF rfl fun a hF=>pv hF hW (y_sliceStrLH hF rfl rfl rfl Om Om Tryz.underlying9) fun a hF=>pe<|e_buildSlice hF hW rfl (fun w=>bs_IsaFr_86_1_0 _ w) rfl rfl rfl fun b4 a wc hF hW=>pe<|e_append hF hW 1 rfl rfl rfl Tryz.underlying86 inf_9 rfl Dc (rowAt_blk (hW.blk 0 rfl) 1 1 rfl) Oc (show _=(out++[(l.drop fr).take (i - fr)]).length by rw[List.length_append];rfl) (show _=strV (out++[(l.drop fr).take (i - fr)]) by rw[strV,strV,List.map_append];rfl) Ox Ml rfl rfl fun A5 c6 a wc hF hW=>pq 1 hF rfl fun a hF=>ltr<|pq 1 hF rfl fun a hF=>pv hF hW (y_add hF rfl rfl (IntWalk.i64_in _ Om)) fun a hF=>pq 1 hF rfl fun a hF=>l_nil<|b_n<|t_n<|c_r<|pq 1 hF rfl fun a hF=>pv hF hW (y_add hF rfl rfl (IntWalk.i64_in _ Om)) fun a hF=>pq 1 hF rfl fun a hF=>l_nil ?_;replace hW:=hW.del 0 rfl;refine t_n ?_;refine⟨(i+1,i+1,out++[(l.drop fr).take (i - fr)],A5,c6),?_,?_,?_,?_⟩
 exact⟨(hS.last Om).2,by rw[List.length_append];simp only[List.length_cons,List.length_nil];omega⟩
 first|omega|(dsimp only;omega)
 exact Fr.app (Fr.cons hF (t:=9) rfl Rf (Fr.cons hF (t:=8) rfl Rf (Fr.cons hF (t:=7) rfl Rf (Fr.nil hF)))) (hF.ks [0,1,2,6] rfl)
 exact hW
 refine pq 3 hF rfl fun a hF=>pvg hF hW (y_indexStr hF rfl rfl Om Tryz.underlying9) (ws hF rfl rfl) fun a hF=>pq 1 hF rfl fun a hF=>pvg hF hW (y_eql hF rfl rfl) (ws hF rfl rfl) fun a hF=>?_;refine Fr.splitD hF (fun h7 hF=>?_) (fun h7 hF=>?_);refine pq 1 hF rfl fun a hF=>l_nil ?_;replace hF:=hF.ks [0,1,2,6,7,8,9,19,32] rfl;refine t_n<|c_t hF rfl ?_
 have hfr:=hS.le Om
 have hol:(out++[(l.drop fr).take (i - fr)]).length=out.length+1:=(by rw[List.length_append];rfl)
 refine c_sr<|pq 4 hF rfl fun a hF=>pv hF hW (y_sliceStrLH hF rfl rfl rfl Om Om Tryz.underlying9) fun a hF=>pe<|e_buildSlice hF hW rfl (fun w=>bs_IsaFr_86_1_0 _ w) rfl rfl rfl fun b8 a wc hF hW=>pe<|e_append hF hW 1 rfl rfl rfl Tryz.underlying86 inf_9 rfl Dc (rowAt_blk (hW.blk 0 rfl) 1 1 rfl) Oc (show _=(out++[(l.drop fr).take (i - fr)]).length by rw[List.length_append];rfl) (show _=strV (out++[(l.drop fr).take (i - fr)]) by rw[strV,strV,List.map_append];rfl) Ox Ml rfl rfl fun A9 c10 a wc hF hW=>pq 1 hF rfl fun a hF=>ltr<|pq 1 hF rfl fun a hF=>pv hF hW (y_add hF rfl rfl (IntWalk.i64_in _ Om)) fun a hF=>pq 1 hF rfl fun a hF=>l_nil<|b_n<|t_n<|c_r<|pq 1 hF rfl fun a hF=>pv hF hW (y_add hF rfl rfl (IntWalk.i64_in _ Om)) fun a hF=>pq 1 hF rfl fun a hF=>l_nil ?_;replace hW:=hW.del 0 rfl;refine t_n ?_;refine⟨(i+1,i+1,out++[(l.drop fr).take (i - fr)],A9,c10),?_,?_,?_,?_⟩
 exact⟨(hS.cut Om (UInt8.toNat_inj.1 Om)).2,by rw[List.length_append];simp only[List.length_cons,List.length_nil];omega⟩
 first|omega|(dsimp only;omega)
 exact Fr.app (Fr.cons hF (t:=9) rfl Rf (Fr.cons hF (t:=8) rfl Rf (Fr.cons hF (t:=7) rfl Rf (Fr.nil hF)))) (hF.ks [0,1,2,6] rfl)
 exact hW
 refine pq 1 hF rfl fun a hF=>l_nil ?_;replace hF:=hF.ks [0,1,2,6,7,8,9,19,32] rfl;refine t_n<|c_f hF rfl<|wp_skip<|b_n<|t_n<|c_r<|pq 1 hF rfl fun a hF=>pv hF hW (y_add hF rfl rfl (IntWalk.i64_in _ Om)) fun a hF=>pq 1 hF rfl fun a hF=>l_nil<|t_n ?_;refine⟨(i+1,fr,out,A,cp),?_,?_,?_,?_⟩
 exact⟨hS.go Om (fun e=>by have:=congrArg UInt8.toNat e;omega),hon⟩
 first|omega|(dsimp only;omega)
 exact Fr.app (Fr.cons hF (t:=9) rfl Rf (Fr.cons hF (t:=8) rfl Rf (Fr.cons hF (t:=7) rfl Rf (Fr.nil hF)))) (hF.ks [0,1,2,6] rfl)
 exact hW
 refine pq 1 hF rfl fun a hF=>l_nil<|t_n<|c_f hF rfl<|wp_exit<|t_x<|t_x<|b_h<|t_n<|c_sr<|pq 2 hF rfl fun a hF=>l_nil<|t_n<|wp_ret<|ret1 Tryz.results32 hF (rv_t hF rfl) ?_
 obtain rfl:=hS.fin hon Om
 exact⟨_,_,rfl,hW⟩
 refine pq 6 hF rfl fun a hF=>l_nil<|t_n<|c_f hF rfl<|wp_exit<|t_x<|t_x<|b_h<|t_n<|c_sr<|pq 2 hF rfl fun a hF=>l_nil<|t_n<|wp_ret<|ret1 Tryz.results32 hF (rv_t hF rfl) ?_
 obtain rfl:=hS.fin hon Om
 exact⟨_,_,rfl,hW⟩
def saidAt(m:Bool)(l:List UInt8)(k:Nat):Int:=if m then((l.drop 1).take (k - 1)).foldl saidStep 0 else(l.take k).foldl saidStep 0
@[simp] theorem saidAt_zero (m:Bool) (l:List UInt8):saidAt m l 0=0:=by cases m<;>rfl
theorem saidAt_succ{m:Bool}{l:List UInt8}{k:Nat}(hk:k<l.length)(h:m=false∨0<k):saidAt m l (k+1)=saidStep (saidAt m l k) (l.getD k 0):=by
 have hg:l.getD k 0=l[k]:=by rw[List.getD,List.getElem?_eq_getElem hk];rfl
 cases m with
 |false=>
  show(l.take (k+1)).foldl saidStep 0=saidStep ((l.take k).foldl saidStep 0) _
  rw[List.take_succ_eq_append_getElem hk,List.foldl_append,hg]
  rfl
 |true=>
  have h0:0<k:=by
   rcases h with h|h
   ·cases h
   ·exact h
  show((l.drop 1).take (k+1 - 1)).foldl saidStep 0=saidStep (((l.drop 1).take (k - 1)).foldl saidStep 0) _
  have hk1:k - 1<(l.drop 1).length:=by rw[List.length_drop];omega
  rw[show k+1 - 1=(k - 1)+1 by omega,List.take_succ_eq_append_getElem hk1,List.foldl_append,hg]
  simp only[List.foldl_cons,List.foldl_nil,List.getElem_drop,show 1+(k - 1)=k by omega]
theorem saidAt_all{l:List UInt8}(m:Bool)(hm:m=decide (l.headD 0=45))(h1:¬l.length=0)(h2:¬20<l.length):saidL l=if m then saidAt m l l.length else IntKind.i64.wrap (0 - saidAt m l l.length):=by
 unfold saidL
 rw[if_neg Om]
 subst hm
 by_cases h:l.headD 0=45
 ·rw[if_pos h,decide_eq_true h]
  show _=((l.drop 1).take (l.length - 1)).foldl saidStep 0
  rw[List.take_of_length_le (by rw[List.length_drop];exact Nat.le_refl _)]
 ·rw[if_neg h,decide_eq_false h]
  show _=IntKind.i64.wrap (0 - (l.take l.length).foldl saidStep 0)
  rw[List.take_of_length_le (Nat.le_refl _)]
theorem u8_wrap(n:Int):0≤IntKind.u8.wrap n∧IntKind.u8.wrap n≤255:=by
 rw[byt_wrap]
 have:=(byt n).toNat_lt
 omega
theorem headD_getD(l:List UInt8):l.headD 0=l.getD 0 0:=by cases l<;>rfl
set_option maxHeartbeats 4000000 in
theorem said_any(l:List UInt8)(w:World):Calls Tryz.prog 33 #[.string (bstr l)] w fun e w'=>e=.returned (.int .i64 (saidL l))∧Below w.heap.size w w':=by
 refine enter Tryz.func33 rfl Tryz.ntmps33 rfl fun a hF=>?_
 have hW:=Wd.start w NoB
 refine c_sr<|pq 1 hF rfl fun a hF=>l_nil<|t_n<|c_s<|c_sr<|pq 1 hF rfl fun a hF=>pv hF hW (y_lenB hF rfl Tryz.underlying9) fun a hF=>pq 1 hF rfl fun a hF=>?_;refine Fr.splitD hF (fun h1 hF=>?_) (fun h1 hF=>?_);refine pq 5 hF rfl fun a hF=>l_nil<|t_n<|c_t hF rfl<|c_sr<|pq 1 hF rfl fun a hF=>l_nil<|t_n<|wp_ret<|t_r<|ret1 Tryz.results33 hF (rv_t hF rfl) ?_
 exact⟨by rw[saidL,if_pos Om],hW.below⟩
 refine pq 2 hF rfl fun a hF=>pvg hF hW (y_lenB hF rfl Tryz.underlying9) (ws hF rfl rfl) fun a hF=>pq 1 hF rfl fun a hF=>?_;refine Fr.splitD hF (fun h2 hF=>?_) (fun h2 hF=>?_);refine pq 1 hF rfl fun a hF=>l_nil<|t_n<|c_t hF rfl<|c_sr<|pq 1 hF rfl fun a hF=>l_nil<|t_n<|wp_ret<|t_r<|ret1 Tryz.results33 hF (rv_t hF rfl) ?_
 exact⟨by rw[saidL,if_pos Om],hW.below⟩
 refine pq 1 hF rfl fun a hF=>l_nil<|t_n<|c_f hF rfl<|wp_skip<|t_n<|c_sr<|pq 1 hF rfl fun a hF=>lts<|pq 1 hF rfl fun a hF=>pv hF hW (y_indexStr hF rfl rfl (by show 0<l.length;omega) Tryz.underlying9) fun a hF=>?_;replace hF:=Fr.cast (v':=.int .u8 (((l.getD 0 0).toNat:Nat):Int)) Rl hF;refine pv hF hW (y_eql hF rfl rfl) fun a hF=>?_;refine Fr.splitD hF (fun h3 hF=>?_) (fun h3 hF=>?_);refine pq 1 hF rfl fun a hF=>l_nil<|t_n<|c_s ?_
 obtain⟨m,hm⟩:∃m:Bool,m=decide (l.headD 0=45):=⟨_,rfl⟩
 have hmt:(l.getD 0 0).toNat=45→m=true:=fun h=>(hm.trans (decide_eq_true (by rw[headD_getD];exact UInt8.toNat_inj.1 h)))
 have hmf:¬(l.getD 0 0).toNat=45→m=false:=fun h=>(hm.trans (decide_eq_false (by rw[headD_getD];exact fun e=>h (congrArg UInt8.toNat e))))
 refine c_sr<|pq 1 hF rfl fun a hF=>l_nil<|t_n<|wp_block ?_;refine c_loop (G:=Nat) (fun k:Nat=>[(5,.int .i64 (k:Int)),(3,.int .i64 (saidAt m l k))]) (fun k:Nat=>[]) (fun k:Nat=>k≤l.length) (fun k:Nat=>l.length - k) 0 (hF.ks [0,2,4,13] rfl) (Fr.cons hF (t:=5) rfl Rg (Fr.cons hF (t:=3) rfl Rg (Fr.nil hF))) (hW) ?_ ?_
 simp
 clear hF hW
 try clear a
 intro k a wc hC hF hW;refine c_s<|c_sr<|pq 2 hF rfl fun a hF=>pv hF hW (y_lenB hF rfl Tryz.underlying9) fun a hF=>pq 1 hF rfl fun a hF=>?_;refine Fr.splitD hF (fun h4 hF=>?_) (fun h4 hF=>?_);refine l_nil<|t_n<|c_t hF rfl<|wp_skip<|t_n<|c_s<|wp_block<|c_sr<|pq 2 hF rfl fun a hF=>?_;refine Fr.splitD hF (fun h5 hF=>?_) (fun h5 hF=>?_);refine pq 4 hF rfl fun a hF=>l_nil<|t_n<|c_t hF rfl ?_
 have hk9:k<l.length:=Om
 refine c_r<|pq 1 hF rfl fun a hF=>pv hF hW (y_mul hF rfl rfl rfl) fun a hF=>pq 2 hF rfl fun a hF=>pv hF hW (y_indexStr hF rfl rfl (by exact hk9) Tryz.underlying9) fun a hF=>pv hF hW (y_sub hF rfl rfl rfl) fun a hF=>pv hF hW (y_convert hF rfl (ck_IsaFr_5_3 _ (by have:=u8_wrap ((l.getD k 0).toNat - 48);omega))) fun a hF=>pv hF hW (y_sub hF rfl rfl rfl) fun a hF=>pq 1 hF rfl fun a hF=>l_nil ?_;replace hF:=hF.ks [0,2,3,4,5,13,20,28] rfl;refine b_n<|t_n<|c_r<|pq 1 hF rfl fun a hF=>pv hF hW (y_add hF rfl rfl (IntWalk.i64_in _ Om)) fun a hF=>pq 1 hF rfl fun a hF=>l_nil<|t_n ?_;refine⟨(k+1),?_,?_,?_,?_⟩
 omega
 first|omega|(dsimp only;omega)
 focus
  exact Fr.app (Fr.cons hF (t:=5) rfl (by first|rfl|(exact congrArg (Value.int .i64) (saidAt_succ (m:=m) (l:=l) (k:=k) Om (by first|exact .inr Om|exact .inl (hmf Om))).symm)|(have e:=hmt Om;have e2:k=0:=Om;subst e2 e;rfl)|(simp;done)|omega) (Fr.cons hF (t:=3) rfl (by first|rfl|(exact congrArg (Value.int .i64) (saidAt_succ (m:=m) (l:=l) (k:=k) Om (by first|exact .inr Om|exact .inl (hmf Om))).symm)|(have e:=hmt Om;have e2:k=0:=Om;subst e2 e;rfl)|(simp;done)|omega) (Fr.nil hF))) (hF.ks [0,2,4,13] rfl)
 exact hW
 refine pq 4 hF rfl fun a hF=>?_;replace hF:=hF.ff;refine l_nil<|t_n<|c_f hF rfl<|wp_skip<|b_n<|t_n<|c_r<|pq 1 hF rfl fun a hF=>pv hF hW (y_add hF rfl rfl (IntWalk.i64_in _ Om)) fun a hF=>pq 1 hF rfl fun a hF=>l_nil<|t_n ?_;refine⟨(k+1),?_,?_,?_,?_⟩
 omega
 first|omega|(dsimp only;omega)
 focus
  exact Fr.app (Fr.cons hF (t:=5) rfl (by first|rfl|(exact congrArg (Value.int .i64) (saidAt_succ (m:=m) (l:=l) (k:=k) Om (by first|exact .inr Om|exact .inl (hmf Om))).symm)|(have e:=hmt Om;have e2:k=0:=Om;subst e2 e;rfl)|(simp;done)|omega) (Fr.cons hF (t:=3) rfl (by first|rfl|(exact congrArg (Value.int .i64) (saidAt_succ (m:=m) (l:=l) (k:=k) Om (by first|exact .inr Om|exact .inl (hmf Om))).symm)|(have e:=hmt Om;have e2:k=0:=Om;subst e2 e;rfl)|(simp;done)|omega) (Fr.nil hF))) (hF.ks [0,2,4,13] rfl)
 exact hW
 refine l_nil<|t_n<|c_f hF rfl<|wp_exit<|t_x<|t_x<|b_h<|t_n<|c_s<|c_sr<|pq 1 hF rfl fun a hF=>l_nil<|t_n<|c_t hF rfl<|c_sr<|pq 2 hF rfl fun a hF=>l_nil<|t_n<|wp_ret<|t_r<|ret1 Tryz.results33 hF (rv_t hF rfl) ?_
 obtain rfl:k=l.length:=Om
 exact⟨by rw[saidAt_all m hm Om Om,hmt Om];rfl,hW.below⟩
 refine pq 1 hF rfl fun a hF=>l_nil<|t_n<|c_s ?_
 obtain⟨m,hm⟩:∃m:Bool,m=decide (l.headD 0=45):=⟨_,rfl⟩
 have hmt:(l.getD 0 0).toNat=45→m=true:=fun h=>(hm.trans (decide_eq_true (by rw[headD_getD];exact UInt8.toNat_inj.1 h)))
 have hmf:¬(l.getD 0 0).toNat=45→m=false:=fun h=>(hm.trans (decide_eq_false (by rw[headD_getD];exact fun e=>h (congrArg UInt8.toNat e))))
 refine c_sr<|pq 1 hF rfl fun a hF=>l_nil<|t_n<|wp_block ?_;refine c_loop (G:=Nat) (fun k:Nat=>[(5,.int .i64 (k:Int)),(3,.int .i64 (saidAt m l k))]) (fun k:Nat=>[]) (fun k:Nat=>k≤l.length) (fun k:Nat=>l.length - k) 0 (hF.ks [0,2,4,13] rfl) (Fr.cons hF (t:=5) rfl Rg (Fr.cons hF (t:=3) rfl Rg (Fr.nil hF))) (hW) ?_ ?_
 simp
 clear hF hW
 try clear a
 intro k a wc hC hF hW;refine c_s<|c_sr<|pq 2 hF rfl fun a hF=>pv hF hW (y_lenB hF rfl Tryz.underlying9) fun a hF=>pq 1 hF rfl fun a hF=>?_;refine Fr.splitD hF (fun h6 hF=>?_) (fun h6 hF=>?_);refine l_nil<|t_n<|c_t hF rfl<|wp_skip<|t_n<|c_s<|wp_block<|c_sr<|pq 2 hF rfl fun a hF=>?_;refine Fr.splitD hF (fun h7 hF=>?_) (fun h7 hF=>?_);refine pq 4 hF rfl fun a hF=>l_nil<|t_n<|c_t hF rfl ?_
 have hk9:k<l.length:=Om
 refine c_r<|pq 1 hF rfl fun a hF=>pv hF hW (y_mul hF rfl rfl rfl) fun a hF=>pq 2 hF rfl fun a hF=>pv hF hW (y_indexStr hF rfl rfl (by exact hk9) Tryz.underlying9) fun a hF=>pv hF hW (y_sub hF rfl rfl rfl) fun a hF=>pv hF hW (y_convert hF rfl (ck_IsaFr_5_3 _ (by have:=u8_wrap ((l.getD k 0).toNat - 48);omega))) fun a hF=>pv hF hW (y_sub hF rfl rfl rfl) fun a hF=>pq 1 hF rfl fun a hF=>l_nil ?_;replace hF:=hF.ks [0,2,3,4,5,13,20,28] rfl;refine b_n<|t_n<|c_r<|pq 1 hF rfl fun a hF=>pv hF hW (y_add hF rfl rfl (IntWalk.i64_in _ Om)) fun a hF=>pq 1 hF rfl fun a hF=>l_nil<|t_n ?_;refine⟨(k+1),?_,?_,?_,?_⟩
 omega
 first|omega|(dsimp only;omega)
 focus
  exact Fr.app (Fr.cons hF (t:=5) rfl (by first|rfl|(exact congrArg (Value.int .i64) (saidAt_succ (m:=m) (l:=l) (k:=k) Om (by first|exact .inr Om|exact .inl (hmf Om))).symm)|(have e:=hmt Om;have e2:k=0:=Om;subst e2 e;rfl)|(simp;done)|omega) (Fr.cons hF (t:=3) rfl (by first|rfl|(exact congrArg (Value.int .i64) (saidAt_succ (m:=m) (l:=l) (k:=k) Om (by first|exact .inr Om|exact .inl (hmf Om))).symm)|(have e:=hmt Om;have e2:k=0:=Om;subst e2 e;rfl)|(simp;done)|omega) (Fr.nil hF))) (hF.ks [0,2,4,13] rfl)
 exact hW
 refine pq 4 hF rfl fun a hF=>?_;replace hF:=hF.tt;refine l_nil<|t_n<|c_t hF rfl ?_
 have hk9:k<l.length:=Om
 refine c_r<|pq 1 hF rfl fun a hF=>pv hF hW (y_mul hF rfl rfl rfl) fun a hF=>pq 2 hF rfl fun a hF=>pv hF hW (y_indexStr hF rfl rfl (by exact hk9) Tryz.underlying9) fun a hF=>pv hF hW (y_sub hF rfl rfl rfl) fun a hF=>pv hF hW (y_convert hF rfl (ck_IsaFr_5_3 _ (by have:=u8_wrap ((l.getD k 0).toNat - 48);omega))) fun a hF=>pv hF hW (y_sub hF rfl rfl rfl) fun a hF=>pq 1 hF rfl fun a hF=>l_nil ?_;replace hF:=hF.ks [0,2,3,4,5,13,20,28] rfl;refine b_n<|t_n<|c_r<|pq 1 hF rfl fun a hF=>pv hF hW (y_add hF rfl rfl (IntWalk.i64_in _ Om)) fun a hF=>pq 1 hF rfl fun a hF=>l_nil<|t_n ?_;refine⟨(k+1),?_,?_,?_,?_⟩
 omega
 first|omega|(dsimp only;omega)
 focus
  exact Fr.app (Fr.cons hF (t:=5) rfl (by first|rfl|(exact congrArg (Value.int .i64) (saidAt_succ (m:=m) (l:=l) (k:=k) Om (by first|exact .inr Om|exact .inl (hmf Om))).symm)|(have e:=hmt Om;have e2:k=0:=Om;subst e2 e;rfl)|(simp;done)|omega) (Fr.cons hF (t:=3) rfl (by first|rfl|(exact congrArg (Value.int .i64) (saidAt_succ (m:=m) (l:=l) (k:=k) Om (by first|exact .inr Om|exact .inl (hmf Om))).symm)|(have e:=hmt Om;have e2:k=0:=Om;subst e2 e;rfl)|(simp;done)|omega) (Fr.nil hF))) (hF.ks [0,2,4,13] rfl)
 exact hW
 refine l_nil<|t_n<|c_f hF rfl<|wp_exit<|t_x<|t_x<|b_h<|t_n<|c_s<|c_sr<|pq 1 hF rfl fun a hF=>l_nil<|t_n<|c_f hF rfl<|wp_skip<|t_n<|c_sr<|pq 1 hF rfl fun a hF=>pv hF hW (y_neg hF rfl rfl) fun a hF=>pq 1 hF rfl fun a hF=>l_nil<|t_n<|wp_ret<|ret1 Tryz.results33 hF (rv_t hF rfl) ?_
 obtain rfl:k=l.length:=Om
 exact⟨by rw[saidAt_all m hm Om Om,hmf Om];rfl,hW.below⟩
end Go.Proofs.YtndcjmopebcdgaaGreatDoor
