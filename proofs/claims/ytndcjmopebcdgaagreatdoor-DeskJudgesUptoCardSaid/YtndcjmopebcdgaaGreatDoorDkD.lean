/- isa.Show and the reference's InstrText give an instruction's text. isa.Read reads what a text says. -/
import Derived.Test.YtndcjmopebcdgaaGreatDoorDkK
import Derived.Test.YtndcjmopebcdgaaGreatDoorTys
import Derived.Test.YtndcjmopebcdgaaGreatDoorIsaB
set_option linter.unusedSimpArgs false
set_option linter.unusedVariables false
namespace Go.Proofs.YtndcjmopebcdgaaGreatDoor
section
open Go.ChangeShapes Go.WideShapes Go.ChangeAt Go.RowKit
theorem cw_IsaSh_3_5(n:Int)(w:World):(convert 3 5 (.int .i64 n)).run Tryz.prog w=.ok (.int .u8 ((byt n).toNat:Int)) w:=by
 rw[←byt_wrap]
 simp[convert,run_underlying Tryz.underlying3,run_underlying Tryz.underlying5,Conv.intToInt]
theorem bs_IsaSh_66_1_0(x0:Int)(w:World):(Instr.buildSlice 66 1 #[(0,(.int .u8 x0))]).run Tryz.prog w=.ok (.slice (some ⟨w.heap.size,0,none⟩) 1 1) (w.alloc (.cells #[(.int .u8 x0)] 5)):=by kernel_rfl
set_option maxRecDepth 100000
def strV(l:List (List UInt8)):List Value:=l.map fun x=>.string (bstr x)
abbrev rowS(A:Option Addr)(c:Nat)(l:List (List UInt8)):Asn:=.row 9 1 (.slice A l.length c) l.length (strV l)
theorem tdiv_neg{n:Int}(h:n≤ -10):n.tdiv 10= -((-n)/10)∧n.tmod 10= -((-n)%10):=by
 constructor
 ·rw[show n= -(-n) by omega,Int.neg_tdiv,Int.tdiv_eq_ediv_of_nonneg Om]
  omega
 ·rw[show n= -(-n) by omega,Int.neg_tmod,Int.tmod_eq_emod_of_nonneg Om]
  omega
theorem tdiv_pos{n:Int}(h:10≤n):n.tdiv 10=n/10∧n.tmod 10=n%10:=⟨Int.tdiv_eq_ediv_of_nonneg Om,Int.tmod_eq_emod_of_nonneg Om⟩
theorem digits_any:∀(u:Nat) (n:Int),(2*n≤u∧1 - 2*n≤u)→In64 n→∀w,Calls Tryz.prog 74 #[.int .i64 n] w fun e w'=>e=.returned (.string (bstr (Lib.itoa n)))∧Below w.heap.size w w'
 |0,n,h,_,w=>absurd h Om
 |u+1,n,hu,hn,w=>by
  have ih:=digits_any u
  clear digits_any
  unfold In64 at hn ih
  refine enter Tryz.func74 rfl Tryz.ntmps74 rfl fun a hF=>?_
  have hW:=Wd.start w NoB
  refine c_sr<|pq 1 hF rfl fun a hF=>l_nil<|t_n<|c_s<|c_sr<|pq 2 hF rfl fun a hF=>?_;refine Fr.splitD hF (fun h1 hF=>?_) (fun h1 hF=>?_);refine pq 3 hF rfl fun a hF=>?_;refine Fr.splitD hF (fun h2 hF=>?_) (fun h2 hF=>?_);refine pq 1 hF rfl fun a hF=>l_nil<|t_n<|c_t hF rfl<|c_sr<|pq 1 hF rfl fun a hF=>pv hF hW (y_neg hF rfl (IntWalk.i64_in _ Om)) fun a hF=>?_;replace hF:=Fr.cast (v':=.int .i64 (-n)) (by rw[Int.zero_sub]) hF;refine pe<|e_callK hF hW rfl rfl en_74 Rl (ih _ Om Om _) fun a w1 hW hF=>pv hF hW (y_catB hF rfl rfl (by unfold maxLen;rw[List.length_cons,List.length_nil];have:=itoa_len (n:= -n) (by unfold In64;omega);omega)) fun a hF=>pq 1 hF rfl fun a hF=>l_nil<|t_n<|wp_ret<|t_r<|ret1 Tryz.results74 hF (rv_t hF rfl) ?_
  focus
   first
   |(refine⟨?_,hW.below⟩;rw[itoa_minus (n:=n) Om Om];rfl)
   |(refine⟨?_,hW.below⟩;rw[itoa_less (n:=n) Om];done)
   |(refine⟨?_,hW.below⟩;rw[itoa_one (n:=n) Om Om];done)
   |(refine⟨?_,hW.below⟩;rw[itoa_big (n:=n) Om];done)
  refine pq 1 hF rfl fun a hF=>l_nil<|t_n<|c_f hF rfl<|wp_skip<|t_n<|c_s<|c_sr<|pq 2 hF rfl fun a hF=>?_;refine Fr.splitD hF (fun h3 hF=>?_) (fun h3 hF=>?_);refine l_nil<|t_n<|c_t hF rfl ?_
  obtain⟨hq,hr⟩:=tdiv_neg (n:=n) Om
  refine c_sr<|pq 1 hF rfl fun a hF=>pv hF hW (y_quo hF rfl rfl Om rfl) fun a hF=>?_;replace hF:=Fr.cast (v':=.int .i64 (n.tdiv 10)) (by rw[IntWalk.i64_in _ Om]) hF;refine pe<|e_callK hF hW rfl rfl en_74 Rl (ih _ Om Om _) fun a w1 hW hF=>pq 1 hF rfl fun a hF=>pv hF hW (y_rem hF rfl rfl Om rfl) fun a hF=>pv hF hW (y_neg hF rfl (IntWalk.i64_in _ Om)) fun a hF=>?_;replace hF:=Fr.cast (v':=.int .i64 (-(n.tmod 10))) (by rw[Int.zero_sub]) hF;refine pe<|e_callK hF hW rfl rfl en_74 Rl (ih _ Om Om _) fun a w1 hW hF=>pv hF hW (y_catB hF rfl rfl (by unfold maxLen;have h8:=itoa_len (n:=n.tdiv 10) (by unfold In64;omega);have h9:=itoa_len (n:= -(n.tmod 10)) (by unfold In64;omega);omega)) fun a hF=>pq 1 hF rfl fun a hF=>l_nil ?_;replace hF:=hF.ks [0,2,8,14] rfl;refine t_n<|wp_ret<|t_r<|ret1 Tryz.results74 hF (rv_t hF rfl) ?_
  focus
   first
   |(refine⟨?_,hW.below⟩;rw[itoa_minus (n:=n) Om Om];rfl)
   |(refine⟨?_,hW.below⟩;rw[itoa_less (n:=n) Om];done)
   |(refine⟨?_,hW.below⟩;rw[itoa_one (n:=n) Om Om];done)
   |(refine⟨?_,hW.below⟩;rw[itoa_big (n:=n) Om];done)
  refine l_nil<|t_n<|c_f hF rfl<|wp_skip<|t_n<|c_s<|c_sr<|pq 2 hF rfl fun a hF=>?_;refine Fr.splitD hF (fun h4 hF=>?_) (fun h4 hF=>?_);refine l_nil<|t_n<|c_t hF rfl<|c_sr<|pq 1 hF rfl fun a hF=>pv hF hW (y_add hF rfl rfl (IntWalk.i64_in _ Om)) fun a hF=>pv hF hW (y_convert hF rfl (cw_IsaSh_3_5 _)) fun a hF=>pe<|e_buildSlice hF hW rfl (fun w=>bs_IsaSh_66_1_0 _ w) rfl rfl rfl fun b5 a wc hF hW=>pv hF hW (y_bytesStr (l:=[byt (48+n)]) hF rfl (fun w h=>rowAt_blk (h.blk 0 rfl) 1 1 rfl) Dc Tryz.underlying66 Tryz.underlying5 Tryz.underlying9) fun a hF=>pq 1 hF rfl fun a hF=>l_nil<|t_n<|wp_ret<|t_r<|ret1 Tryz.results74 hF (rv_t hF rfl) ?_
  focus
   first
   |(refine⟨?_,hW.below⟩;rw[itoa_minus (n:=n) Om Om];rfl)
   |(refine⟨?_,hW.below⟩;rw[itoa_less (n:=n) Om];done)
   |(refine⟨?_,hW.below⟩;rw[itoa_one (n:=n) Om Om];done)
   |(refine⟨?_,hW.below⟩;rw[itoa_big (n:=n) Om];done)
  refine l_nil<|t_n<|c_f hF rfl<|wp_skip<|t_n ?_
  obtain⟨hq,hr⟩:=tdiv_pos (n:=n) Om
  refine c_sr<|pq 1 hF rfl fun a hF=>pv hF hW (y_quo hF rfl rfl Om rfl) fun a hF=>?_;replace hF:=Fr.cast (v':=.int .i64 (n.tdiv 10)) (by rw[IntWalk.i64_in _ Om]) hF;refine pe<|e_callK hF hW rfl rfl en_74 Rl (ih _ Om Om _) fun a w1 hW hF=>pq 1 hF rfl fun a hF=>pv hF hW (y_rem hF rfl rfl Om rfl) fun a hF=>pe<|e_callK hF hW rfl rfl en_74 Rl (ih _ Om Om _) fun a w1 hW hF=>pv hF hW (y_catB hF rfl rfl (by unfold maxLen;have h8:=itoa_len (n:=n.tdiv 10) (by unfold In64;omega);have h9:=itoa_len (n:=n.tmod 10) (by unfold In64;omega);omega)) fun a hF=>pq 1 hF rfl fun a hF=>l_nil ?_;replace hF:=hF.ks [0,2,8,14,24] rfl;refine t_n<|wp_ret<|ret1 Tryz.results74 hF (rv_t hF rfl) ?_
  focus
   first
   |(refine⟨?_,hW.below⟩;rw[itoa_minus (n:=n) Om Om];rfl)
   |(refine⟨?_,hW.below⟩;rw[itoa_less (n:=n) Om];done)
   |(refine⟨?_,hW.below⟩;rw[itoa_one (n:=n) Om Om];done)
   |(refine⟨?_,hW.below⟩;rw[itoa_big (n:=n) Om];done)
  refine pq 4 hF rfl fun a hF=>l_nil<|t_n<|c_f hF rfl<|wp_skip<|t_n<|c_s<|c_sr<|pq 2 hF rfl fun a hF=>?_;refine Fr.splitD hF (fun h6 hF=>?_) (fun h6 hF=>?_);refine l_nil<|t_n<|c_t hF rfl ?_
  obtain⟨hq,hr⟩:=tdiv_neg (n:=n) Om
  refine c_sr<|pq 1 hF rfl fun a hF=>pv hF hW (y_quo hF rfl rfl Om rfl) fun a hF=>?_;replace hF:=Fr.cast (v':=.int .i64 (n.tdiv 10)) (by rw[IntWalk.i64_in _ Om]) hF;refine pe<|e_callK hF hW rfl rfl en_74 Rl (ih _ Om Om _) fun a w1 hW hF=>pq 1 hF rfl fun a hF=>pv hF hW (y_rem hF rfl rfl Om rfl) fun a hF=>pv hF hW (y_neg hF rfl (IntWalk.i64_in _ Om)) fun a hF=>?_;replace hF:=Fr.cast (v':=.int .i64 (-(n.tmod 10))) (by rw[Int.zero_sub]) hF;refine pe<|e_callK hF hW rfl rfl en_74 Rl (ih _ Om Om _) fun a w1 hW hF=>pv hF hW (y_catB hF rfl rfl (by unfold maxLen;have h8:=itoa_len (n:=n.tdiv 10) (by unfold In64;omega);have h9:=itoa_len (n:= -(n.tmod 10)) (by unfold In64;omega);omega)) fun a hF=>pq 1 hF rfl fun a hF=>l_nil ?_;replace hF:=hF.ks [0,2,8,14] rfl;refine t_n<|wp_ret<|t_r<|ret1 Tryz.results74 hF (rv_t hF rfl) ?_
  focus
   first
   |(refine⟨?_,hW.below⟩;rw[itoa_minus (n:=n) Om Om];rfl)
   |(refine⟨?_,hW.below⟩;rw[itoa_less (n:=n) Om];done)
   |(refine⟨?_,hW.below⟩;rw[itoa_one (n:=n) Om Om];done)
   |(refine⟨?_,hW.below⟩;rw[itoa_big (n:=n) Om];done)
  refine l_nil<|t_n<|c_f hF rfl<|wp_skip<|t_n<|c_s<|c_sr<|pq 2 hF rfl fun a hF=>?_;refine Fr.splitD hF (fun h7 hF=>?_) (fun h7 hF=>?_);refine l_nil<|t_n<|c_t hF rfl<|c_sr<|pq 1 hF rfl fun a hF=>pv hF hW (y_add hF rfl rfl (IntWalk.i64_in _ Om)) fun a hF=>pv hF hW (y_convert hF rfl (cw_IsaSh_3_5 _)) fun a hF=>pe<|e_buildSlice hF hW rfl (fun w=>bs_IsaSh_66_1_0 _ w) rfl rfl rfl fun b8 a wc hF hW=>pv hF hW (y_bytesStr (l:=[byt (48+n)]) hF rfl (fun w h=>rowAt_blk (h.blk 0 rfl) 1 1 rfl) Dc Tryz.underlying66 Tryz.underlying5 Tryz.underlying9) fun a hF=>pq 1 hF rfl fun a hF=>l_nil<|t_n<|wp_ret<|t_r<|ret1 Tryz.results74 hF (rv_t hF rfl) ?_
  focus
   first
   |(refine⟨?_,hW.below⟩;rw[itoa_minus (n:=n) Om Om];rfl)
   |(refine⟨?_,hW.below⟩;rw[itoa_less (n:=n) Om];done)
   |(refine⟨?_,hW.below⟩;rw[itoa_one (n:=n) Om Om];done)
   |(refine⟨?_,hW.below⟩;rw[itoa_big (n:=n) Om];done)
  refine l_nil<|t_n<|c_f hF rfl<|wp_skip<|t_n ?_
  obtain⟨hq,hr⟩:=tdiv_pos (n:=n) Om
  refine c_sr<|pq 1 hF rfl fun a hF=>pv hF hW (y_quo hF rfl rfl Om rfl) fun a hF=>?_;replace hF:=Fr.cast (v':=.int .i64 (n.tdiv 10)) (by rw[IntWalk.i64_in _ Om]) hF;refine pe<|e_callK hF hW rfl rfl en_74 Rl (ih _ Om Om _) fun a w1 hW hF=>pq 1 hF rfl fun a hF=>pv hF hW (y_rem hF rfl rfl Om rfl) fun a hF=>pe<|e_callK hF hW rfl rfl en_74 Rl (ih _ Om Om _) fun a w1 hW hF=>pv hF hW (y_catB hF rfl rfl (by unfold maxLen;have h8:=itoa_len (n:=n.tdiv 10) (by unfold In64;omega);have h9:=itoa_len (n:=n.tmod 10) (by unfold In64;omega);omega)) fun a hF=>pq 1 hF rfl fun a hF=>l_nil ?_;replace hF:=hF.ks [0,2,8,14,24] rfl;refine t_n<|wp_ret<|ret1 Tryz.results74 hF (rv_t hF rfl) ?_
  focus
   first
   |(refine⟨?_,hW.below⟩;rw[itoa_minus (n:=n) Om Om];rfl)
   |(refine⟨?_,hW.below⟩;rw[itoa_less (n:=n) Om];done)
   |(refine⟨?_,hW.below⟩;rw[itoa_one (n:=n) Om Om];done)
   |(refine⟨?_,hW.below⟩;rw[itoa_big (n:=n) Om];done)
theorem digits_all{n:Int}(hn:In64 n)(w:World):Calls Tryz.prog 74 #[.int .i64 n] w fun e w'=>e=.returned (.string (bstr (Lib.itoa n)))∧Below w.heap.size w w':=digits_any (2*n.natAbs+1) n Om hn w
end
section
open Go.ChangeShapes Go.WideShapes Go.ChangeAt Go.RowKit
set_option maxRecDepth 100000
theorem piece_len{c:UInt8}:∀(l:List UInt8) (p:List UInt8),p∈splitC c l→p.length≤l.length
 |[],p,h=>by
  rw[splitC,List.mem_singleton] at h
  rw[h]
  exact Nat.le_refl _
 |b::l,p,h=>by
  have ih:=piece_len (c:=c) l
  unfold splitC at h
  split at h
  ·rcases List.mem_cons.1 h with h|h
   ·rw[h];exact Nat.zero_le _
   ·have:=ih p h
    simp only[List.length_cons]
    omega
  ·split at h
   ·rw[List.mem_singleton.1 h];simp
   ·rename_i q r e
    rw[e] at ih
    rcases List.mem_cons.1 h with h|h
    ·rw[h]
     have:=ih q List.mem_cons_self
     simp only[List.length_cons]
     omega
    ·have:=ih p (List.mem_cons_of_mem _ h)
     simp only[List.length_cons]
     omega
theorem piece_at(l:List UInt8){k:Nat}(hk:k<(splitC 32 l).length):((splitC 32 l).map fun x=>Value.string (bstr x))[k]?=some (.string (bstr ((splitC 32 l).getD k []))):=by
 rw[List.getElem?_map,List.getElem?_eq_getElem hk,List.getD,List.getElem?_eq_getElem hk]
 rfl
theorem piece_lenD(l:List UInt8)(k:Nat):((splitC 32 l).getD k []).length≤l.length:=by
 by_cases hk:k<(splitC 32 l).length
 ·rw[List.getD,List.getElem?_eq_getElem hk]
  exact piece_len l _ (List.getElem_mem hk)
 ·rw[List.getD,List.getElem?_eq_none Om]
  exact Nat.zero_le _
theorem splitC_pos(c:UInt8)(l:List UInt8):0<(splitC c l).length:=List.length_pos_iff.2 (splitC_ne c l)
end
end Go.Proofs.YtndcjmopebcdgaaGreatDoor
