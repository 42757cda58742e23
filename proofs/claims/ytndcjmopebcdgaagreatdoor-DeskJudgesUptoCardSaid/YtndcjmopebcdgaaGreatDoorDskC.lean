/- The reference's PolicyText and RulesOf. -/
import Derived.Test.YtndcjmopebcdgaaGreatDoorDkJ
set_option linter.unusedSimpArgs false
set_option linter.unusedVariables false
namespace Go.Proofs.YtndcjmopebcdgaaGreatDoor
open Go.ChangeShapes Go.WideShapes Go.ChangeAt Go.RowKit
theorem bs_DskC_25_1_0(x0:Int)(x1:Int)(w:World):(Instr.buildSlice 25 1 #[(0,(.agg #[(.int .i64 x0),(.int .i64 x1)]))]).run Tryz.prog w=.ok (.slice (some ⟨w.heap.size,0,none⟩) 1 1) (w.alloc (.cells #[(.int .i64 x0),(.int .i64 x1)] 53)):=by kernel_rfl
theorem bs_DskC_86_1_0(x0:ByteArray)(w:World):(Instr.buildSlice 86 1 #[(0,(.string x0))]).run Tryz.prog w=.ok (.slice (some ⟨w.heap.size,0,none⟩) 1 1) (w.alloc (.cells #[(.string x0)] 9)):=by kernel_rfl
theorem bu_DskC_27_(w:World):(Instr.build 27 #[]).run Tryz.prog w=.ok (.agg #[(.slice none 0 0)]) w:=by kernel_rfl
theorem bu_DskC_53_0_1(x0:Int)(x1:Int)(w:World):(Instr.build 53 #[(0,(.int .i64 x0)),(1,(.int .i64 x1))]).run Tryz.prog w=.ok (.agg #[(.int .i64 x0),(.int .i64 x1)]) w:=by kernel_rfl
set_option maxRecDepth 100000
theorem polT_succ{P:List Edg}{k:Nat}(hk:k<P.length):polT (P.take (k+1))=((if 0<k then polT (P.take k)++[32] else polT (P.take k))++Lib.itoa (P.getD k E0).from_++[62])++Lib.itoa (P.getD k E0).to_:=by
 have e1:P.take (k+1)=P.take k++[P.getD k E0]:=by
  rw[List.take_succ_eq_append_getElem hk,List.getD,List.getElem?_eq_getElem hk]
  rfl
 rw[e1]
 cases hP:P.take k with
 |nil=>
  have h0:¬0<k:=by
   have:=congrArg List.length hP
   rw[List.length_take,List.length_nil] at this
   omega
  rw[if_neg h0]
  simp[polT,Lib.join_cons,Lib.joinTail,edgT]
  rfl
 |cons e r=>
  have h0:0<k:=by
   have:=congrArg List.length hP
   rw[List.length_take,List.length_cons] at this
   omega
  rw[if_pos h0]
  simp only[polT,List.cons_append,List.map_cons,Lib.join_cons,List.map_append,List.map_nil]
  simp[Lib.joinTail,edgT]
theorem itoa_short{n:Int}(h0:0≤n)(h1:n<4):(Lib.itoa n).length=1:=by rw[itoa_one h0 Om];rfl
theorem polT_len{P:List Edg}(h:∀e,e∈P→EdIn e):∀k,k≤P.length→(polT (P.take k)).length≤4*k
 |0,_=>by rw[List.take_zero];exact Nat.le_refl _
 |k+1,hk=>by
  have ih:=polT_len h k Om
  have he:=h _ (mem_getD E0 (show k<P.length by omega))
  have h1:=itoa_short he.1.1 he.1.2
  have h2:=itoa_short he.2.1 he.2.2
  rw[polT_succ Om,List.length_append,List.length_append,List.length_append,h1,h2]
  split
  ·rw[List.length_append];simp only[List.length_cons,List.length_nil];omega
  ·simp only[List.length_cons,List.length_nil];omega
theorem polSucc_1{P:List Edg}{k:Nat}(hk:k<P.length)(h0:(0:Int)<k):((polT (P.take k)++[32])++Lib.itoa (P.getD k E0).from_++[62])++Lib.itoa (P.getD k E0).to_=polT (P.take (k+1)):=by rw[polT_succ hk,if_pos Om]
theorem polSucc_0{P:List Edg}{k:Nat}(hk:k<P.length)(h0:¬(0:Int)<k):(polT (P.take k)++Lib.itoa (P.getD k E0).from_++[62])++Lib.itoa (P.getD k E0).to_=polT (P.take (k+1)):=by rw[polT_succ hk,if_neg Om]
set_option maxHeartbeats 4000000 in
theorem policyText_any{P:List Edg}{A:Option Addr}{c:Nat}{w:World}(hm:May_ w A c P)(he:∀e,e∈P→EdIn e)(h16:P.length≤16):Calls Tryz.prog 35 #[.agg #[.slice A P.length c]] w fun e w'=>e=.returned (.string (bstr (polT P)))∧Below w.heap.size w w':=by
 have hR:=hm.rf Edg.cells_len E0
 have hpl:=fun k (hk:k≤P.length)=>polT_len he k hk
 refine enter Tryz.func35 rfl Tryz.ntmps35 rfl fun a hF=>?_
 have hW:=Wd.start w NoB
 refine c_sr<|pe<|e_box hF hW rfl rfl rfl rfl fun b1 a wc hF hW=>pq 1 hF rfl fun a hF=>lts<|pq 1 hF rfl fun a hF=>l_nil<|t_n<|c_s<|c_sr<|pq 1 hF rfl fun a hF=>l_nil<|t_n<|wp_block ?_;refine c_loop (G:=Nat) (fun k:Nat=>[(4,.int .i64 (k:Int)),(3,.string (bstr (polT (P.take k))))]) (fun k:Nat=>[]) (fun k:Nat=>k≤P.length) (fun k:Nat=>P.length - k) 0 (hF.ks [0,1,2] rfl) (Fr.cons hF (t:=4) rfl Rg (Fr.cons hF (t:=3) rfl Rg (Fr.nil hF))) (hW) ?_ ?_
 exact Nat.zero_le _
 clear hF hW
 try clear a
 intro k a wc hC hF hW;refine c_s<|c_sr<|pq 2 hF rfl fun a hF=>pv hF hW (y_loadOwn hF rfl 0 rfl rfl Tryz.underlying25 rfl) fun a hF=>pq 2 hF rfl fun a hF=>?_;refine Fr.splitD hF (fun h2 hF=>?_) (fun h2 hF=>?_);refine l_nil<|t_n<|c_t hF rfl<|wp_skip<|t_n<|c_s<|wp_block<|c_s ?_
 have hed:=he _ (mem_getD E0 (show k<P.length by omega))
 have hlen:=hpl k Om
 have h1:=itoa_short hed.1.1 hed.1.2
 have h2:=itoa_short hed.2.1 hed.2.2
 refine c_sr<|pq 2 hF rfl fun a hF=>?_;refine Fr.splitD hF (fun h3 hF=>?_) (fun h3 hF=>?_);refine l_nil<|t_n<|c_t hF rfl<|c_r<|pq 1 hF rfl fun a hF=>pv hF hW (y_catB hF rfl rfl (by unfold maxLen;rw[List.length_cons,List.length_nil];omega)) fun a hF=>pq 1 hF rfl fun a hF=>l_nil<|t_n<|c_d mixed_ok hW (hW) ?_
 clear hW;intro wc hW hS
 refine dq 2 [0,1] hF hS rfl fun a hF=>dv 2 rfl hF hS (y_loadOwn hF rfl 0 rfl rfl Tryz.underlying25 rfl) fun a hF=>dq 1 [3] hF hS rfl fun a hF=>dv 4 rfl hF hS (y_indexS hF rfl rfl Od Tryz.underlying25 sz_53 (fun w h=>(hR).wd h)) fun a hF=>dv 5 rfl hF hS (y_fieldRow hF rfl fa_53_0) fun a hF=>dv 6 rfl hF hS (y_loadRow hF rfl (fun w h=>(hR).wd h) Od rfl Tryz.underlying3 rfl) fun a hF=>dq 1 [10] hF hS rfl fun a hF=>dv 11 rfl hF hS (y_loadOwn hF rfl 0 rfl rfl Tryz.underlying25 rfl) fun a hF=>dq 1 [12] hF hS rfl fun a hF=>dv 13 rfl hF hS (y_indexS hF rfl rfl Od Tryz.underlying25 sz_53 (fun w h=>(hR).wd h)) fun a hF=>dv 14 rfl hF hS (y_fieldRow hF rfl fa_53_1) fun a hF=>dv 15 rfl hF hS (y_loadRow hF rfl (fun w h=>(hR).wd h) Od rfl Tryz.underlying3 rfl) fun a hF=>d_1 7 Kr<|d_op rfl rfl<|e_callK hF hW rfl rfl en_74 Rl (digits_all hed.in64.1 _) fun a w1 hW hF=>ai hW fun hS=>dv 8 rfl hF hS (y_catB hF rfl rfl (by unfold maxLen;(try simp only[List.length_append,List.length_cons,List.length_nil]);omega)) fun a hF=>dv 9 rfl hF hS (y_catB hF rfl rfl (by unfold maxLen;simp only[List.length_append,List.length_cons,List.length_nil];omega)) fun a hF=>d_1 16 Kr<|d_op rfl rfl<|e_callK hF hW rfl rfl en_74 Rl (digits_all hed.in64.2 _) fun a w1 hW hF=>ai hW fun hS=>dv 17 rfl hF hS (y_catB hF rfl rfl (by unfold maxLen;simp only[List.length_append,List.length_cons,List.length_nil];omega)) fun a hF=>dq 1 [18] hF hS rfl fun a hF=>?_;clear hS;refine d_nil Kr ?_;replace hF:=hF.ks [0,1,2,3,4,9,13] rfl;refine b_n<|t_n<|c_r<|pq 1 hF rfl fun a hF=>pv hF hW (y_add hF rfl rfl (IntWalk.i64_in _ Om)) fun a hF=>pq 1 hF rfl fun a hF=>l_nil<|t_n ?_;refine⟨(k+1),?_,?_,?_,?_⟩
 omega
 first|omega|(dsimp only;omega)
 focus
  exact Fr.app (Fr.cons hF (t:=4) rfl (by first|rfl|(exact congrArg (fun z=>Value.string (bstr z)) (polSucc_1 Om Om))|(exact congrArg (fun z=>Value.string (bstr z)) (polSucc_0 Om Om))|(simp;done)|omega) (Fr.cons hF (t:=3) rfl (by first|rfl|(exact congrArg (fun z=>Value.string (bstr z)) (polSucc_1 Om Om))|(exact congrArg (fun z=>Value.string (bstr z)) (polSucc_0 Om Om))|(simp;done)|omega) (Fr.nil hF))) (hF.ks [0,1,2] rfl)
 exact hW
 refine l_nil<|t_n<|c_f hF rfl<|wp_skip<|t_n<|c_d mixed_ok hW (hW) ?_
 clear hW;intro wc hW hS
 refine dq 2 [0,1] hF hS rfl fun a hF=>dv 2 rfl hF hS (y_loadOwn hF rfl 0 rfl rfl Tryz.underlying25 rfl) fun a hF=>dq 1 [3] hF hS rfl fun a hF=>dv 4 rfl hF hS (y_indexS hF rfl rfl Od Tryz.underlying25 sz_53 (fun w h=>(hR).wd h)) fun a hF=>dv 5 rfl hF hS (y_fieldRow hF rfl fa_53_0) fun a hF=>dv 6 rfl hF hS (y_loadRow hF rfl (fun w h=>(hR).wd h) Od rfl Tryz.underlying3 rfl) fun a hF=>dq 1 [10] hF hS rfl fun a hF=>dv 11 rfl hF hS (y_loadOwn hF rfl 0 rfl rfl Tryz.underlying25 rfl) fun a hF=>dq 1 [12] hF hS rfl fun a hF=>dv 13 rfl hF hS (y_indexS hF rfl rfl Od Tryz.underlying25 sz_53 (fun w h=>(hR).wd h)) fun a hF=>dv 14 rfl hF hS (y_fieldRow hF rfl fa_53_1) fun a hF=>dv 15 rfl hF hS (y_loadRow hF rfl (fun w h=>(hR).wd h) Od rfl Tryz.underlying3 rfl) fun a hF=>d_1 7 Kr<|d_op rfl rfl<|e_callK hF hW rfl rfl en_74 Rl (digits_all hed.in64.1 _) fun a w1 hW hF=>ai hW fun hS=>dv 8 rfl hF hS (y_catB hF rfl rfl (by unfold maxLen;(try simp only[List.length_append,List.length_cons,List.length_nil]);omega)) fun a hF=>dv 9 rfl hF hS (y_catB hF rfl rfl (by unfold maxLen;simp only[List.length_append,List.length_cons,List.length_nil];omega)) fun a hF=>d_1 16 Kr<|d_op rfl rfl<|e_callK hF hW rfl rfl en_74 Rl (digits_all hed.in64.2 _) fun a w1 hW hF=>ai hW fun hS=>dv 17 rfl hF hS (y_catB hF rfl rfl (by unfold maxLen;simp only[List.length_append,List.length_cons,List.length_nil];omega)) fun a hF=>dq 1 [18] hF hS rfl fun a hF=>?_;clear hS;refine d_nil Kr ?_;replace hF:=hF.ks [0,1,2,3,4,9,13] rfl;refine b_n<|t_n<|c_r<|pq 1 hF rfl fun a hF=>pv hF hW (y_add hF rfl rfl (IntWalk.i64_in _ Om)) fun a hF=>pq 1 hF rfl fun a hF=>l_nil<|t_n ?_;refine⟨(k+1),?_,?_,?_,?_⟩
 omega
 first|omega|(dsimp only;omega)
 focus
  exact Fr.app (Fr.cons hF (t:=4) rfl (by first|rfl|(exact congrArg (fun z=>Value.string (bstr z)) (polSucc_1 Om Om))|(exact congrArg (fun z=>Value.string (bstr z)) (polSucc_0 Om Om))|(simp;done)|omega) (Fr.cons hF (t:=3) rfl (by first|rfl|(exact congrArg (fun z=>Value.string (bstr z)) (polSucc_1 Om Om))|(exact congrArg (fun z=>Value.string (bstr z)) (polSucc_0 Om Om))|(simp;done)|omega) (Fr.nil hF))) (hF.ks [0,1,2] rfl)
 exact hW
 refine l_nil<|t_n<|c_f hF rfl<|wp_exit<|t_x<|t_x<|b_h<|t_n<|c_sr<|pq 2 hF rfl fun a hF=>l_nil<|t_n<|wp_ret<|ret1 Tryz.results35 hF (rv_t hF rfl) ?_
 obtain rfl:k=P.length:=Om
 exact⟨by rw[List.take_length],hW.below⟩
theorem rowS_rf{w:World}{T:TypeId}{A:Option Addr}{n c:Nat}{l:List (List UInt8)}(h:w.ownsRow 0 T 1 (.slice A n c) n (strV l)):RF w A n 1 (fun k=>[.string (bstr (l.getD k []))]):=by
 refine RF.of_row (RowAt.of_own h) fun i hi o v hv=>?_
 have hl:l.length=n:=by have:=h.1;rw[strV_len] at this;omega
 obtain rfl:o=0:=by
  have:=(List.getElem?_eq_some_iff.1 hv).1
  simp at this
  omega
 simp only[List.getElem?_cons_zero,Option.some.injEq] at hv
 rw[←hv,Nat.mul_one,Nat.add_zero,strV,List.getElem?_map,List.getElem?_eq_getElem Om,List.getD,List.getElem?_eq_getElem Om]
 rfl
def wordsR(s:List UInt8):List (List UInt8):=(splitC 32 s).take 30
def wordX(l:List UInt8):List (List UInt8):=(splitC 62 l).take 3++[[]]
theorem wordX_len(l:List UInt8):2≤(wordX l).length∧(wordX l).length=((splitC 62 l).take 3).length+1∧(wordX l).length≤4:=by
 have:=splitC_pos 62 l
 unfold wordX
 rw[List.length_append,List.length_take,List.length_cons,List.length_nil]
 omega
theorem wordX_edge{e:Edg}(h:EdIn e):saidL ((wordX (edgT e)).getD 0 [])=e.from_∧saidL ((wordX (edgT e)).getD 1 [])=e.to_:=by
 have e1:splitC 62 (edgT e)=[Lib.itoa e.from_,Lib.itoa e.to_]:=by
  show splitC 62 (Lib.itoa e.from_++62::Lib.itoa e.to_)=_
  rw[splitC_app _ (itoa_no62 _),splitC_none (itoa_no62 _)]
 unfold wordX
 rw[e1]
 exact⟨said_itoa h.in64.1,said_itoa h.in64.2⟩
structure PreR(s:List UInt8)(P:List Edg)(k:Nat):Prop where
 len:P.length=k
 each:∀e,e∈P→EdIn e
 incr:Incr P
 cand:∀Q,RSays s Q→P=Q.take k
theorem preR_0(s:List UInt8):PreR s [] 0:=⟨rfl,fun _ h=>(by cases h),fun k _ h=>(by simp at h),fun _ _=>by simp⟩
theorem wordsR_get{s:List UInt8}{Q:List Edg}{k:Nat}(hs:s≠[])(hQ:RSays s Q)(hk:k<(wordsR s).length):k<Q.length∧(wordsR s).getD k []=edgT (Q.getD k E0):=by
 unfold wordsR at hk⊢
 have hsp:=hQ.split hs
 rw[hsp] at hk⊢
 rw[List.length_take,List.length_map] at hk
 have hq:k<Q.length:=by omega
 refine⟨hq,?_⟩
 simp only[List.getD,List.getElem?_take,if_pos (show k<30 by omega),List.getElem?_map,List.getElem?_eq_getElem hq]
 rfl
theorem PreR.same{s:List UInt8}{P Q:List Edg}{k:Nat}{m n:Int}(h:PreR s P k)(hs:s≠[])(hk:k<(wordsR s).length)(hQ:RSays s Q)(hm:m=saidL ((wordX ((wordsR s).getD k [])).getD 0 []))(hn:n=saidL ((wordX ((wordsR s).getD k [])).getD 1 [])):k<Q.length∧Q.getD k E0=⟨m,n⟩:=by
 obtain⟨h1,h2⟩:=wordsR_get hs hQ hk
 obtain⟨h3,h4⟩:=wordX_edge (hQ.each _ (mem_getD E0 h1))
 rw[←h2,←hm] at h3
 rw[←h2,←hn] at h4
 refine⟨h1,?_⟩
 rw[h3,h4]
theorem PreR.snoc{s:List UInt8}{P:List Edg}{k:Nat}{m n:Int}(h:PreR s P k)(hs:s≠[])(hk:k<(wordsR s).length)(hm:m=saidL ((wordX ((wordsR s).getD k [])).getD 0 []))(hn:n=saidL ((wordX ((wordsR s).getD k [])).getD 1 []))(he:EdIn ⟨m,n⟩)(ho:0<k→orderI (P.getD (k - 1) E0) ⟨m,n⟩<0):PreR s (P++[⟨m,n⟩]) (k+1):=by
 have hl:=h.len
 refine⟨by simp[hl],fun d hd=>(List.mem_append.1 hd).elim (h.each d) fun h2=>by rw[List.mem_singleton.1 h2];exact he,fun i h0 hi=>?_,fun Q hQ=>?_⟩
 ·rw[List.length_append,List.length_cons,List.length_nil] at hi
  rw[snoc_getD Om,snoc_getD Om,if_neg (show¬i - 1=P.length by omega)]
  by_cases e1:i=P.length
  ·rw[if_pos e1]
   subst e1
   rw[hl] at h0⊢
   exact ho h0
  ·rw[if_neg e1]
   exact h.incr i h0 Om
 ·obtain⟨h1,h2⟩:=h.same hs hk hQ hm hn
  rw[List.take_succ_eq_append_getElem h1,←h.cand Q hQ,←h2,List.getD,List.getElem?_eq_getElem h1]
  rfl
def RulesR(s:List UInt8)(P:List Edg)(is:Bool):Prop:=(is=true∧RSays s P)∨(is=false∧P=[]∧∀Q,¬RSays s Q)
theorem rulesR_no{s:List UInt8}{P:List Edg}{k:Nat}{m n:Int}(h:PreR s P k)(hs:s≠[])(hk:k<(wordsR s).length)(hm:m=saidL ((wordX ((wordsR s).getD k [])).getD 0 []))(hn:n=saidL ((wordX ((wordsR s).getD k [])).getD 1 []))
  (hb:¬(0≤m∧m≤3)∨¬(0≤n∧n≤3)∨(0<k∧¬orderI (P.getD (k - 1) E0) ⟨m,n⟩<0)):RulesR s [] false:=by
 refine .inr ⟨rfl,rfl,fun Q hQ=>?_⟩
 obtain⟨h1,h2⟩:=h.same hs hk hQ hm hn
 have h3:=hQ.each _ (mem_getD E0 h1)
 rw[h2] at h3
 obtain⟨⟨a1,a2⟩,a3,a4⟩:=h3
 dsimp only at a1 a2 a3 a4
 rcases hb with hb|hb|⟨h0,hb⟩
 ·omega
 ·omega
 ·apply hb
  have:=hQ.incr k h0 h1
  rw[h2] at this
  rw[h.cand Q hQ]
  rwa [show(Q.take k).getD (k - 1) E0=Q.getD (k - 1) E0 by simp only[List.getD,List.getElem?_take,if_pos (show k - 1<k by omega)]]
theorem rulesR_end{s:List UInt8}{P:List Edg}{k:Nat}(h:PreR s P k)(hs:s≠[])(hk:¬k<(wordsR s).length):(polT P=s→RulesR s P true)∧(polT P≠s→RulesR s [] false):=by
 refine⟨fun e=>.inl ⟨rfl,h.each,h.incr,e⟩,fun hn=>.inr ⟨rfl,rfl,fun Q hQ=>hn ?_⟩⟩
 have h16:=pol_small hQ.each hQ.incr
 have hsp:=hQ.split hs
 unfold wordsR at hk
 rw[hsp,List.length_take,List.length_map] at hk
 rw[h.cand Q hQ,List.take_of_length_le Om]
 exact hQ.txt
theorem behind_no{x y:Edg}(h:behindB x y=false):¬orderI y x<0:=fun h2=>by
 rw[(behind_lt x y).2 h2] at h
 cases h
set_option maxHeartbeats 8000000 in
theorem rulesOf_any(s:List UInt8)(hl:s.length≤1048576)(w:World):Calls Tryz.prog 8 #[.string (bstr s)] w fun e w'=>∃(P:List Edg) (A:Option Addr) (c:Nat) (is:Bool),e=.returned (.tuple #[.agg #[.slice A P.length c],.bool is])∧RulesR s P is∧Below w.heap.size w w'∧OwnRes w w' (fun u=>May_ u A c P):=by
 have hp0:0<(wordsR s).length:=by
  have:=splitC_pos 32 s
  unfold wordsR
  rw[List.length_take]
  omega
 have h30:(wordsR s).length≤30:=by unfold wordsR;rw[List.length_take];omega
 have hsp:=split_any 32 30 Om s Om
 rw[show(splitC 32 s).take 30=wordsR s from rfl] at hsp
 have hwl:∀k,((wordsR s).getD k []).length≤s.length:=fun k=>by
  by_cases hk:k<(wordsR s).length
  ·unfold wordsR at hk⊢
   rw[List.length_take] at hk
   rw[show((splitC 32 s).take 30).getD k []=(splitC 32 s).getD k [] by simp only[List.getD,List.getElem?_take,if_pos (show k<30 by omega)]]
   exact piece_lenD s k
  ·rw[List.getD,List.getElem?_eq_none Om]
   exact Nat.zero_le _
 refine enter Tryz.func8 rfl Tryz.ntmps8 rfl fun a hF=>?_
 have hW:=Wd.start w NoB
 refine c_sr<|pe<|e_alloc hF hW ze_27 rfl rfl rfl fun b1 a wc hF hW=>pq 1 hF rfl fun a hF=>lts<|pe<|e_alloc hF hW ze_27 rfl rfl rfl fun b2 a wc hF hW=>l_nil<|t_n<|c_s<|c_sr<|pq 1 hF rfl fun a hF=>pv hF hW (y_eqB hF rfl rfl) fun a hF=>?_;refine Fr.splitD hF (fun h3 hF=>?_) (fun h3 hF=>?_);refine l_nil<|t_n<|c_t hF rfl<|c_sr<|pv hF hW (y_loadAll hF rfl 0 rfl Tryz.underlying27 rfl sz_27) fun a hF=>pe<|e_storeAll rfl hF hW rfl rfl 1 rfl rfl rfl Kr sz_27 fun wc hW=>pq 1 hF rfl fun a hF=>l_nil<|t_n<|wp_ret<|t_r<|ret2 Tryz.results8 hF (rv_c hF rfl hW 1 rfl Tryz.underlying27 rfl sz_27) (rv_t hF rfl) ?_
 exact⟨[],none,0,true,rfl,.inl ⟨rfl,by rw[show s=[] by assumption];exact rsays_nil⟩,hW.below,fun _ _=>Flat.nil_⟩
 refine l_nil<|t_n<|c_f hF rfl<|wp_skip<|t_n<|c_sr<|pq 1 hF rfl fun a hF=>?_;refine pe (e_callA hF rfl rfl en_32 Rl (hsp _) ?_);rintro e w1 ⟨A0,c0,rfl,hN⟩;replace hW:=(hW.comb1 hN).row_vseg 0 rfl hp0;refine⟨_,rfl,fun a hF=>?_⟩;refine pq 1 hF rfl fun a hF=>l_nil<|t_n<|c_s ?_
 have hs0:s≠[]:=Am
 refine c_sr<|pq 1 hF rfl fun a hF=>l_nil<|t_n<|wp_block ?_;replace hW:=hW.nil_row 53 2;replace hW:=hW.fs [2,1] rfl;refine c_loop (G:=Nat×List Edg×Option Addr×Nat) (fun⟨k,P,A,c⟩=>[(6,.int .i64 (k:Int))]) (fun⟨k,P,A,c⟩=>[.row 53 2 (.slice A P.length c) P.length (P.flatMap Edg.cells),.blk b2 27 [.slice A P.length c]]) (fun⟨k,P,A,c⟩=>k≤(wordsR s).length∧PreR s P k) (fun⟨k,P,A,c⟩=>(wordsR s).length - k) (0,[],none,0) (hF.ks [0,2,4,5,10] rfl) (Fr.cons hF (t:=6) rfl Rg (Fr.nil hF)) (hW) ?_ ?_
 exact⟨Nat.zero_le _,preR_0 s⟩
 clear hF hW
 try clear a
 intro gq a wc hC hF hW
 obtain⟨k,P,A,c⟩:=gq
 dsimp only at hC
 obtain⟨hkw,hPre⟩:=hC
 refine c_s<|c_sr<|pq 4 hF rfl fun a hF=>?_;refine Fr.splitD hF (fun h4 hF=>?_) (fun h4 hF=>?_);refine l_nil<|t_n<|c_t hF rfl<|wp_skip<|t_n<|c_s<|wp_block ?_
 have hk:k<(wordsR s).length:=Om
 have hPl:=hPre.len
 have hP16:=pol_small hPre.each hPre.incr
 have hwx:=wordX_len ((wordsR s).getD k [])
 refine c_sr<|pq 2 hF rfl fun a hF=>pv hF hW (y_indexS hF rfl rfl (by exact hk) Tryz.underlying86 sz_9 (fun w h=>(h.vsegR (d0:=.nilFunc) 2 rfl))) fun a hF=>pv hF hW (y_loadRow hF rfl (fun w h=>(h.vsegR (d0:=.nilFunc) 2 rfl)) (by exact hk) (congrArg some (strV_getD (k:=k) hk)) Tryz.underlying9 rfl) fun a hF=>?_;refine pe (e_callA hF rfl rfl en_32 Rl (split_any 62 3 Om _ (by have:=hwl k;omega) _) ?_);rintro e w1 ⟨A1,c1,rfl,hN⟩;replace hW:=hW.comb1 hN;refine⟨_,rfl,fun a hF=>?_⟩;refine pe<|e_buildSlice hF hW rfl (fun w=>bs_DskC_86_1_0 _ w) rfl rfl rfl fun b5 a wc hF hW=>pe<|e_append hF hW 1 rfl rfl rfl Tryz.underlying86 inf_9 rfl Dc (rowAt_blk (hW.blk 0 rfl) 1 1 rfl) Oc (show _=(wordX ((wordsR s).getD k [])).length by exact hwx.2.1.symm) (show _=strV (wordX ((wordsR s).getD k [])) by rw[wordX,strV,strV,List.map_append];rfl) Ox Ml rfl rfl fun A6 c7 a wc hF hW=>pq 1 hF rfl fun a hF=>?_;replace hF:=Fr.cast (v':=.slice A6 (wordX ((wordsR s).getD k [])).length c7) Rl hF;refine l_nil<|t_n ?_;refine c_cut (G:=Nat×Int×Int) (fun⟨b8,m,n⟩=>[(8,.pointer (some ⟨b8,0,none⟩))]) (fun⟨b8,m,n⟩=>[.blk b8 53 [.int .i64 m,.int .i64 n]]) (fun⟨b8,m,n⟩=>m=saidL ((wordX ((wordsR s).getD k [])).getD 0 [])∧n=saidL ((wordX ((wordsR s).getD k [])).getD 1 [])) (hF.ks [0,2,4,5,6,7,10,17] rfl) hW ?_ ?_;refine c_d mixed_ok hW (hW) ?_
 clear hW;intro wc hW hS
 refine dq 1 [0] hF hS rfl fun a hF=>dv 1 rfl hF hS (y_indexS hF rfl rfl (by exact Nat.lt_of_lt_of_le (by decide:0<2) hwx.1) Tryz.underlying86 sz_9 (fun w h=>rowS_rf (h.row 1 rfl))) fun a hF=>dv 2 rfl hF hS (y_loadRow hF rfl (fun w h=>rowS_rf (h.row 1 rfl)) (by exact Nat.lt_of_lt_of_le (by decide:0<2) hwx.1) rfl Tryz.underlying9 rfl) fun a hF=>dq 1 [4] hF hS rfl fun a hF=>dv 5 rfl hF hS (y_indexS hF rfl rfl (by exact Nat.lt_of_lt_of_le (by decide:1<2) hwx.1) Tryz.underlying86 sz_9 (fun w h=>rowS_rf (h.row 1 rfl))) fun a hF=>dv 6 rfl hF hS (y_loadRow hF rfl (fun w h=>rowS_rf (h.row 1 rfl)) (by exact Nat.lt_of_lt_of_le (by decide:1<2) hwx.1) rfl Tryz.underlying9 rfl) fun a hF=>?_;refine d_2 3 9 Kr ?_ ?_;refine d_op rfl rfl<|e_callK hF hW rfl rfl en_33 Rl (said_any _ _) fun a w1 hW hF=>ai hW fun hS=>?_;refine d_2 7 9 Kr ?_ ?_;refine d_op rfl rfl<|e_callK hF hW rfl rfl en_33 Rl (said_any _ _) fun a w1 hW hF=>ai hW fun hS=>dv 8 rfl hF hS (y_build hF rfl (fun w=>bu_DskC_53_0_1 _ _ w)) fun a hF=>d_1 9 Kr<|d_op rfl rfl<|e_alloc hF hW ze_53 rfl rfl rfl fun b8 a wc hF hW=>ai (hW.del 0 rfl) fun hS=>d_1 10 Kr ?_;refine d_op rfl rfl<|e_storeAll rfl hF hW rfl rfl 0 rfl rfl rfl Kr sz_53 fun wc hW=>ai (hW.del 0 rfl) fun hS=>?_;clear hS;refine d_nil Kr ?_;replace hF:=hF.ks [0,2,4,5,6,7,8,10,17] rfl;refine t_n ?_;refine⟨(b8,saidL ((wordX ((wordsR s).getD k [])).getD 0 []),saidL ((wordX ((wordsR s).getD k [])).getD 1 [])),?_,?_,?_⟩
 exact hF.a1 rfl rfl
 exact hW
 exact⟨rfl,rfl⟩
 refine d_op rfl rfl<|e_alloc hF hW ze_53 rfl rfl rfl fun b9 a wc hF hW=>ai (hW.del 0 rfl) fun hS=>d_1 7 Kr<|d_op rfl rfl<|e_callK hF hW rfl rfl en_33 Rl (said_any _ _) fun a w1 hW hF=>ai (hW.del 0 rfl) fun hS=>dv 8 rfl hF hS (y_build hF rfl (fun w=>bu_DskC_53_0_1 _ _ w)) fun a hF=>d_1 10 Kr ?_;refine d_op rfl rfl<|e_storeAll rfl hF hW rfl rfl 0 rfl rfl rfl Kr sz_53 fun wc hW=>ai (hW.del 0 rfl) fun hS=>?_;clear hS;refine d_nil Kr ?_;replace hF:=hF.ks [0,2,4,5,6,7,8,10,17] rfl;refine t_n ?_;refine⟨(b9,saidL ((wordX ((wordsR s).getD k [])).getD 0 []),saidL ((wordX ((wordsR s).getD k [])).getD 1 [])),?_,?_,?_⟩
 exact hF.a1 rfl rfl
 exact hW
 exact⟨rfl,rfl⟩
 refine d_op rfl rfl<|e_alloc hF hW ze_53 rfl rfl rfl fun b10 a wc hF hW=>ai (hW.del 0 rfl) fun hS=>d_1 3 Kr<|d_op rfl rfl<|e_callK hF hW rfl rfl en_33 Rl (said_any _ _) fun a w1 hW hF=>ai (hW.del 0 rfl) fun hS=>d_1 7 Kr<|d_op rfl rfl<|e_callK hF hW rfl rfl en_33 Rl (said_any _ _) fun a w1 hW hF=>ai (hW.del 0 rfl) fun hS=>dv 8 rfl hF hS (y_build hF rfl (fun w=>bu_DskC_53_0_1 _ _ w)) fun a hF=>d_1 10 Kr ?_;refine d_op rfl rfl<|e_storeAll rfl hF hW rfl rfl 0 rfl rfl rfl Kr sz_53 fun wc hW=>ai (hW.del 0 rfl) fun hS=>?_;clear hS;refine d_nil Kr ?_;replace hF:=hF.ks [0,2,4,5,6,7,8,10,17] rfl;refine t_n ?_;refine⟨(b10,saidL ((wordX ((wordsR s).getD k [])).getD 0 []),saidL ((wordX ((wordsR s).getD k [])).getD 1 [])),?_,?_,?_⟩
 exact hF.a1 rfl rfl
 exact hW
 exact⟨rfl,rfl⟩
 clear hF hW
 try clear a
 intro gq a wc hC hF hW
 obtain⟨b8,m,n⟩:=gq
 dsimp only at hC
 obtain⟨hm,hn⟩:=hC
 refine c_s<|c_sd mixed_ok hW (hW) ?_
 clear hW;intro wc hW hS
 refine dq 1 [0] hF hS rfl fun a hF=>dv 1 rfl hF hS (y_loadOwn hF rfl 0 rfl rfl Tryz.underlying3 rfl) fun a hF=>d_1 2 Kr<|d_op rfl rfl<|e_callK hF hW rfl rfl en_23 Rl (withinD_any _ _ _ _) fun a w1 hW hF=>?_;refine Fr.splitD hF (fun h11 hF=>?_) (fun h11 hF=>?_);refine ai hW fun hS=>dq 2 [3,4] hF hS rfl fun a hF=>?_;replace hF:=hF.ff;refine dq 1 [5] hF hS rfl fun a hF=>dvg 6 rfl hF hS (y_loadOwn hF rfl 0 rfl rfl Tryz.underlying3 rfl) (ws hF rfl rfl) fun a hF=>d_1 7 Kr ?_;refine d_op rfl (ws hF rfl rfl) (e_callK hF hW rfl rfl en_23 Rl (withinD_any _ _ _ _) ?_);intro a w1 hW hF;refine Fr.splitD hF (fun h12 hF=>?_) (fun h12 hF=>?_);refine ai hW fun hS=>dq 2 [8,9] hF hS rfl fun a hF=>?_;replace hF:=hF.ff;refine dq 1 [10] hF hS rfl fun a hF=>?_;replace hF:=hF.ff;refine dq 2 [11,12] hF hS rfl fun a hF=>?_;refine Fr.splitD hF (fun h13 hF=>?_) (fun h13 hF=>?_);refine dq 1 [13] hF hS rfl fun a hF=>dvg 14 rfl hF hS (y_loadAll hF rfl 0 rfl Tryz.underlying53 rfl sz_53) (ws hF rfl rfl) fun a hF=>dq 1 [15] hF hS rfl fun a hF=>dvg 16 rfl hF hS (y_loadOwn hF rfl 4 rfl rfl Tryz.underlying25 rfl) (ws hF rfl rfl) fun a hF=>dq 1 [17] hF hS rfl fun a hF=>dvg 18 rfl hF hS (y_sub hF rfl rfl (IntWalk.i64_in _ Om)) (ws hF rfl rfl) fun a hF=>?_;replace hF:=Fr.cast (v':=.int .i64 ((k - 1:Nat):Int)) (by exact congrArg (Value.int .i64) Om) hF;refine dvg 19 rfl hF hS (y_indexS hF rfl rfl Od Tryz.underlying25 sz_53 (fun w h=>(Flat.of_own (h.row 3 rfl) rfl).rf Edg.cells_len E0)) (ws hF rfl rfl) fun a hF=>dvg 20 rfl hF hS (y_loadRowW hF rfl (fun w h=>(Flat.of_own (h.row 3 rfl) rfl).rf Edg.cells_len E0) Od Tryz.underlying53 rfl sz_53) (ws hF rfl rfl) fun a hF=>d_1 21 Kr ?_;refine d_op rfl (ws hF rfl rfl) (e_callK hF hW rfl rfl en_34 Rl (behindR_any ⟨m,n⟩ (P.getD (k - 1) E0) _) ?_);intro a w1 hW hF;refine Fr.splitB hF (fun h14 hF=>?_) (fun h14 hF=>?_);refine ai hW fun hS=>dq 2 [22,23] hF hS rfl fun a hF=>?_;replace hF:=hF.ff;refine dq 1 [24] hF hS rfl fun a hF=>?_;replace hF:=hF.ff;clear hS;refine d_nil Kr ?_;replace hF:=hF.ks [0,2,4,5,6,7,8,10,17,60] rfl;refine t_n<|c_f hF rfl<|wp_skip<|t_n ?_
 have hed:EdIn ⟨m,n⟩:=⟨⟨by show 0≤m;omega,by show m<4;omega⟩,by show 0≤n;omega,by show n<4;omega⟩
 have hord:0<k→orderI (P.getD (k - 1) E0) ⟨m,n⟩<0:=by first|exact fun h=>absurd h Om|exact fun _=>(behind_lt _ _).1 Am
 refine c_r<|pq 1 hF rfl fun a hF=>pv hF hW (y_loadOwn hF rfl 4 rfl rfl Tryz.underlying25 rfl) fun a hF=>pv hF hW (y_loadAll hF rfl 0 rfl Tryz.underlying53 rfl sz_53) fun a hF=>pe<|e_buildSlice hF hW rfl (fun w=>bs_DskC_25_1_0 _ _ w) rfl rfl rfl fun b15 a wc hF hW=>pe<|e_append hF hW 4 rfl rfl rfl Tryz.underlying25 inf_53 rfl Dc (rowAt_blk (hW.blk 0 rfl) 2 1 rfl) Oc (show _=(P++[Edg.mk m n]).length by simp) (show _=(P++[Edg.mk m n]).flatMap Edg.cells by simp[Edg.cells]) Ox Ml rfl rfl fun A16 c17 a wc hF hW=>pq 1 hF rfl fun a hF=>pe<|e_store rfl hF hW rfl rfl 5 rfl rfl rfl sz_25 fun wc hW=>l_nil<|b_n<|t_n<|c_r<|pq 1 hF rfl fun a hF=>pv hF hW (y_add hF rfl rfl (IntWalk.i64_in _ Om)) fun a hF=>pq 1 hF rfl fun a hF=>l_nil ?_;replace hW:=hW.ds [0,0,0,0] rfl;refine t_n ?_;refine⟨(k+1,P++[⟨m,n⟩],A16,c17),?_,?_,?_,?_⟩
 exact⟨by omega,hPre.snoc hs0 hk hm hn hed hord⟩
 first|omega|(dsimp only;omega)
 exact hF.a1 rfl rfl
 exact hW
 refine ai hW fun hS=>dq 2 [22,23] hF hS rfl fun a hF=>?_;replace hF:=hF.tt;refine dq 1 [24] hF hS rfl fun a hF=>?_;replace hF:=hF.tt;clear hS;refine d_nil Kr ?_;replace hF:=hF.ks [0,2,4,5,6,7,8,10,17,60] rfl;refine t_n<|c_t hF rfl<|c_sr<|pv hF hW (y_build hF rfl (fun w=>bu_DskC_27_ w)) fun a hF=>?_;refine pe<|e_storeAll rfl hF hW rfl rfl 6 rfl rfl rfl Kr sz_27 fun wc hW=>pq 1 hF rfl fun a hF=>l_nil<|t_n<|wp_ret<|t_r<|b_r<|t_r<|t_r<|b_r<|t_r<|ret2 Tryz.results8 hF (rv_c hF rfl hW 6 rfl Tryz.underlying27 rfl sz_27) (rv_t hF rfl) ?_
 exact⟨[],none,0,false,rfl,rulesR_no hPre hs0 hk hm hn (by first|exact .inl Am|exact .inr (.inl Am)|exact .inr (.inr ⟨by omega,behind_no Am⟩)),hW.below,fun _ _=>Flat.nil_⟩
 refine dq 12 [13,14,15,16,17,18,19,20,21,22,23,24] hF hS rfl fun a hF=>?_;clear hS;refine d_nil Kr ?_;replace hF:=hF.ks [0,2,4,5,6,7,8,10,17,60] rfl;refine t_n<|c_f hF rfl<|wp_skip<|t_n ?_
 have hed:EdIn ⟨m,n⟩:=⟨⟨by show 0≤m;omega,by show m<4;omega⟩,by show 0≤n;omega,by show n<4;omega⟩
 have hord:0<k→orderI (P.getD (k - 1) E0) ⟨m,n⟩<0:=by first|exact fun h=>absurd h Om|exact fun _=>(behind_lt _ _).1 Am
 refine c_r<|pq 1 hF rfl fun a hF=>pv hF hW (y_loadOwn hF rfl 4 rfl rfl Tryz.underlying25 rfl) fun a hF=>pv hF hW (y_loadAll hF rfl 0 rfl Tryz.underlying53 rfl sz_53) fun a hF=>pe<|e_buildSlice hF hW rfl (fun w=>bs_DskC_25_1_0 _ _ w) rfl rfl rfl fun b18 a wc hF hW=>pe<|e_append hF hW 4 rfl rfl rfl Tryz.underlying25 inf_53 rfl Dc (rowAt_blk (hW.blk 0 rfl) 2 1 rfl) Oc (show _=(P++[Edg.mk m n]).length by simp) (show _=(P++[Edg.mk m n]).flatMap Edg.cells by simp[Edg.cells]) Ox Ml rfl rfl fun A19 c20 a wc hF hW=>pq 1 hF rfl fun a hF=>pe<|e_store rfl hF hW rfl rfl 5 rfl rfl rfl sz_25 fun wc hW=>l_nil<|b_n<|t_n<|c_r<|pq 1 hF rfl fun a hF=>pv hF hW (y_add hF rfl rfl (IntWalk.i64_in _ Om)) fun a hF=>pq 1 hF rfl fun a hF=>l_nil ?_;replace hW:=hW.ds [0,0,0,0] rfl;refine t_n ?_;refine⟨(k+1,P++[⟨m,n⟩],A19,c20),?_,?_,?_,?_⟩
 exact⟨by omega,hPre.snoc hs0 hk hm hn hed hord⟩
 first|omega|(dsimp only;omega)
 exact hF.a1 rfl rfl
 exact hW
 refine ai hW fun hS=>dq 2 [8,9] hF hS rfl fun a hF=>?_;replace hF:=hF.tt;refine dq 1 [10] hF hS rfl fun a hF=>?_;replace hF:=hF.tt;refine dq 14 [11,12,13,14,15,16,17,18,19,20,21,22,23,24] hF hS rfl fun a hF=>?_;clear hS;refine d_nil Kr ?_;replace hF:=hF.ks [0,2,4,5,6,7,8,10,17,60] rfl;refine t_n<|c_t hF rfl<|c_sr<|pv hF hW (y_build hF rfl (fun w=>bu_DskC_27_ w)) fun a hF=>?_;refine pe<|e_storeAll rfl hF hW rfl rfl 6 rfl rfl rfl Kr sz_27 fun wc hW=>pq 1 hF rfl fun a hF=>l_nil<|t_n<|wp_ret<|t_r<|b_r<|t_r<|t_r<|b_r<|t_r<|ret2 Tryz.results8 hF (rv_c hF rfl hW 6 rfl Tryz.underlying27 rfl sz_27) (rv_t hF rfl) ?_
 exact⟨[],none,0,false,rfl,rulesR_no hPre hs0 hk hm hn (by first|exact .inl Am|exact .inr (.inl Am)|exact .inr (.inr ⟨by omega,behind_no Am⟩)),hW.below,fun _ _=>Flat.nil_⟩
 refine ai hW fun hS=>dq 2 [3,4] hF hS rfl fun a hF=>?_;replace hF:=hF.tt;refine dq 20 [5,6,7,8,9,10,11,12,13,14,15,16,17,18,19,20,21,22,23,24] hF hS rfl fun a hF=>?_;clear hS;refine d_nil Kr ?_;replace hF:=hF.ks [0,2,4,5,6,7,8,10,17,60] rfl;refine t_n<|c_t hF rfl<|c_sr<|pv hF hW (y_build hF rfl (fun w=>bu_DskC_27_ w)) fun a hF=>?_;refine pe<|e_storeAll rfl hF hW rfl rfl 6 rfl rfl rfl Kr sz_27 fun wc hW=>pq 1 hF rfl fun a hF=>l_nil<|t_n<|wp_ret<|t_r<|b_r<|t_r<|t_r<|b_r<|t_r<|ret2 Tryz.results8 hF (rv_c hF rfl hW 6 rfl Tryz.underlying27 rfl sz_27) (rv_t hF rfl) ?_
 exact⟨[],none,0,false,rfl,rulesR_no hPre hs0 hk hm hn (by first|exact .inl Am|exact .inr (.inl Am)|exact .inr (.inr ⟨by omega,behind_no Am⟩)),hW.below,fun _ _=>Flat.nil_⟩
 refine l_nil<|t_n<|c_f hF rfl<|wp_exit<|t_x<|t_x<|b_h<|t_n<|c_s<|c_sr<|pv hF hW (y_loadAll hF rfl 1 rfl Tryz.underlying27 rfl sz_27) fun a hF=>pe<|e_callK hF hW rfl rfl en_35 Rl (policyText_any (Flat.of_own (hW.row 0 rfl) rfl) hPre.each (pol_small hPre.each hPre.incr)) fun a w1 hW hF=>pq 1 hF rfl fun a hF=>pv hF hW (y_neB hF rfl rfl) fun a hF=>?_;refine Fr.splitD hF (fun h21 hF=>?_) (fun h21 hF=>?_);refine l_nil<|t_n<|c_t hF rfl<|c_sr<|pv hF hW (y_build hF rfl (fun w=>bu_DskC_27_ w)) fun a hF=>?_;refine pe<|e_storeAll rfl hF hW rfl rfl 3 rfl rfl rfl Kr sz_27 fun wc hW=>pq 1 hF rfl fun a hF=>l_nil<|t_n<|wp_ret<|t_r<|ret2 Tryz.results8 hF (rv_c hF rfl hW 3 rfl Tryz.underlying27 rfl sz_27) (rv_t hF rfl) ?_
 exact⟨[],none,0,false,rfl,(rulesR_end hPre hs0 Om).2 Am,hW.below,fun _ _=>Flat.nil_⟩
 refine l_nil<|t_n<|c_f hF rfl<|wp_skip<|t_n<|c_sr<|pv hF hW (y_loadAll hF rfl 1 rfl Tryz.underlying27 rfl sz_27) fun a hF=>pe<|e_storeAll rfl hF hW rfl rfl 3 rfl rfl rfl Kr sz_27 fun wc hW=>pq 1 hF rfl fun a hF=>l_nil<|t_n<|wp_ret<|ret2 Tryz.results8 hF (rv_c hF rfl hW 3 rfl Tryz.underlying27 rfl sz_27) (rv_t hF rfl) ?_;replace hW:=hW.ds [1,1,1] rfl
 exact⟨P,A,c,true,rfl,(rulesR_end hPre hs0 Om).1 (Classical.not_not.1 Am),hW.below,((hW.row_res 0 rfl).res_res 0 rfl).mono fun u h=>Flat.of_own h rfl⟩
end Go.Proofs.YtndcjmopebcdgaaGreatDoor
