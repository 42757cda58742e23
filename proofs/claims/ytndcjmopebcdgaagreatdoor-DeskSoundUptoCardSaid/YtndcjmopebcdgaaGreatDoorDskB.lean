/- strings.Cut at one byte; desk.part; desk.Rules finds what a text says. -/
import Derived.Test.YtndcjmopebcdgaaGreatDoorDskA
import Derived.Test.YtndcjmopebcdgaaGreatDoorSkG
import Derived.Shelf.Strings.Search2
set_option linter.unusedSimpArgs false
set_option linter.unusedVariables false
namespace Go.Proofs.YtndcjmopebcdgaaGreatDoor
open Go.ChangeShapes Go.WideShapes Go.ChangeAt Go.RowKit
theorem bs_DskB_25_1_0(x0:Int)(x1:Int)(w:World):(Instr.buildSlice 25 1 #[(0,(.agg #[(.int .i64 x0),(.int .i64 x1)]))]).run Tryz.prog w=.ok (.slice (some ⟨w.heap.size,0,none⟩) 1 1) (w.alloc (.cells #[(.int .i64 x0),(.int .i64 x1)] 53)):=by kernel_rfl
theorem bs_DskB_41_2_0_1(x0:Int)(x1:Int)(w:World):(Instr.buildSlice 41 2 #[(0,(.int .i64 x0)),(1,(.int .i64 x1))]).run Tryz.prog w=.ok (.slice (some ⟨w.heap.size,0,none⟩) 2 2) (w.alloc (.cells #[(.int .i64 x0),(.int .i64 x1)] 3)):=by kernel_rfl
theorem bu_DskB_27_(w:World):(Instr.build 27 #[]).run Tryz.prog w=.ok (.agg #[(.slice none 0 0)]) w:=by kernel_rfl
theorem bu_DskB_53_0(x0:Int)(w:World):(Instr.build 53 #[(0,(.int .i64 x0))]).run Tryz.prog w=.ok (.agg #[(.int .i64 x0),(.int .i64 0)]) w:=by kernel_rfl
theorem bu_DskB_53_0_1(x0:Int)(x1:Int)(w:World):(Instr.build 53 #[(0,(.int .i64 x0)),(1,(.int .i64 x1))]).run Tryz.prog w=.ok (.agg #[(.int .i64 x0),(.int .i64 x1)]) w:=by kernel_rfl
set_option maxRecDepth 100000
theorem scut_any(l:List UInt8)(hl:l.length≤4294967296)(w:World):Calls Tryz.prog 78 #[.string (bstr l),.string (bstr [62])] w fun e w'=>∃a b is,e=.returned (.tuple #[.string (bstr a),.string (bstr b),.bool is])∧Below w.heap.size w w'∧CutAt 62 l a b is:=by
 have hix:∀w1,Calls Tryz.prog 123 #[.string (bstr l),.string (bstr [62])] w1 fun e w'=>e=.returned (.int .i64 (Lib.indexByte l 62))∧Below w1.heap.size w1 w':=fun w1=>
  (Any.stringslite_Index_one (P:=Tryz.prog) (ρ:=lay_ren) lay_219 (bstr l) 62 w1).mono fun e w' h=>⟨h.1,by rw[h.2];exact Below.refl _ _⟩
 rcases idx_cases 62 l with⟨h1,h2⟩|⟨i,h1,h2,h3,h4⟩
 ·rw[h1] at hix
  refine enter Tryz.func78 rfl Tryz.ntmps78 rfl fun a hF=>?_
  have hW:=Wd.start w NoB
  refine c_sr<|pq 3 hF rfl fun a hF=>l_nil<|t_n<|c_s<|c_sr<|pq 2 hF rfl fun a hF=>pe<|e_callK hF hW rfl rfl en_123 Rl (hix _) fun a w1 hW hF=>pq 1 hF rfl fun a hF=>lts<|pq 2 hF rfl fun a hF=>?_;replace hF:=hF.ff;refine l_nil<|t_n<|c_f hF rfl<|wp_skip<|t_n<|c_sr<|pq 4 hF rfl fun a hF=>l_nil<|t_n<|wp_ret<|ret3 Tryz.results78 hF (rv_t hF rfl) (rv_t hF rfl) (rv_t hF rfl) ?_
  exact⟨l,[],false,rfl,hW.below,fun h=>(by cases h),fun _=>h2,Nat.le_refl _,Nat.zero_le _⟩
 ·rw[h1] at hix
  refine enter Tryz.func78 rfl Tryz.ntmps78 rfl fun a hF=>?_
  have hW:=Wd.start w NoB
  refine c_sr<|pq 3 hF rfl fun a hF=>l_nil<|t_n<|c_s<|c_sr<|pq 2 hF rfl fun a hF=>pe<|e_callK hF hW rfl rfl en_123 Rl (hix _) fun a w1 hW hF=>pq 1 hF rfl fun a hF=>lts<|pq 2 hF rfl fun a hF=>?_;refine Fr.splitD hF (fun h1 hF=>?_) (fun h1 hF=>?_);refine l_nil<|t_n<|c_t hF rfl<|c_sd mixed_ok hW (hW) ?_
  clear hW;intro wc hW hS
  refine dq 2 [0,1] hF hS rfl fun a hF=>dv 2 rfl hF hS (y_sliceStrH hF rfl rfl Om Tryz.underlying9) fun a hF=>dq 3 [3,4,5] hF hS rfl fun a hF=>dv 6 rfl hF hS (y_lenB hF rfl Tryz.underlying9) fun a hF=>dv 7 rfl hF hS (y_add hF rfl rfl (IntWalk.i64_in _ (by have:([62]:List UInt8).length=1:=rfl;omega))) fun a hF=>?_;replace hF:=Fr.cast (v':=.int .i64 ((i+1:Nat):Int)) Rl hF;refine dv 8 rfl hF hS (y_sliceStrL hF rfl rfl Om Tryz.underlying9) fun a hF=>dq 3 [9,10,11] hF hS rfl fun a hF=>?_;clear hS;refine d_nil Kr<|t_n<|wp_ret<|t_r<|ret3 Tryz.results78 hF (rv_t hF rfl) (rv_t hF rfl) (rv_t hF rfl) ?_
  exact⟨l.take i,l.drop (i+1),true,rfl,hW.below,fun _=>⟨h4,h3⟩,fun h=>(by cases h),by rw[List.length_take];omega,by rw[List.length_drop];omega⟩
  exfalso
  omega
theorem cut_any(l:List UInt8)(hl:l.length≤4294967296)(w:World):Calls Tryz.prog 28 #[.string (bstr l),.string (bstr [62])] w fun e w'=>∃a b is,e=.returned (.tuple #[.string (bstr a),.string (bstr b),.bool is])∧Below w.heap.size w w'∧CutAt 62 l a b is:=by
 refine enter Tryz.func28 rfl Tryz.ntmps28 rfl fun a hF=>?_
 have hW:=Wd.start w NoB
 refine c_sr<|pq 3 hF rfl fun a hF=>lts<|pq 2 hF rfl fun a hF=>?_;refine pe (e_callA hF rfl rfl en_78 Rl (scut_any l hl _) ?_);rintro e w1 ⟨x,y,z,rfl,hb,hc⟩;replace hW:=hW.kept hb;refine⟨_,rfl,fun a hF=>?_⟩;refine pq 6 hF rfl fun a hF=>l_nil<|t_n<|wp_ret<|ret3 Tryz.results28 hF (rv_t hF rfl) (rv_t hF rfl) (rv_t hF rfl) ?_
 exact⟨x,y,z,rfl,hW.below,hc⟩
def PartIs(l:List UInt8)(m:Int)(is:Bool):Prop:=(is=true→(0≤m∧m<4)∧Lib.itoa m=l)∧(is=false→∀n:Int,0≤n→n<4→Lib.itoa n≠l)
theorem part_err{l:List UInt8}{m:Int}(h:∀z,Lib.atoiAll l≠.ok z):PartIs l m false:=⟨fun h=>(by cases h),fun _ n h0 h1 he=>h n (by rw[←he];exact atoi_itoa ⟨by omega,by omega⟩)⟩
theorem part_no{l:List UInt8}{m:Int}(h:Lib.atoiAll l=.ok m)(hn:¬(0≤m∧m<4∧Lib.itoa m=l)):PartIs l m false:=⟨fun h=>(by cases h),fun _ n h0 h1 he=>by
 have h2:Lib.atoiAll l=.ok n:=by rw[←he];exact atoi_itoa ⟨by omega,by omega⟩
 rw[h] at h2
 injection h2 with h2
 subst h2
 exact hn ⟨h0,h1,he⟩⟩
theorem part_any(l:List UInt8)(hl:l.length≤4294967296){w:World}(hL:Lay w):Calls Tryz.prog 29 #[.string (bstr l)] w fun e w'=>∃m is,e=.returned (.tuple #[.int .i64 m,.bool is])∧Below w.heap.size w w'∧PartIs l m is:=by
 refine enter Tryz.func29 rfl Tryz.ntmps29 rfl fun a hF=>?_
 have hW:=Wd.start w NoB
 refine c_sr<|pq 2 hF rfl fun a hF=>lts<|pq 1 hF rfl fun a hF=>?_;refine pe (e_callA hF rfl rfl en_79 Rl (atoi_own (hL.wd hW) l Om) ?_);rintro e w1 ⟨m,v,rfl,hb,hv,hok,hbad⟩;replace hW:=hW.kept hb;refine⟨_,rfl,fun a hF=>?_⟩;refine pq 5 hF rfl fun a hF=>lts<|pq 2 hF rfl fun a hF=>pv hF hW (y_eqNil hF rfl (by exact hv) Kr) fun a hF=>?_;refine Fr.splitB hF (fun h1 hF=>?_) (fun h1 hF=>?_);refine pq 3 hF rfl fun a hF=>?_;refine Fr.splitD hF (fun h2 hF=>?_) (fun h2 hF=>?_);refine pq 4 hF rfl fun a hF=>?_;refine Fr.splitD hF (fun h3 hF=>?_) (fun h3 hF=>?_);refine pq 3 hF rfl fun a hF=>?_;refine pe (e_callK hF hW rfl rfl en_65 Rl (itoa_own (hL.wd hW) _ Om Om) ?_) (ws hF rfl rfl);intro a w1 hW hF;refine pq 1 hF rfl fun a hF=>pvg hF hW (y_eqB hF rfl rfl) (ws hF rfl rfl) fun a hF=>?_;refine Fr.splitD hF (fun h4 hF=>?_) (fun h4 hF=>?_);refine pq 3 hF rfl fun a hF=>l_nil ?_;replace hF:=hF.ks [0,2,3,4,5] rfl;refine t_n<|wp_ret<|ret2 Tryz.results29 hF (rv_t hF rfl) (rv_t hF rfl) ?_
 exact⟨m,true,rfl,hW.below,fun _=>⟨⟨by omega,by omega⟩,by assumption⟩,fun h=>(by cases h)⟩
 refine pq 3 hF rfl fun a hF=>l_nil ?_;replace hF:=hF.ks [0,2,3,4,5] rfl;refine t_n<|wp_ret<|ret2 Tryz.results29 hF (rv_t hF rfl) (rv_t hF rfl) ?_
 exact⟨m,false,rfl,hW.below,part_no (hok (by simp_all)) fun h=>absurd h.2.2 Am⟩
 refine pq 9 hF rfl fun a hF=>l_nil ?_;replace hF:=hF.ks [0,2,3,4,5] rfl;refine t_n<|wp_ret<|ret2 Tryz.results29 hF (rv_t hF rfl) (rv_t hF rfl) ?_
 exact⟨m,false,rfl,hW.below,part_no (hok (by simp_all)) fun h=>absurd h.2.1 Om⟩
 refine pq 13 hF rfl fun a hF=>l_nil ?_;replace hF:=hF.ks [0,2,3,4,5] rfl;refine t_n<|wp_ret<|ret2 Tryz.results29 hF (rv_t hF rfl) (rv_t hF rfl) ?_
 exact⟨m,false,rfl,hW.below,part_no (hok (by simp_all)) fun h=>absurd h.1 Om⟩
 refine pq 16 hF rfl fun a hF=>l_nil ?_;replace hF:=hF.ks [0,2,3,4,5] rfl;refine t_n<|wp_ret<|ret2 Tryz.results29 hF (rv_t hF rfl) (rv_t hF rfl) ?_
 exact⟨m,false,rfl,hW.below,part_err (hbad (by simp_all))⟩
theorem word_edge{l a b:List UInt8}{m n:Int}(hc:CutAt 62 l a b true)(ha:PartIs a m true)(hb:PartIs b n true):edgT ⟨m,n⟩=l∧EdIn ⟨m,n⟩:=by
 obtain⟨h1,h2⟩:=ha.1 rfl
 obtain⟨h3,h4⟩:=hb.1 rfl
 refine⟨?_,h1,h3⟩
 rw[(hc.yes rfl).1,←h2,←h4]
 rfl
theorem wordE_no{l a b:List UInt8}{m n:Int}{x y z:Bool}(hc:CutAt 62 l a b x)(ha:PartIs a m y)(hb:PartIs b n z)(h:x=false∨y=false∨z=false){e:Edg}(he:edgT e=l)(hi:EdIn e):False:=by
 cases x with
 |false=>
  apply hc.no rfl
  rw[←he]
  unfold edgT
  simp
 |true=>
  obtain⟨h1,h2⟩:=hc.yes rfl
  have e1:=splitC_app (c:=62) (p:=Lib.itoa e.from_) (Lib.itoa e.to_) (itoa_no62 _)
  rw[splitC_none (itoa_no62 _),show Lib.itoa e.from_++62::Lib.itoa e.to_=l from he,h1,splitC_app _ h2] at e1
  injection e1 with e1 e2
  have e3:=join_split 62 b
  rw[e2,Lib.join_cons] at e3
  have e4:b=Lib.itoa e.to_:=by rw[←e3];simp[Lib.joinTail]
  rcases h with h|h|h
  ·cases h
  ·exact ha.2 h e.from_ hi.1.1 hi.1.2 e1.symm
  ·exact hb.2 h e.to_ hi.2.1 hi.2.2 e4.symm
theorem order_min{e:Edg}(h:EdIn e):orderI ⟨-1,0⟩ e<0:=(order_lt _ _).2 (.inl (by have:=h.1.1;show(-1:Int)<_;omega))
def lastE(P:List Edg):Edg:=if P.length=0 then⟨-1,0⟩ else P.getD (P.length - 1) E0
theorem lastE_snoc(P:List Edg)(e:Edg):lastE (P++[e])=e:=by
 unfold lastE
 rw[if_neg Si,List.length_append,List.length_cons,List.length_nil,Nat.zero_add,Nat.add_sub_cancel,snoc_getD Om,if_pos rfl]
theorem lastE_lt{P:List Edg}{e:Edg}{k:Nat}(hk:P.length=k)(he:EdIn e):orderI (lastE P) e<0↔(0<k→orderI (P.getD (k - 1) E0) e<0):=by
 unfold lastE
 subst hk
 split
 ·exact⟨fun _ h=>by omega,fun _=>order_min he⟩
 ·exact⟨fun h _=>h,fun h=>h Om⟩
theorem rules_good{l a b:List UInt8}{P:List Edg}{m n:Int}{x y z:Bool}(hc:CutAt 62 l a b x)(ha:PartIs a m y)(hb:PartIs b n z)(h1:x=true)(h2:y=true)(h3:z=true)(h4:¬0≤orI (cmpI (lastE P).from_ m) (cmpI (lastE P).to_ n)):edgT ⟨m,n⟩=l∧EdIn ⟨m,n⟩∧orderI (lastE P) ⟨m,n⟩<0:=by
 subst h1 h2 h3
 obtain⟨h5,h6⟩:=word_edge hc ha hb
 exact⟨h5,h6,by show orI (cmpI (lastE P).from_ m) (cmpI (lastE P).to_ n)<0;omega⟩
def RulesIs(s:List UInt8)(P:List Edg)(E:Int):Prop:=(E=0∧RSays s P)∨(E=1∧P=[]∧∀Q,¬RSays s Q)
theorem rules_no{s a b:List UInt8}{P:List Edg}{k:Nat}{m n:Int}{x y z:Bool}(hs:s≠[])(hP:Pre s P k)(hk:k<(splitC 32 s).length)(hc:CutAt 62 ((splitC 32 s).getD k []) a b x)(ha:PartIs a m y)(hb:PartIs b n z)(h:x=false∨y=false∨z=false∨¬orderI (lastE P) ⟨m,n⟩<0):RulesIs s [] 1:=by
 refine .inr ⟨rfl,rfl,fun Q hQ=>?_⟩
 obtain⟨e,h1,h2,h3⟩:=hP.next hs hk hQ
 by_cases h4:x=false∨y=false∨z=false
 ·exact wordE_no hc ha hb h4 h1 h2
 ·simp only[not_or,Bool.not_eq_false] at h4
  obtain⟨rfl,rfl,rfl⟩:=h4
  obtain⟨h5,h6⟩:=word_edge hc ha hb
  have:e=⟨m,n⟩:=edgT_inj h2 h6 (h1.trans h5.symm)
  subst this
  rcases h with h|h|h|h
  ·cases h
  ·cases h
  ·cases h
  ·exact h ((lastE_lt hP.len h6).2 h3)
set_option maxHeartbeats 4000000 in
theorem deskRules_any(s:List UInt8)(hl:s.length≤1048576){w:World}(hL:Lay w):Calls Tryz.prog 7 #[.string (bstr s)] w fun e w'=>∃(P:List Edg) (A:Option Addr) (c:Nat) (E:Int),e=.returned (.tuple #[.agg #[.slice A P.length c],.int .i64 E])∧RulesIs s P E∧Below w.heap.size w w'∧OwnRes w w' (fun u=>May_ u A c P):=by
 have hsl:=splitC_len 32 s
 refine enter Tryz.func7 rfl Tryz.ntmps7 rfl fun a hF=>?_
 have hW:=Wd.start w NoB
 refine c_sr<|pe<|e_alloc hF hW ze_27 rfl rfl rfl fun b1 a wc hF hW=>pq 1 hF rfl fun a hF=>lts<|pe<|e_alloc hF hW ze_27 rfl rfl rfl fun b2 a wc hF hW=>l_nil<|t_n<|c_s<|c_sr<|pq 1 hF rfl fun a hF=>pv hF hW (y_eqB hF rfl rfl) fun a hF=>?_;refine Fr.splitD hF (fun h3 hF=>?_) (fun h3 hF=>?_);refine l_nil<|t_n<|c_t hF rfl<|c_sr<|pv hF hW (y_loadAll hF rfl 0 rfl Tryz.underlying27 rfl sz_27) fun a hF=>pe<|e_storeAll rfl hF hW rfl rfl 1 rfl rfl rfl Kr sz_27 fun wc hW=>pq 1 hF rfl fun a hF=>l_nil<|t_n<|wp_ret<|t_r<|ret2 Tryz.results7 hF (rv_c hF rfl hW 1 rfl Tryz.underlying27 rfl sz_27) (rv_t hF rfl) ?_
 exact⟨[],none,0,0,rfl,.inl ⟨rfl,by rw[show s=[] by assumption];exact rsays_nil⟩,hW.below,fun _ _=>Flat.nil_⟩
 refine l_nil<|t_n<|c_f hF rfl<|wp_skip<|t_n<|c_sr<|pv hF hW (y_build hF rfl (fun w=>bu_DskB_53_0 _ w)) fun a hF=>pe<|e_alloc hF hW ze_53 rfl rfl rfl fun b4 a wc hF hW=>?_;refine pe<|e_storeAll rfl hF hW rfl rfl 0 rfl rfl rfl Kr sz_53 fun wc hW=>l_nil<|t_n<|c_s<|c_sr<|pq 1 hF rfl fun a hF=>?_;refine pe (e_callA hF rfl rfl en_27 Rl (split_one s Om _) ?_);rintro e w1 ⟨bs,rfl,hge,hb,hB⟩;replace hW:=hW.addB hb hB hge;refine⟨_,rfl,fun a hF=>?_⟩;refine pq 2 hF rfl fun a hF=>l_nil<|t_n<|wp_block ?_;replace hW:=hW.nil_row 53 2;replace hW:=hW.fs [2,3,2] rfl;refine c_loop (G:=Nat×List Edg×Option Addr×Nat) (fun⟨k,P,A,c⟩=>[(22,.int .i64 (k:Int))]) (fun⟨k,P,A,c⟩=>[.row 53 2 (.slice A P.length c) P.length (P.flatMap Edg.cells),.blk b2 27 [.slice A P.length c],.blk b4 53 (lastE P).cells]) (fun⟨k,P,A,c⟩=>Pre s P k) (fun⟨k,P,A,c⟩=>(splitC 32 s).length - k) (0,[],none,0) (hF.ks [0,2,4,5,16,20,21] rfl) (Fr.cons hF (t:=22) rfl Rg (Fr.nil hF)) (hW) ?_ ?_
 exact pre_0 s
 clear hF hW
 try clear a
 intro gq a wc hC hF hW
 obtain⟨k,P,A,c⟩:=gq
 dsimp only at hC
 have hPre:=hC
 refine c_sr<|pq 1 hF rfl fun a hF=>?_;refine Fr.splitD hF (fun h5 hF=>?_) (fun h5 hF=>?_);refine l_nil<|t_n<|c_s<|c_t hF rfl<|wp_skip<|t_n<|c_s<|wp_block ?_
 have hk:k<(splitC 32 s).length:=Om
 have hPl:=hPre.len
 have hP16:=pol_small hPre.each hPre.incr
 have hwl:=piece_lenD s k
 refine c_sr<|pv hF hW (y_indexOwnS hF rfl rfl Od Tryz.underlying86 sz_9) fun a hF=>pv hF hW (y_loadOwn hF rfl 3 rfl (by rw[Nat.mul_one];exact piece_at s hk) Tryz.underlying9 rfl) fun a hF=>pq 1 hF rfl fun a hF=>lts<|pq 1 hF rfl fun a hF=>?_;refine pe (e_callA hF rfl rfl en_28 Rl (cut_any _ Om _) ?_);rintro e w1 ⟨wa,wb,hx,rfl,hb,hcut⟩;replace hW:=hW.kept hb;refine⟨_,rfl,fun a hF=>?_⟩;refine pq 7 hF rfl fun a hF=>lts<|pq 1 hF rfl fun a hF=>?_;refine pe (e_callA hF rfl rfl en_29 Rl (part_any wa (by have:=hcut.la;omega) (hL.wd hW)) ?_);rintro e w1 ⟨m,ix,rfl,hb,hpa⟩;replace hW:=hW.kept hb;refine⟨_,rfl,fun a hF=>?_⟩;refine pq 5 hF rfl fun a hF=>lts<|pq 1 hF rfl fun a hF=>?_;refine pe (e_callA hF rfl rfl en_29 Rl (part_any wb (by have:=hcut.lb;omega) (hL.wd hW)) ?_);rintro e w1 ⟨n,iy,rfl,hb,hpb⟩;replace hW:=hW.kept hb;refine⟨_,rfl,fun a hF=>?_⟩;refine pq 5 hF rfl fun a hF=>l_nil ?_;replace hF:=hF.ks [0,2,4,5,7,8,9,10,11,12,13,14,16,20,21,22,23] rfl;refine t_n<|c_s<|c_sd mixed_ok hW (hW) ?_
 clear hW;intro wc hW hS
 refine dq 1 [0] hF hS rfl fun a hF=>?_;refine Fr.splitB hF (fun h6 hF=>?_) (fun h6 hF=>?_);refine dq 2 [1,2] hF hS rfl fun a hF=>?_;replace hF:=hF.ff;refine dq 1 [3] hF hS rfl fun a hF=>?_;refine Fr.splitB hF (fun h7 hF=>?_) (fun h7 hF=>?_);refine dq 2 [4,5] hF hS rfl fun a hF=>?_;replace hF:=hF.ff;refine dq 1 [6] hF hS rfl fun a hF=>?_;replace hF:=hF.ff;refine dq 1 [7] hF hS rfl fun a hF=>?_;refine Fr.splitB hF (fun h8 hF=>?_) (fun h8 hF=>?_);refine dq 2 [8,9] hF hS rfl fun a hF=>?_;replace hF:=hF.ff;refine dq 1 [10] hF hS rfl fun a hF=>?_;replace hF:=hF.ff;refine dq 1 [11] hF hS rfl fun a hF=>dvg 12 rfl hF hS (y_loadOwn hF rfl 2 rfl rfl Tryz.underlying3 rfl) (ws hF rfl rfl) fun a hF=>dq 2 [13,15] hF hS rfl fun a hF=>dvg 16 rfl hF hS (y_loadOwn hF rfl 2 rfl rfl Tryz.underlying3 rfl) (ws hF rfl rfl) fun a hF=>dq 1 [17] hF hS rfl fun a hF=>d_1 14 Kr ?_;refine d_op rfl (ws hF rfl rfl) (e_callK hF hW rfl rfl en_31 Rl (compare_any _ _ _) ?_);intro a w1 hW hF;refine ai hW fun hS=>d_1 18 Kr ?_;refine d_op rfl (ws hF rfl rfl) (e_callK hF hW rfl rfl en_31 Rl (compare_any _ _ _) ?_);intro a w1 hW hF;refine ai hW fun hS=>d_1 19 Kr ?_;refine d_op rfl (ws hF rfl rfl) (e_buildSlice hF hW rfl (fun w=>bs_DskB_41_2_0_1 _ _ w) rfl rfl rfl ?_);intro b9 a wc hF hW;refine ai (hW.del 0 rfl) fun hS=>d_1 20 Kr ?_;refine d_op rfl (ws hF rfl rfl) (e_callK hF hW rfl rfl en_30 Rl (or_two (hW.blk 0 rfl)) ?_);intro a w1 hW hF;refine ai (hW.del 0 rfl) fun hS=>dq 1 [21] hF hS rfl fun a hF=>?_;refine Fr.splitD hF (fun h10 hF=>?_) (fun h10 hF=>?_);refine dq 1 [22] hF hS rfl fun a hF=>?_;clear hS;refine d_nil Kr ?_;replace hF:=hF.ks [0,2,4,5,7,8,9,10,11,12,13,14,16,20,21,22,23,64] rfl;refine t_n<|c_t hF rfl<|c_sr<|pv hF hW (y_build hF rfl (fun w=>bu_DskB_27_ w)) fun a hF=>?_;refine pe<|e_storeAll rfl hF hW rfl rfl 5 rfl rfl rfl Kr sz_27 fun wc hW=>pq 1 hF rfl fun a hF=>l_nil<|t_n<|wp_ret<|t_r<|b_r<|t_r<|t_r<|b_r<|t_r<|ret2 Tryz.results7 hF (rv_c hF rfl hW 5 rfl Tryz.underlying27 rfl sz_27) (rv_t hF rfl) ?_
 exact⟨[],none,0,1,rfl,rules_no Am hPre hk hcut hpa hpb (.inr (.inr (.inr (by show¬orI (cmpI (lastE P).from_ m) (cmpI (lastE P).to_ n)<0;omega)))),hW.below,fun _ _=>Flat.nil_⟩
 refine dq 1 [22] hF hS rfl fun a hF=>?_;clear hS;refine d_nil Kr ?_;replace hF:=hF.ks [0,2,4,5,7,8,9,10,11,12,13,14,16,20,21,22,23,64] rfl;refine t_n<|c_f hF rfl<|wp_skip<|t_n ?_
 have hgood:=rules_good (P:=P) hcut hpa hpb Am Am Am Am
 refine c_sr<|pq 2 hF rfl fun a hF=>pv hF hW (y_build hF rfl (fun w=>bu_DskB_53_0_1 _ _ w)) fun a hF=>?_;refine pe<|e_storeAll rfl hF hW rfl rfl 3 rfl rfl rfl Kr sz_53 fun wc hW=>ltr<|pq 1 hF rfl fun a hF=>pv hF hW (y_loadOwn hF rfl 2 rfl rfl Tryz.underlying25 rfl) fun a hF=>pv hF hW (y_loadAll hF rfl 3 rfl Tryz.underlying53 rfl sz_53) fun a hF=>pe<|e_buildSlice hF hW rfl (fun w=>bs_DskB_25_1_0 _ _ w) rfl rfl rfl fun b11 a wc hF hW=>pe<|e_append hF hW 2 rfl rfl rfl Tryz.underlying25 inf_53 rfl Dc (rowAt_blk (hW.blk 0 rfl) 2 1 rfl) Oc (show _=(P++[Edg.mk m n]).length by simp) (show _=(P++[Edg.mk m n]).flatMap Edg.cells by simp[Edg.cells]) Ox Ml rfl rfl fun A12 c13 a wc hF hW=>pq 1 hF rfl fun a hF=>pe<|e_store rfl hF hW rfl rfl 3 rfl rfl rfl sz_25 fun wc hW=>l_nil<|b_n<|t_n<|c_r<|pv hF hW (y_add hF rfl rfl (IntWalk.i64_in _ Om)) fun a hF=>pq 1 hF rfl fun a hF=>l_nil ?_;replace hW:=hW.ds [0,0] rfl;refine t_n ?_;refine⟨(k+1,P++[⟨m,n⟩],A12,c13),?_,?_,?_,?_⟩
 exact hPre.snoc hk hgood.1 hgood.2.1 ((lastE_lt hPre.len hgood.2.1).1 hgood.2.2)
 first|omega|(dsimp only;omega)
 exact hF.a1 rfl rfl
 exact by dsimp only;rw[lastE_snoc];exact hW
 refine dq 2 [8,9] hF hS rfl fun a hF=>?_;replace hF:=hF.tt;refine dq 1 [10] hF hS rfl fun a hF=>?_;replace hF:=hF.tt;refine dq 12 [11,12,13,14,15,16,17,18,19,20,21,22] hF hS rfl fun a hF=>?_;clear hS;refine d_nil Kr ?_;replace hF:=hF.ks [0,2,4,5,7,8,9,10,11,12,13,14,16,20,21,22,23,64] rfl;refine t_n<|c_t hF rfl<|c_sr<|pv hF hW (y_build hF rfl (fun w=>bu_DskB_27_ w)) fun a hF=>?_;refine pe<|e_storeAll rfl hF hW rfl rfl 4 rfl rfl rfl Kr sz_27 fun wc hW=>pq 1 hF rfl fun a hF=>l_nil<|t_n<|wp_ret<|t_r<|b_r<|t_r<|t_r<|b_r<|t_r<|ret2 Tryz.results7 hF (rv_c hF rfl hW 4 rfl Tryz.underlying27 rfl sz_27) (rv_t hF rfl) ?_
 exact⟨[],none,0,1,rfl,rules_no Am hPre hk hcut hpa hpb (by simp_all),hW.below,fun _ _=>Flat.nil_⟩
 refine dq 2 [4,5] hF hS rfl fun a hF=>?_;replace hF:=hF.tt;refine dq 1 [6] hF hS rfl fun a hF=>?_;replace hF:=hF.tt;refine dq 16 [7,8,9,10,11,12,13,14,15,16,17,18,19,20,21,22] hF hS rfl fun a hF=>?_;clear hS;refine d_nil Kr ?_;replace hF:=hF.ks [0,2,4,5,7,8,9,10,11,12,13,14,16,20,21,22,23,64] rfl;refine t_n<|c_t hF rfl<|c_sr<|pv hF hW (y_build hF rfl (fun w=>bu_DskB_27_ w)) fun a hF=>?_;refine pe<|e_storeAll rfl hF hW rfl rfl 4 rfl rfl rfl Kr sz_27 fun wc hW=>pq 1 hF rfl fun a hF=>l_nil<|t_n<|wp_ret<|t_r<|b_r<|t_r<|t_r<|b_r<|t_r<|ret2 Tryz.results7 hF (rv_c hF rfl hW 4 rfl Tryz.underlying27 rfl sz_27) (rv_t hF rfl) ?_
 exact⟨[],none,0,1,rfl,rules_no Am hPre hk hcut hpa hpb (by simp_all),hW.below,fun _ _=>Flat.nil_⟩
 refine dq 2 [1,2] hF hS rfl fun a hF=>?_;replace hF:=hF.tt;refine dq 20 [3,4,5,6,7,8,9,10,11,12,13,14,15,16,17,18,19,20,21,22] hF hS rfl fun a hF=>?_;clear hS;refine d_nil Kr ?_;replace hF:=hF.ks [0,2,4,5,7,8,9,10,11,12,13,14,16,20,21,22,23,64] rfl;refine t_n<|c_t hF rfl<|c_sr<|pv hF hW (y_build hF rfl (fun w=>bu_DskB_27_ w)) fun a hF=>?_;refine pe<|e_storeAll rfl hF hW rfl rfl 4 rfl rfl rfl Kr sz_27 fun wc hW=>pq 1 hF rfl fun a hF=>l_nil<|t_n<|wp_ret<|t_r<|b_r<|t_r<|t_r<|b_r<|t_r<|ret2 Tryz.results7 hF (rv_c hF rfl hW 4 rfl Tryz.underlying27 rfl sz_27) (rv_t hF rfl) ?_
 exact⟨[],none,0,1,rfl,rules_no Am hPre hk hcut hpa hpb (by simp_all),hW.below,fun _ _=>Flat.nil_⟩
 refine l_nil<|t_n<|c_s<|c_f hF rfl<|wp_exit<|t_x<|t_x<|b_h<|t_n<|c_sr<|pv hF hW (y_loadAll hF rfl 1 rfl Tryz.underlying27 rfl sz_27) fun a hF=>pe<|e_storeAll rfl hF hW rfl rfl 4 rfl rfl rfl Kr sz_27 fun wc hW=>pq 1 hF rfl fun a hF=>l_nil<|t_n<|wp_ret<|ret2 Tryz.results7 hF (rv_c hF rfl hW 4 rfl Tryz.underlying27 rfl sz_27) (rv_t hF rfl) ?_;replace hW:=hW.ds [1,1,1,1] rfl
 focus
  exact⟨P,A,c,0,rfl,.inl ⟨rfl,hPre.done Om⟩,hW.below,((hW.row_res 0 rfl).res_res 0 rfl).mono fun u h=>Flat.of_own h rfl⟩
end Go.Proofs.YtndcjmopebcdgaaGreatDoor
