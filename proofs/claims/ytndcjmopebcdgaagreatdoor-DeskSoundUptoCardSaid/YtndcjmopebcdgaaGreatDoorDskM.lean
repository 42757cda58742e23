/- Plain: the lines of a judgement; what a partition tells hangs on none that may not have a say. -/
import Derived.Test.YtndcjmopebcdgaaGreatDoorDskJ
import Derived.Test.YtndcjmopebcdgaaGreatDoorSkI
import Derived.Test.YtndcjmopebcdgaaGreatDoorSkJ
import Derived.Test.YtndcjmopebcdgaaGreatDoorSchedB1
set_option linter.unusedSimpArgs false
set_option linter.unusedVariables false
namespace Go.Proofs.YtndcjmopebcdgaaGreatDoor
open Go.ChangeShapes Go.WideShapes Go.ChangeAt Go.RowKit
set_option maxRecDepth 100000
def lineAux:List UInt8→Nat→List UInt8→List UInt8
 |_,_,[]=>[]
 |p,0,b::r=>if b=10 then p else lineAux (p++[b]) 0 r
 |p,n+1,b::r=>if b=10 then lineAux [] n r else lineAux (p++[b]) (n+1) r
theorem lineAux_0(r:List UInt8):∀(w p:List UInt8),(10:UInt8)∉w→lineAux p 0 (w++10::r)=p++w
 |[],p,_=>by rw[List.nil_append,lineAux,if_pos rfl,List.append_nil]
 |b::w,p,h=>by
  rw[List.cons_append,lineAux,if_neg fun e=>h (by rw[e];exact List.mem_cons_self),lineAux_0 r w _ fun hm=>h (List.mem_cons_of_mem _ hm),List.append_assoc]
  rfl
theorem lineAux_s(r:List UInt8)(n:Nat):∀(w p:List UInt8),(10:UInt8)∉w→lineAux p (n+1) (w++10::r)=lineAux [] n r
 |[],p,_=>by rw[List.nil_append,lineAux,if_pos rfl]
 |b::w,p,h=>by rw[List.cons_append,lineAux,if_neg fun e=>h (by rw[e];exact List.mem_cons_self),lineAux_s r n w _ fun hm=>h (List.mem_cons_of_mem _ hm)]
theorem listT_no(M:List Int):(10:UInt8)∉listT M:=fun h=>by
 obtain⟨n,-,hm⟩:=List.mem_flatMap.1 h
 rcases List.mem_cons.1 hm with h2|h2
 ·cases h2
 ·rcases itoa_chars h2 with h3|h3
  ·cases h3
  ·exact absurd h3.1 Dc
theorem endL_no(n:Int):(10:UInt8)∉endL n:=by
 unfold endL
 split
 ·decide
 ·split<;>decide
theorem app_no{a b:List UInt8}(ha:(10:UInt8)∉a)(hb:(10:UInt8)∉b):(10:UInt8)∉a++b:=fun h=>(List.mem_append.1 h).elim ha hb
theorem lineT_eq(wd:List UInt8)(M:List Int)(r:List UInt8):lineT wd M++r=(wd++listT M)++10::r:=by simp[lineT]
theorem line_cells:∀(W:List Cel) (k:Nat),k<W.length→lineAux [] k (cellsT W)=endL (W.getD k Cel.zero).end_++listT (W.getD k Cel.zero).out
 |[],k,h=>absurd h (Nat.not_lt_zero k)
 |c::W,0,_=>by
  show lineAux [] 0 (lineT (endL c.end_) c.out++cellsT W)=_
  rw[lineT_eq,lineAux_0 _ _ _ (app_no (endL_no _) (listT_no _)),List.nil_append]
  rfl
 |c::W,k+1,h=>by
  show lineAux [] (k+1) (lineT (endL c.end_) c.out++cellsT W)=_
  rw[lineT_eq,lineAux_s _ _ _ _ (app_no (endL_no _) (listT_no _)),line_cells W k (by rw[List.length_cons] at h;omega)]
  rfl
theorem line_told(W:Wrl){u:Nat}(hu:u<W.cells.length):lineAux [] (u+1) (deskTxt true [] W)=endL (W.cells.getD u Cel.zero).end_++listT (W.cells.getD u Cel.zero).out:=by
 show lineAux [] (u+1) (lineT [115,111,117,110,100] []++cellsT W.cells)=_
 rw[lineT_eq,lineAux_s _ _ _ _ Dc,line_cells _ _ hu]
theorem line_first(W:Wrl):lineAux [] 0 (deskTxt true [] W)=[115,111,117,110,100]:=by
 show lineAux [] 0 (lineT [115,111,117,110,100] []++cellsT W.cells)=_
 rw[lineT_eq,lineAux_0 _ _ _ Dc]
 rfl
theorem deskTxt_len{W:Wrl}(h:∀c,c∈W.cells→NumIn c.out∧c.out.length≤16)(h4:W.cells.length≤4):(deskTxt true [] W).length≤2000:=by
 show(lineT [115,111,117,110,100] []++cellsT W.cells).length≤_
 have:=cellsT_len h
 have e:(lineT [115,111,117,110,100] []).length=6:=rfl
 rw[List.length_append]
 omega
theorem may_not{cs:List Chn}{n u v:Nat}{P:List Edg}(h:∀u v,u<n→v<n→badB cs n P u v=false)(hu:u<n)(hv:v<n)(hne:u≠v)(hP:∀k,k<P.length→¬((P.getD k E0).from_=(v:Int)∧(P.getD k E0).to_=(u:Int))):rch cs n v u=false:=by
 have h1:=h v u hv hu
 have h2:edgeIn P v u=false:=by
  unfold edgeIn
  rw[List.any_eq_false]
  intro e he
  obtain⟨k,hk,rfl⟩:=List.getElem_of_mem he
  have:=hP k hk
  rw[List.getD,List.getElem?_eq_getElem hk,Option.getD_some] at this
  simpa using this
 have h3:decide ((v:Int)=(u:Int))=false:=decide_eq_false Om
 unfold badB mayB at h1
 rw[h2,h3] at h1
 simpa using h1
theorem other_cell{s:Sys}{u v n:Nat}{q:Prt}(hk:chkSys s=0)(hk':chkSys (otherSys s v q)=0)(hu:u<s.parts.length)(hv:v<s.parts.length)(hr:rch s.chans s.parts.length v u=false)(hn:n≤300):(runW s n).cells.getD u Cel.zero=(runW (otherSys s v q) n).cells.getD u Cel.zero:=
 (agree_run hk hk' ⟨rfl,rfl,by simp[otherSys],fun m hm=>getD_set_no fun h=>by
  subst h
  rw[(rch_iff hv hu).2 hm.2] at hr
  cases hr⟩ rchs_shut n hn).cells u (rchs_self hu)
theorem sizes_of{s:Sys}(h:chkSys s=0):1≤s.parts.length∧s.parts.length≤4:=by
 obtain⟨h1,-⟩:=chkSys_zero h
 simp only[sizesOk,Bool.and_eq_true] at h1
 have:=of_decide_eq_true h1.1
 omega
theorem read_ofD{s:Sys}(h:chkSys s=0)(hr:SysR s)(hl:(imgL s).length≤8192):readTo (imgL s)=s∧readErr (imgL s)=0:=by
 unfold readTo readErr
 rw[if_neg Om,if_neg Om,read_img h hr]
 exact⟨rfl,rfl⟩
theorem sound_judge{s:Sys}{P:List Edg}{rules:List UInt8}{n:Int}(hk:chkSys s=0)(hr:SysR s)(hl:(imgL s).length≤8192)(hP:RSays rules P)(hc:certErr s P=0)(hb:∀u v,u<s.parts.length→v<s.parts.length→badB s.chans s.parts.length P u v=false)(hn:0≤n∧n≤300):
  JudgeIs (imgL s) rules n (deskTxt true [] (runW s n.toNat)) 0:=by
 obtain⟨h1,h2⟩:=read_ofD hk hr hl
 refine .inr ⟨h2,.inr ⟨P,hP,.inr ?_⟩⟩
 rw[h1]
 exact⟨hc,.inr ⟨hn,rfl,true,[],_,.inl ⟨rfl,hb,rfl,rfl⟩,rfl⟩⟩
structure Alone(s t:Sys)(rules:List UInt8)(n:Int)(u:Nat):Prop where
 a:∀(_:(imgL s).length≤8192),JudgeIs (imgL s) rules n (deskTxt true [] (runW s n.toNat)) 0∧(deskTxt true [] (runW s n.toNat)).length≤2000
 b:∀(_:(imgL t).length≤8192),JudgeIs (imgL t) rules n (deskTxt true [] (runW t n.toNat)) 0∧(deskTxt true [] (runW t n.toNat)).length≤2000
 line:lineAux [] (u+1) (deskTxt true [] (runW s n.toNat))=lineAux [] (u+1) (deskTxt true [] (runW t n.toNat))
theorem sysIn_of{s:Sys}(h:SysR s):SysIn s:=fun p hp=>⟨(h p hp).1,(h p hp).2⟩
theorem alone{s:Sys}{P:List Edg}{rules:List UInt8}{n:Int}{u v:Nat}{q:Prt}{S:List (List Int)}{L:List Int}(hk:chkSys s=0)(hk':chkSys (otherSys s v q)=0)(hr:SysR s)(hq:(∀i,i∈q.code→I64 i.n)∧∀n,n∈q.inp→I64 n)
  (hP:RSays rules P) (hc:certErr s P=0) (hI:CertIs s.chans s.parts.length P true L S) (hn:0≤n∧n≤300) (hu:u<s.parts.length) (hv:v<s.parts.length) (hne:u≠v) (hno:∀k,k<P.length→¬((P.getD k E0).from_=(v:Int)∧(P.getD k E0).to_=(u:Int))):Alone s (otherSys s v q) rules n u:=by
 have hlen:(otherSys s v q).parts.length=s.parts.length:=by simp[otherSys]
 have hb:∀u v,u<s.parts.length→v<s.parts.length→badB s.chans s.parts.length P u v=false:=by
  rcases hI with⟨-,h,-⟩|⟨h,-⟩
  ·exact h
  ·cases h
 have hr':SysR (otherSys s v q):=fun p hp=>by
  rcases List.mem_or_eq_of_mem_set hp with h1|h1
  ·exact hr p h1
  ·rw[h1];exact hq
 have hc':certErr (otherSys s v q) P=0:=by
  unfold certErr at hc⊢
  rw[if_pos hk] at hc
  rw[if_pos hk',hlen]
  exact hc
 have hnn:n.toNat≤300:=by omega
 have hsh:∀t:Sys,chkSys t=0→SysR t→∀c,c∈(runW t n.toNat).cells→NumIn c.out∧c.out.length≤16:=fun t ht hrt c hcm=>⟨((runW_in (sysIn_of hrt) n.toNat).cells c hcm).out,(run_short ht n.toNat hnn c hcm).1⟩
 have hcl:=(runW_right hk n.toNat hnn).1.cl
 have hcl':=(runW_right hk' n.toNat hnn).1.cl
 have h4:=(sizes_of hk).2
 have h4':=(sizes_of hk').2
 refine⟨fun hl=>⟨sound_judge hk hr hl hP hc hb hn,deskTxt_len (hsh s hk hr) Om⟩,fun hl=>⟨sound_judge hk' hr' hl hP hc' (by rw[hlen];exact hb) hn,deskTxt_len (hsh _ hk' hr') Om⟩,?_⟩
 rw[line_told _ Om,line_told _ Om,other_cell hk hk' hu hv (may_not hb hu hv hne hno) hnn]
theorem drop_get{l:List UInt8}{i:Nat}(h:i<l.length):l.drop i=l.getD i 0::l.drop (i+1):=by
 rw[List.drop_eq_getElem_cons h,List.getD,List.getElem?_eq_getElem h]
 rfl
theorem seg_get{l:List UInt8}{i f:Nat}(h:i<l.length)(hf:f≤i):(l.drop f).take (i+1 - f)=(l.drop f).take (i - f)++[l.getD i 0]:=by
 rw[show i+1 - f=(i - f)+1 by omega,List.take_succ_eq_append_getElem (by rw[List.length_drop];omega),List.getElem_drop,List.getD,List.getElem?_eq_getElem h]
 congr 2
 show l[f+(i - f)]=l[i]
 congr 1
 omega
theorem line_on{l:List UInt8}{i f m:Nat}(h:i<l.length)(hf:f≤i)(hb:¬((l.getD i 0).toNat:Int)=10):lineAux ((l.drop f).take (i - f)) m (l.drop i)=lineAux ((l.drop f).take (i+1 - f)) m (l.drop (i+1)):=by
 have hne:¬l.getD i 0=10:=fun e=>hb (by rw[e];rfl)
 rw[drop_get h,seg_get h hf]
 cases m<;>rw[lineAux,if_neg hne]
theorem line_10{l:List UInt8}{i:Nat}(hb:((l.getD i 0).toNat:Int)=10):l.getD i 0=10:=UInt8.toNat_inj.1 (by show _=10;omega)
theorem line_at{l p:List UInt8}{i:Nat}(h:i<l.length)(hb:((l.getD i 0).toNat:Int)=10):lineAux p 0 (l.drop i)=p:=by rw[drop_get h,lineAux,if_pos (line_10 hb)]
theorem line_past{l p:List UInt8}{i m:Nat}(h:i<l.length)(hb:((l.getD i 0).toNat:Int)=10):lineAux p (m+1) (l.drop i)=lineAux ((l.drop (i+1)).take (i+1 - (i+1))) m (l.drop (i+1)):=by rw[drop_get h,lineAux,if_pos (line_10 hb),Nat.sub_self,List.take_zero]
set_option maxHeartbeats 4000000 in
theorem lineOf_any(l:List UInt8)(n:Nat)(hl:l.length≤2000)(hn:n≤10)(w:World):Calls Tryz.prog 15 #[.string (bstr l),.int .i64 (n:Int)] w fun e w'=>e=.returned (.string (bstr (lineAux [] n l)))∧Below w.heap.size w w':=by
 refine enter Tryz.func15 rfl Tryz.ntmps15 rfl fun a hF=>?_
 have hW:=Wd.start w NoB
 refine c_sr<|pq 1 hF rfl fun a hF=>lts<|pq 1 hF rfl fun a hF=>l_nil<|t_n<|c_s<|c_sr<|pq 1 hF rfl fun a hF=>l_nil<|t_n<|wp_block ?_;refine c_loop (G:=Nat×Nat×Nat) (fun⟨i,f,m⟩=>[(6,.int .i64 (i:Int)),(5,.int .i64 (f:Int)),(1,.int .i64 (m:Int))]) (fun⟨i,f,m⟩=>[]) (fun⟨i,f,m⟩=>i≤l.length∧f≤i∧m≤n∧lineAux [] n l=lineAux ((l.drop f).take (i - f)) m (l.drop i)) (fun⟨i,f,m⟩=>l.length - i) (0,0,n) (hF.ks [0] rfl) (Fr.cons hF (t:=6) rfl Rg (Fr.cons hF (t:=5) rfl Rg (Fr.cons hF (t:=1) rfl Rg (Fr.nil hF)))) (hW) ?_ ?_
 exact⟨Nat.zero_le _,Nat.le_refl _,Nat.le_refl _,rfl⟩
 clear hF hW
 try clear a
 intro gq a wc hC hF hW
 obtain⟨i,f,m⟩:=gq
 dsimp only at hC
 obtain⟨hil,hfi,hmn,hlin⟩:=hC
 refine c_s<|c_sr<|pq 2 hF rfl fun a hF=>pv hF hW (y_lenB hF rfl Tryz.underlying9) fun a hF=>pq 1 hF rfl fun a hF=>?_;refine Fr.splitD hF (fun h1 hF=>?_) (fun h1 hF=>?_);refine l_nil<|t_n<|c_t hF rfl<|wp_skip<|t_n<|c_s<|wp_block<|c_s ?_
 have hi:i<l.length:=Om
 refine c_sr<|pq 2 hF rfl fun a hF=>pv hF hW (y_indexStr hF rfl rfl Om Tryz.underlying9) fun a hF=>pv hF hW (y_neq hF rfl rfl) fun a hF=>?_;refine Fr.splitD hF (fun h2 hF=>?_) (fun h2 hF=>?_);refine l_nil<|t_n<|c_t hF rfl<|wp_exit<|t_x<|b_h<|t_n<|c_r<|pq 1 hF rfl fun a hF=>pv hF hW (y_add hF rfl rfl (IntWalk.i64_in _ Om)) fun a hF=>pq 1 hF rfl fun a hF=>l_nil<|t_n ?_;refine⟨(i+1,f,m),?_,?_,?_,?_⟩
 exact⟨by omega,by omega,hmn,by rw[hlin];exact line_on hi hfi Am⟩
 first|omega|(dsimp only;omega)
 focus
  exact Fr.app (Fr.cons hF (t:=6) rfl (by first|rfl|((try rfl);(try(simp;done));(try(congr 1;omega)))|(simp;done)|omega) (Fr.cons hF (t:=5) rfl (by first|rfl|((try rfl);(try(simp;done));(try(congr 1;omega)))|(simp;done)|omega) (Fr.cons hF (t:=1) rfl (by first|rfl|((try rfl);(try(simp;done));(try(congr 1;omega)))|(simp;done)|omega) (Fr.nil hF)))) (hF.ks [0] rfl)
 exact hW
 refine l_nil<|t_n<|c_f hF rfl<|wp_skip<|t_n<|c_s<|c_sr<|pq 2 hF rfl fun a hF=>?_;refine Fr.splitD hF (fun h3 hF=>?_) (fun h3 hF=>?_);refine l_nil<|t_n<|c_t hF rfl<|c_sr<|pq 3 hF rfl fun a hF=>pv hF hW (y_sliceStrLH hF rfl rfl rfl Om Om Tryz.underlying9) fun a hF=>pq 1 hF rfl fun a hF=>l_nil<|t_n<|wp_ret<|t_r<|b_r<|t_r<|t_r<|b_r<|t_r<|ret1 Tryz.results15 hF (rv_t hF rfl) ?_
 obtain rfl:m=0:=Om
 exact⟨by rw[hlin,line_at Om Om],hW.below⟩
 refine l_nil<|t_n<|c_f hF rfl<|wp_skip<|t_n ?_
 obtain⟨m',rfl⟩:∃k,m=k+1:=⟨m - 1,by omega⟩
 refine c_sr<|pq 1 hF rfl fun a hF=>pv hF hW (y_sub hF rfl rfl (IntWalk.i64_in _ Om)) fun a hF=>pq 1 hF rfl fun a hF=>ltr<|pq 1 hF rfl fun a hF=>pv hF hW (y_add hF rfl rfl (IntWalk.i64_in _ Om)) fun a hF=>pq 1 hF rfl fun a hF=>l_nil<|b_n<|t_n<|c_r<|pq 1 hF rfl fun a hF=>pv hF hW (y_add hF rfl rfl (IntWalk.i64_in _ Om)) fun a hF=>pq 1 hF rfl fun a hF=>l_nil<|t_n ?_;refine⟨(i+1,i+1,m'),?_,?_,?_,?_⟩
 exact⟨by omega,Nat.le_refl _,by omega,by rw[hlin];exact line_past hi Om⟩
 first|omega|(dsimp only;omega)
 focus
  exact Fr.app (Fr.cons hF (t:=6) rfl (by first|rfl|((try rfl);(try(simp;done));(try(congr 1;omega)))|(simp;done)|omega) (Fr.cons hF (t:=5) rfl (by first|rfl|((try rfl);(try(simp;done));(try(congr 1;omega)))|(simp;done)|omega) (Fr.cons hF (t:=1) rfl (by first|rfl|((try rfl);(try(simp;done));(try(congr 1;omega)))|(simp;done)|omega) (Fr.nil hF)))) (hF.ks [0] rfl)
 exact hW
 refine l_nil<|t_n<|c_f hF rfl<|wp_exit<|t_x<|t_x<|b_h<|t_n<|c_sr<|pq 1 hF rfl fun a hF=>l_nil<|t_n<|wp_ret<|ret1 Tryz.results15 hF (rv_t hF rfl) ?_
 exact⟨by rw[hlin,show l.drop i=[] from List.drop_eq_nil_of_le Om];cases m<;>rfl,hW.below⟩
end Go.Proofs.YtndcjmopebcdgaaGreatDoor
