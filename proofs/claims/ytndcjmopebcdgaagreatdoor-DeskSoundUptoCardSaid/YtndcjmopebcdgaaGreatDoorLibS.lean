/- strings.Split at one byte, strings.Join, strconv.Itoa and Atoi, as this dump's calls find them; what of package variables they read. -/
import Derived.Test.YtndcjmopebcdgaaGreatDoorSkB
import Derived.Test.YtndcjmopebcdgaaGreatDoorLayS
import Derived.Shelf.Strings.SplitCore
import Derived.Shelf.Strings.Search3
import Derived.Shelf.Strings.Count
import Derived.Shelf.Strings.OnBuilder
import Derived.Shelf.Strconv.Itoa3
import Derived.Shelf.Strconv.ErrVarAll
import Derived.Lib.SplitLaws
import Derived.Lib.SmallJoins
import Derived.Lib.AppendIntMem
import Derived.Lib.AtoiAllCases
set_option linter.unusedSimpArgs false
set_option linter.unusedVariables false
namespace Go.Proofs.YtndcjmopebcdgaaGreatDoor
open Go.ChangeShapes Go.WideShapes Go.ChangeAt Go.RowKit
set_option maxRecDepth 100000
def splitC(c:UInt8):List UInt8→List (List UInt8)
 |[]=>[[]]
 |b::l=>if b=c then []::splitC c l else match splitC c l with
  |[]=>[[b]]
  |p::r=>(b::p)::r
theorem splitC_ne(c:UInt8)(l:List UInt8):splitC c l≠[]:=by
 cases l with
 |nil=>simp[splitC]
 |cons b l=>
  unfold splitC
  split
  ·simp
  ·split<;>simp
theorem splitC_none{c:UInt8}:∀{l:List UInt8},c∉l→splitC c l=[l]
 |[],_=>rfl
 |b::l,h=>by
  have h1:b≠c:=fun e=>h (e▸List.mem_cons_self)
  have h2:c∉l:=fun e=>h (List.mem_cons_of_mem _ e)
  rw[splitC,if_neg h1,splitC_none h2]
theorem splitC_app{c:UInt8}:∀{p:List UInt8} (r:List UInt8),c∉p→splitC c (p++c::r)=p::splitC c r
 |[],r,_=>by rw[List.nil_append,splitC,if_pos rfl]
 |b::l,r,h=>by
  have h1:b≠c:=fun e=>h (e▸List.mem_cons_self)
  have h2:c∉l:=fun e=>h (List.mem_cons_of_mem _ e)
  rw[List.cons_append,splitC,if_neg h1,splitC_app r h2]
theorem splitC_len(c:UInt8):∀l:List UInt8,(splitC c l).length≤l.length+1
 |[]=>Nat.le_refl _
 |b::l=>by
  have:=splitC_len c l
  unfold splitC
  split
  ·simp only[List.length_cons];omega
  ·split
   ·simp
   ·rename_i p r e
    rw[e] at this
    simp only[List.length_cons] at this⊢
    omega
theorem split_eq(c:UInt8):∀l:List UInt8,Lib.split l [c]=splitC c l
 |[]=>by
  unfold Lib.split splitC
  rw[Lib.count_one]
  rfl
 |b::l=>by
  have ih:=split_eq c l
  unfold Lib.split at ih⊢
  by_cases h:b=c
  ·subst h
   rw[Lib.count_cons_eq,Nat.add_comm,splitC,if_pos rfl,←ih,Lib.splitK]
   have hi:Lib.index (b::l) [b]=0:=by rw[Lib.index];simp[List.isPrefixOf]
   rw[hi]
   simp
  ·rw[Lib.count_cons_ne b c l h,splitC,if_neg h,←ih]
   have hp:([c]:List UInt8).isPrefixOf (b::l)=false:=by simp[List.isPrefixOf,Ne.symm h]
   have hix:Lib.index (b::l) [c]=if Lib.index l [c]== -1 then -1 else Lib.index l [c]+1:=by rw[Lib.index,hp];simp
   cases hc:Lib.count l [c] with
   |zero=>rfl
   |succ k=>
    rw[Lib.splitK,Lib.splitK,hix]
    by_cases h1:Lib.index l [c]= -1
    ·simp[h1]
    ·have h2:=Lib.index_ge l [c]
     obtain⟨j,hj⟩:∃j:Nat,Lib.index l [c]=j:=⟨(Lib.index l [c]).toNat,by omega⟩
     have h3:((j:Int)== -1)=false:=by first|(simp;done)|(simp;omega)
     have h4:((j:Int)+1== -1)=false:=by first|(simp;done)|(simp;omega)
     simp only[hj,h3,h4,Bool.false_eq_true,if_false,Int.toNat_natCast,show((j:Int)+1).toNat=j+1 by omega]
     rfl
structure Lay(w:World):Prop where
 tab:Lib.TabIs Tryz.prog w "internal/strconv.uint64pow10" .u64 Lib.pow10Tab
 syn:∃tp p,w.var? Tryz.prog "strconv.ErrSyntax" =some #[.iface tp p]
 rng:∃tp p,w.var? Tryz.prog "strconv.ErrRange" =some #[.iface tp p]
theorem Lay.mono{w w':World}(h:Lay w)(hb:Below w.heap.size w w'):Lay w':=
 ⟨Joins.tab_stays lay_LaysM_n171.m17 h.tab hb (Nat.le_refl _),h.syn.imp fun _=>.imp fun _ e=>Joins.var_stays lay_LaysC_n172.m15 e hb (Nat.le_refl _),h.rng.imp fun _=>.imp fun _ e=>Joins.var_stays lay_LaysC_n172.m16 e hb (Nat.le_refl _)⟩
theorem Lay.wd{w0 w:World}{es:List Asn}(h:Lay w0)(hW:Wd w0 NoB es w):Lay w:=h.mono hW.below
theorem bstr_eta(s:ByteArray):bstr s.data.toList=s:=by
 apply ByteArray.ext
 simp[bstr]
theorem split_one(l:List UInt8)(hl:l.length<4294967281)(w:World):Calls Tryz.prog 27 #[.string (bstr l),.string (bstr [32])] w fun e w'=>
  ∃b,e=.returned (.slice (some ⟨b,0,none⟩) (splitC 32 l).length (splitC 32 l).length)∧w.heap.size≤b∧Below w.heap.size w w'∧Blk w' b 9 ((splitC 32 l).map fun x=>.string (bstr x)):=by
 have h1:1≤(bstr [32]).size:=Nat.le_refl _
 have hcb:Lib.countB (bstr l) (bstr [32])+1=(splitC 32 l).length:=by
  have:=Lib.splitB_all (bstr [32]) h1 0 _ (bstr l) rfl
  rw[←split_eq,←this]
  have:=congrArg List.length (Lib.splitB_data (bstr [32]) 0 (Lib.countB (bstr l) (bstr [32])) (bstr l))
  rw[List.length_map] at this
  exact this
 have hle:=splitC_len 32 l
 have hsp:(Lib.splitB (bstr [32]) 0 (Lib.countB (bstr l) (bstr [32])) (bstr l)).map Value.string=(splitC 32 l).map fun x=>.string (bstr x):=by
  have:=Lib.splitB_data (bstr [32]) 0 (Lib.countB (bstr l) (bstr [32])) (bstr l)
  have h2:Lib.splitK (bstr [32]).data.toList 0 (Lib.countB (bstr l) (bstr [32])) (bstr l).data.toList=splitC 32 l:=split_eq 32 l
  rw[←h2,←this,List.map_map]
  apply List.map_congr_left
  intro x _
  show _=Value.string (bstr x.data.toList)
  rw[bstr_eta]
 have c:=Any.strings_genSplit_core (P:=Tryz.prog) (ρ:=lay_ren) lay_221 Kr (bstr l) (bstr [32]) 0 (-1) (splitC 32 l).length w hl h1 (Nat.zero_le _)
  (fun x c _=>(Any.strings_Index_one lay_143 x 32 _).mono fun e w' h=>by rw[h.1,h.2];exact⟨by
   show _=Ending.returned (Value.int .i64 (Lib.index x.data.toList [32]))
   rw[Lib.index_one],rfl⟩)
  ((Any.strings_Count_one lay_138 (bstr l) 32 w).mono fun e w' h=>by rw[h.1,h.2];exact⟨by
   show Ending.returned (Value.int .i64 (Lib.countByte l 32))=Ending.returned (Value.int .i64 (Lib.count l [32]))
   rw[Lib.count_one]
   rfl,rfl⟩)
  Dc Dc (by rw[if_pos Dc];simp only[bstr_size];omega)
 rw[show(splitC 32 l).length - 1=Lib.countB (bstr l) (bstr [32]) by omega] at c
 have hlen:(Lib.splitB (bstr [32]) 0 (Lib.countB (bstr l) (bstr [32])) (bstr l)).length=(splitC 32 l).length:=by rw[←hcb];exact Lib.splitB_all _ h1 0 _ _ rfl
 have hco:Lib.cellsOf (Lib.splitB (bstr [32]) 0 (Lib.countB (bstr l) (bstr [32])) (bstr l)) (splitC 32 l).length=((splitC 32 l).map fun x=>Value.string (bstr x)).toArray:=by rw[←hlen,Lib.cellsOf_full,hsp]
 rw[hco,hlen] at c
 have en:∀args w,(callFunc 77 args).run Tryz.prog w=.ok (.enter 77 args) w:=enters_of Tryz.func77 Kr rfl
 have ec:((splitC 32 l).map fun x=>Value.string (bstr x)).toArray.toList=(splitC 32 l).map fun x=>.string (bstr x):=rfl
 generalize ((splitC 32 l).map fun x=>Value.string (bstr x)).toArray=arr at c ec
 go_enter Tryz.func27,Tryz.ntmps27
 go_wp2_with (go_at_fn 77;refine c.mono ?_;rintro e w' ⟨rfl,hw⟩;rw[hw])
 go_ret
 refine⟨_,rfl,Nat.le_refl _,(Below.refl _ _).alloc1 _,?_⟩
 rw[←ec]
 exact Blk.new w arr 9
theorem itoa_own{w:World}(hL:Lay w)(n:Int)(h0: -9223372036854775808≤n)(h1:n≤9223372036854775807):
  Calls Tryz.prog 65 #[.int .i64 n] w fun e w'=>e=.returned (.string (bstr (Lib.itoa n)))∧Below w.heap.size w w':=
 (Any.strconv_Itoa (P:=Tryz.prog) (ρ:=lay_ren) lay_LaysM_n171 n h0 h1 w hL.tab).mono fun e w' ⟨he,k,os,hw⟩=>⟨he,by subst hw;exact Lib.below_grow _ w (Nat.le_refl _) k os⟩
theorem atoi_own{w:World}(hL:Lay w)(l:List UInt8)(hl:l.length≤281474976710656):
  Calls Tryz.prog 79 #[.string (bstr l)] w fun e w'=>∃m v,e=.returned (.tuple #[.int .i64 m,v])∧Below w.heap.size w w'∧(v=.nilIface∨∃T p,v=.iface T (.pointer p))∧(isIf v=false→Lib.atoiAll l=.ok m)∧(isIf v=true→∀z,Lib.atoiAll l≠.ok z):=by
 rcases h:Lib.atoiAll l with v|_|_
 ·refine(Any.strconv_Atoi_ok (P:=Tryz.prog) (ρ:=lay_ren) lay_LaysC_n172 (bstr l) (by rw[bstr_size];omega) v h w).mono ?_
  rintro e w' ⟨rfl,hw⟩
  refine⟨v,_,rfl,?_,.inl rfl,fun _=>rfl,fun h=>by cases h⟩
  rcases hw with rfl|⟨t,rfl⟩
  ·exact Below.refl _ _
  ·exact Lib.bytesWorld_below _ _ _
 ·obtain⟨tp,p,hv⟩:=hL.syn
  refine(Any.strconv_Atoi_syntax_var (P:=Tryz.prog) (ρ:=lay_ren) lay_LaysC_n172 (bstr l) (by rw[bstr_size];omega) h tp p w hv).mono ?_
  rintro e w' ⟨N,rfl,-,-,hb⟩
  exact⟨_,_,rfl,hb,.inr ⟨_,_,rfl⟩,fun h=>by simp[isIf] at h,fun _ z hz=>by simp at hz⟩
 ·obtain⟨tp,p,hv⟩:=hL.rng
  refine(Any.strconv_Atoi_range_var (P:=Tryz.prog) (ρ:=lay_ren) lay_LaysC_n172 (bstr l) (by rw[bstr_size];omega) h tp p w hv).mono ?_
  rintro e w' ⟨N,rfl,-,-,hb⟩
  exact⟨_,_,rfl,hb,.inr ⟨_,_,rfl⟩,fun h=>by simp[isIf] at h,fun _ z hz=>by simp at hz⟩
end Go.Proofs.YtndcjmopebcdgaaGreatDoor
