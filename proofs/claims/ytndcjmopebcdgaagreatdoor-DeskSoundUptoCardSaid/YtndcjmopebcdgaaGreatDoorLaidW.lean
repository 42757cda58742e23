/- What a row's list of library variables gives, a world that meets it; instructions and strings among a law's arguments. -/
import Derived.Test.YtndcjmopebcdgaaGreatDoorRows
import Derived.Test.YtndcjmopebcdgaaGreatDoorSkF
import Derived.Deep.DeepHandedRow
import Derived.Deep.DeepWitnessRowRef
import Derived.Lib.LaidTab
import Derived.Stop.LaidErr
import Derived.ChangeMaps5
import Derived.ProofKit
import Derived.OpenShut
set_option linter.unusedSimpArgs false
set_option linter.unusedVariables false
namespace Go.Proofs.YtndcjmopebcdgaaGreatDoor
open Go.ChangeShapes Go.WideShapes Go.ChangeAt Go.RowKit
set_option maxRecDepth 100000
theorem star_err: "*" ++ "errors.errorString" = "*errors.errorString" :=by decide
theorem row_err(u:TypeId)(h:Tryz.prog.typeName? 3 u=some "*errors.errorString"):u=299:=
 typeName_ptr_named (nm:= "errors.errorString") (by rw[star_err];kernel_rfl) Kr Dc u (by rw[star_err];exact h)
theorem pow10_laid:(Rows.laid_internal_strconv_uint64pow10:DataW Unit)=Lib.tabData .u64 Lib.pow10Tab:=by kernel_rfl
abbrev laidL:List (String×DataW Unit):=[("math/bits.deBruijn32tab",Rows.laid_math_bits_deBruijn32tab),("math/bits.deBruijn64tab",Rows.laid_math_bits_deBruijn64tab),("internal/strconv.uint64pow10",Rows.laid_internal_strconv_uint64pow10),("unicode/utf8.acceptRanges",Rows.laid_unicode_utf8_acceptRanges),("strconv.ErrRange",Rows.laid_strconv_ErrRange),("strconv.ErrSyntax",Rows.laid_strconv_ErrSyntax),("unicode/utf8.first",Rows.laid_unicode_utf8_first)]
theorem lay_of_laid{W:World}(h:laidMetH Tryz.prog laidL W):Lay W:=by
 have h0:laidMet Tryz.prog laidL W:=h
 have h1:laidMet Tryz.prog (("internal/strconv.uint64pow10",Rows.laid_internal_strconv_uint64pow10)::[("unicode/utf8.acceptRanges",Rows.laid_unicode_utf8_acceptRanges),("strconv.ErrRange",Rows.laid_strconv_ErrRange),("strconv.ErrSyntax",Rows.laid_strconv_ErrSyntax),("unicode/utf8.first",Rows.laid_unicode_utf8_first)]) W:=h0.tail.tail
 have h2:laidMet Tryz.prog (("strconv.ErrRange",Rows.laid_strconv_ErrRange)::[("strconv.ErrSyntax",Rows.laid_strconv_ErrSyntax),("unicode/utf8.first",Rows.laid_unicode_utf8_first)]) W:=h1.tail.tail
 have h3:laidMet Tryz.prog (("strconv.ErrSyntax",Rows.laid_strconv_ErrSyntax)::[("unicode/utf8.first",Rows.laid_unicode_utf8_first)]) W:=h2.tail
 rw[pow10_laid] at h1
 obtain⟨a0,s0,hv0,-⟩:=laid_sentinel (g:=2) h2 Kr Kr Tryz.underlying150 row_err Tryz.underlying299 Tryz.underlying301 rfl rfl Tryz.underlying9 Kr Kr
 obtain⟨a1,s1,hv1,-⟩:=laid_sentinel (g:=1) h3 Kr Kr Tryz.underlying150 row_err Tryz.underlying299 Tryz.underlying301 rfl rfl Tryz.underlying9 Kr Kr
 exact⟨Lib.tabIs_of_head (g:=3) Kr Kr Tryz.underlying291 Tryz.underlying264 Kr Kr h1,⟨_,_,hv1⟩,⟨_,_,hv0⟩⟩
def cellsD:Nat→DataW Unit→List Value
 |0,_=>[]
 |n+1,.agg l=>l.flatMap (cellsD n)
 |_+1,.lit (.int k z)=>[.int k z]
 |_+1,_=>[]
noncomputable def laidWorld (os:Os):World:=
 let N:=(World.settled Tryz.prog os).heap.size
 let w0:=World.holding Tryz.prog os ⟨#[.cells #[.string ⟨#[118,97,108,117,101,32,111,117,116,32,111,102,32,114,97,110,103,101]⟩] 301,.cells #[.string ⟨#[105,110,118,97,108,105,100,32,115,121,110,116,97,120]⟩] 301],#[],[]⟩
 let put (h:Array Obj) (g:Nat) (cs:Array Value):Array Obj:=h.modify g fun
  | .cells _ t frozen=>.cells cs t frozen
  |o=>o
 let h0:=put (put w0.heap 2 #[.iface 299 (.pointer (some ⟨N,0,none⟩))]) 1 #[.iface 299 (.pointer (some ⟨N+1,0,none⟩))]
 let h1:=put h0 6 (cellsD 4 Rows.laid_math_bits_deBruijn32tab).toArray
 let h2:=put h1 7 (cellsD 4 Rows.laid_math_bits_deBruijn64tab).toArray
 let h3:=put h2 3 (cellsD 4 Rows.laid_internal_strconv_uint64pow10).toArray
 let h4:=put h3 5 (cellsD 4 Rows.laid_unicode_utf8_acceptRanges).toArray
 let h5:=put h4 4 (cellsD 4 Rows.laid_unicode_utf8_first).toArray
 {w0 with heap:=h5}
theorem laid_met(os:Os)(args:Array Value):laidMet Tryz.prog laidL ((laidWorld os).forCall (fun _ _=>0) ⟨#[],args,[]⟩).memory:=
 laidMet_of_run' 8 Kr Kr
section
variable {H:Type} {enc:TypeId×Value→H} {w:World} {base base':Nat} {r:Reach} {spare:Nat→Bool} {held:Bool} {v:Value} {d:DataW H} {p:List MemPlace}
theorem str_open(hv:Value.okWide Tryz.prog w r base' 9 v)(h:DataW.Trod enc Tryz.prog w base spare held 9 v d p):∃l:List UInt8,v=.string (bstr l)∧d=.lit (.string l):=by
 obtain⟨s,rfl,rfl,-⟩:=Go.ChangeMaps.open_string Tryz.underlying9 hv h
 exact⟨s.data.toList,rfl,rfl⟩
end
end Go.Proofs.YtndcjmopebcdgaaGreatDoor
