/- What flow.Reach gives, as a matrix in memory. -/
import Derived.Test.YtndcjmopebcdgaaGreatFlowB
set_option linter.unusedSimpArgs false
set_option linter.unusedVariables false
namespace Go.Proofs.YtndcjmopebcdgaaGreat
open Go.ChangeShapes Go.WideShapes Go.ChangeAt Go.RowKit
set_option maxRecDepth 100000
structure RM(D:List BR)(A:Option Addr)(c:Nat)(u:World):Prop where
 m:Flat BR.cells 1 u (.slice A D.length c) D
 each:∀q,q∈D→q.At u
theorem RM.below{D:List BR}{A:Option Addr}{c:Nat}{w w':World}(h:RM D A c w)(hb:Below w.heap.size w w'):RM D A c w':=⟨h.m.below hb,fun q hq=>Flat.below (h.each q hq) hb⟩
theorem RM.row{D:List BR}{A:Option Addr}{c:Nat}{w:World}(h:RM D A c w):RF w A D.length 1 (fun k=>BR.cells (D.getD k BR0)):=h.m.rf BR.cells_len BR0
theorem RM.inner{D:List BR}{A:Option Addr}{c:Nat}{w:World}(h:RM D A c w){k:Nat}(hk:k<D.length):RF w (D.getD k BR0).a (D.getD k BR0).l.length 1 (fun j=>encB ((D.getD k BR0).l.getD j false)):=Flat.rf encB_len false (h.each _ (mem_getD BR0 hk))
structure IsReach(x:SysD)(D:List BR):Prop where
 len:D.length=x.parts.length
 each:∀k,k<x.parts.length→(D.getD k BR0).l.length=x.parts.length
 val:∀k j,k<x.parts.length→j<x.parts.length→(D.getD k BR0).l.getD j false=rch x.chans x.parts.length k j
theorem IsReach.of{x:SysD}{D:List BR}(h:D.map BR.l=(List.range x.parts.length).map fun a=>(List.range x.parts.length).map (rch x.chans x.parts.length a)):IsReach x D:=by
 have hl:D.length=x.parts.length:=by have:=congrArg List.length h;simpa using this
 have hk:∀k,k<x.parts.length→(D.getD k BR0).l=(List.range x.parts.length).map (rch x.chans x.parts.length k):=fun k hk=>by
  have e:(D.getD k BR0).l=(D.map BR.l).getD k []:=(getD_map BR.l k BR0).symm
  rw[e,h]
  simp[List.getD,hk]
 refine⟨hl,fun k h1=>by rw[hk k h1];simp,fun k j h1 h2=>by rw[hk k h1];simp[List.getD,h2]⟩
end Go.Proofs.YtndcjmopebcdgaaGreat
