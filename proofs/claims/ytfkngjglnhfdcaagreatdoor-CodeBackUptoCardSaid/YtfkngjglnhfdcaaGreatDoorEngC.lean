/- The engine: copy onto a part of an own block. No program is named. -/
import Derived.Test.YtfkngjglnhfdcaaGreatDoorEngP
import Derived.Defers
import Derived.Laws.IdiomCopy
namespace Go.Proofs.YtfkngjglnhfdcaaGreatDoor
set_option linter.unusedVariables false
set_option linter.unusedSimpArgs false
open Go.ChangeShapes Go.WideShapes Go.ChangeAt Go.RowKit

section
variable {P : Program} {w0 w : World} {X : Nat → Prop} {es : List Asn} {a : Act} {ds : List Deferred} {N : Nat} {env : List (Nat × Value)} {ty : TypeId} {ps : String} {af : Array Edge} {gd : Option (Nat × Bool)} {K : Act → World → Prop} {Q : Exit → Act → World → Prop} {d : Tmp} {t t' : TypeId} {x y : Operand}
theorem e_copyPart {b o n n2 m c : Nat} {A : Option Addr} {T T0 : TypeId} {l cs l' : List Value} (hF : Fr ds N env a) (hW : Wd w0 X es w) (hx : ev env x = some (.slice (some ⟨b, o, none⟩) n n2)) (hy : ev env y = some (.slice A m c)) (i : Nat) (hi : es[i]? = some (.blk b T l))
    (ht : P.underlying t = some (.slice T0)) (hs : (P.info? T0).map (·.size) = some 1) (hr : RowAt w 1 A m cs) (hmn : m = n) (hpos : 0 < n) (ho : o + n ≤ l.length) (h1 : ∀ u ∈ cs, u.oneCell' = true) (hl' : splice l o cs = l') (hd : Nat.blt d N = true) (hf : fresh env d = true)
    (k : ∀ a w, Fr ds N ((d, .int .i64 n) :: env) a → Wd w0 X (es.set i (.blk b T l')) w → K a w) : (⟨some d, .call ⟨.builtin .copy, #[x, y], #[t, t']⟩, ty, ps, af, gd⟩ : Oper).wp P a w K Q := by
  subst hmn hl'
  have hB := hW.blk i hi
  have hst := setCells_blk cs w l o hB
  have hm : cs.length = m := by have := hr.1; simpa using this
  obtain ⟨ad, rfl, hc⟩ := hr.2 hpos
  have hrun := run_copy_cells (P := P) w t t' ty T0 b o m n2 ad m c cs ht hs (by rw [hm]; exact (Nat.min_self m).symm) hc (fun j hj => by
      have := hB.cell (o + j)
      rw [this, List.getElem?_eq_getElem (by omega)]
      rfl) (fun j _ => hB.frozen _) h1
  unfold Oper.wp
  simp [execOp, resolve, invoke, builtin, hF.ev hx, hF.ev hy, hrun, Result.andThen]
  refine k _ _ ?_ (hW.only i hi hst.2 hst.1)
  have := hF.put (.int .i64 m) hd hf
  simpa [goInt, hm] using this
theorem leaves_tmps {fn : Func} {R : Ending → World → Prop} {t1 t2 : Array Value} (h : results fn t1 = results fn t2) : ∀ (ds : List Deferred) (m : FrameMode) (w : World), Leaves P fn t1 R ds m w → Leaves P fn t2 R ds m w := by
  intro ds
  induction ds with
  | nil =>
    intro m w hL
    cases m with
    | returning =>
      obtain ⟨v, h1, h2⟩ := hL
      exact ⟨v, by rw [← h]; exact h1, h2⟩
    | panicking ch => exact hL
    | run => exact hL
  | cons d ds ih =>
    intro m w hL
    obtain ⟨h1, fv, cap, f, args, h2, h3, h4⟩ := hL
    refine ⟨h1, fv, cap, f, args, h2, h3, h4.mono ?_⟩
    intro e u w' hR
    cases e with
    | returned v => exact ih _ _ hR
    | panicked ch => exact ih _ _ hR
    | outgrown => exact hR
/-- where a function that defers panics, what its other slots hold is all one -/
theorem hqD {fn : Func} {R : Ending → World → Prop} {p q d : Nat} {T4 T5 : TypeId} {v : Value} {c : List PanicEntry} (hr : fn.results = #[.cell p T4, .cell q T5]) (h4 : d ≠ p) (h5 : d ≠ q) (h : Go.bodyPostD P fn R (.panic c) (a.put (some d) v) w) : Go.bodyPostD P fn R (.panic c) a w := by
  refine leaves_tmps ?_ _ _ _ h
  rw [results_of, results_of, hr]
  have e1 : (a.put (some d) v).tmps.getD p undef = a.tmps.getD p undef := by simp [Act.put, Array.getD_eq_getD_getElem?, Array.getElem?_setIfInBounds, h4]
  have e2 : (a.put (some d) v).tmps.getD q undef = a.tmps.getD q undef := by simp [Act.put, Array.getD_eq_getD_getElem?, Array.getElem?_setIfInBounds, h5]
  simp [resOf, e1, e2]
end
end Go.Proofs.YtfkngjglnhfdcaaGreatDoor
