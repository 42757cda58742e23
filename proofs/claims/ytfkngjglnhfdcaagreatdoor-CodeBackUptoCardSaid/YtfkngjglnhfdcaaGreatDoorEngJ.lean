/- The engine: ranges over strings; interfaces held against nil. No program is named. -/
import Derived.Test.YtfkngjglnhfdcaaGreatDoorEngI
import Derived.Test.YtfkngjglnhfdcaaGreatDoorBase
import Derived.Lib.OthersKept
import Derived.Laws.RangeString
import Derived.Stop.IfaceNil
namespace Go.Proofs.YtfkngjglnhfdcaaGreatDoor
set_option linter.unusedVariables false
set_option linter.unusedSimpArgs false
open Go.ChangeShapes Go.WideShapes Go.ChangeAt Go.RowKit

/-- a string's iterator of the call's own -/
def Asn.iter (b : Nat) (l : List UInt8) (pos : Nat) : Asn where
  holds w F := F b ∧ (∀ k, F k → k = b) ∧ w.heap[b]? = some (.stringIter (bstr l) pos)
  loc := fun _ _ _ h hk => ⟨h.1, h.2.1, (hk _ h.1).trans h.2.2⟩
section
variable {P : Program} {w0 w : World} {X : Nat → Prop} {es : List Asn} {a : Act} {ds : List Deferred} {N : Nat} {env : List (Nat × Value)} {dst : Option Tmp} {ty : TypeId} {ps : String} {af : Array Edge} {gd : Option (Nat × Bool)} {K : Act → World → Prop} {Q : Exit → Act → World → Prop} {d : Tmp} {t t' : TypeId} {x y : Operand}
theorem e_range {l : List UInt8} (hF : Fr ds N env a) (hW : Wd w0 X es w) (hx : ev env x = some (.string (bstr l))) (hu : P.underlying t = some .string) (hd : Nat.blt d N = true) (hf : fresh env d = true)
    (k : ∀ b a w, Fr ds N ((d, .pointer (some ⟨b, 0, none⟩)) :: env) a → Wd w0 X (.iter b l 0 :: es) w → K a w) : (⟨some d, .range t x, ty, ps, af, gd⟩ : Oper).wp P a w K Q := by
  have hrun : (execOp a.eval ⟨some d, .range t x, ty, ps, af, gd⟩).run P w = .ok (.value (.pointer (some ⟨w.heap.size, 0, none⟩))) (w.alloc (.stringIter (bstr l) 0)) := by
    have hr := run_range_string (P := P) w t (bstr l) hu
    simp [execOp, hF.ev hx, hr, World.iter]
  unfold Oper.wp
  rw [hrun]
  refine k w.heap.size _ _ (hF.put _ hd hf) (hW.add (F := fun k => k = w.heap.size) ((Below.refl _ _).alloc1 _) ⟨rfl, fun _ h => h, World.iter_heap w (bstr l) 0⟩ fun k hk => ?_)
  subst hk
  exact ⟨Nat.le_refl _, (Array.getElem?_eq_some_iff.1 (World.iter_heap w (bstr l) 0)).1⟩
theorem e_next {l : List UInt8} {b pos : Nat} (hF : Fr ds N env a) (hW : Wd w0 X es w) (i : Nat) (hi : es[i]? = some (.iter b l pos)) (hx : ev env x = some (.pointer (some ⟨b, 0, none⟩))) (ha : ∀ k, k < l.length → (l.getD k 0).toNat < 128) (hd : Nat.blt d N = true) (hf : fresh env d = true)
    (k1 : pos < l.length → ∀ a w, Fr ds N ((d, .tuple #[.bool true, .int .i64 (pos : Int), .int .i32 ((l.getD pos 0).toNat : Int)]) :: env) a → Wd w0 X (es.set i (.iter b l (pos + 1))) w → K a w)
    (k2 : ¬ pos < l.length → ∀ a, Fr ds N ((d, .tuple #[.bool false]) :: env) a → K a w) : (⟨some d, .next x true, ty, ps, af, gd⟩ : Oper).wp P a w K Q := by
  obtain ⟨F, hA, -⟩ := Own.get es _ i _ hW.own hi
  have hk := hA.2.2
  by_cases h : pos < l.length
  · have hg : (bstr l)[pos]'h = l.getD pos 0 := by
      show l.toArray[pos]'_ = _
      simp [List.getD, h]
    have hr := Lib.run_next_ascii_at (P := P) w b (bstr l) pos ty hk h (by rw [hg]; exact ha pos h)
    rw [hg] at hr
    have hrun : (execOp a.eval ⟨some d, .next x true, ty, ps, af, gd⟩).run P w = .ok (.value (.tuple #[.bool true, .int .i64 (pos : Int), .int .i32 ((l.getD pos 0).toNat : Int)])) (w.iterAt b (bstr l) (pos + 1)) := by
      simp [execOp, hF.ev hx, hr]
    unfold Oper.wp
    rw [hrun]
    refine k1 h _ _ (hF.put _ hd hf) (hW.upd i hi fun F hF2 => ⟨⟨rfl, rfl, rfl, Nat.le_of_eq (Lib.iterAt_size _ _ _ _).symm, fun k _ hn => Lib.iterAt_other w b k (bstr l) _ fun e => hn (e ▸ hF2.1)⟩, (· = b), ⟨rfl, fun _ h => h, Lib.iterAt_heap w b (bstr l) pos _ hk⟩, fun k hk2 => ?_⟩)
    subst hk2
    refine ⟨?_, .inl hF2.1⟩
    rw [Lib.iterAt_size]
    exact (Array.getElem?_eq_some_iff.1 hk).1
  · have hr := Lib.run_next_end_at (P := P) w b (bstr l) pos ty hk h
    have hrun : (execOp a.eval ⟨some d, .next x true, ty, ps, af, gd⟩).run P w = .ok (.value (.tuple #[.bool false])) w := by
      simp [execOp, hF.ev hx, hr]
    unfold Oper.wp
    rw [hrun]
    exact k2 h _ (hF.put _ hd hf)
/-- is it an interface's value, not nil? -/
def isIf : Value → Bool
  | .iface _ _ => true
  | _ => false
theorem y_neNil (hF : Fr ds N env a) {v : Value} (hx : ev env x = some v) (hv : v = .nilIface ∨ ∃ T p, v = .iface T (.pointer p)) (hu : P.isIface t = true) : Yv P w0 X es a ⟨dst, .binOp .neq t x (.const .nilIface) t', ty, ps, af, gd⟩ (.bool (isIf v)) := by
  refine y_bin hF hx rfl fun w => ?_
  rcases hv with rfl | ⟨T, p, rfl⟩
  · have hr := run_neq_nil_nil_at (P := P) w t hu
    simp [eqGuard, hr, isIf]
  · have hr := run_neq_iface_nil (P := P) w t hu T (.pointer p)
    simp [eqGuard, hr, isIf]
theorem Wd.addB (hW : Wd w0 X es w) {w' : World} (hb : Below w.heap.size w w') {b : Nat} {T : TypeId} {l : List Value} (hB : Blk w' b T l) (hge : w.heap.size ≤ b) : Wd w0 X (.blk b T l :: es) w' :=
  hW.add (F := fun k => k = b) hb ⟨rfl, fun _ h => h, hB⟩ fun k hk => by subst hk; exact ⟨hge, hB.lt⟩
end
end Go.Proofs.YtfkngjglnhfdcaaGreatDoor
