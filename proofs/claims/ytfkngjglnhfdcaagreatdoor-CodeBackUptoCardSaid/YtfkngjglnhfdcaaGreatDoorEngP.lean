/- The engine, part thirteen: panics and deferred calls; strings, shifts, bytes. No program is named. -/
import Derived.Test.YtfkngjglnhfdcaaGreatDoorEngQ
import Derived.Defers
import Derived.Recover
import Derived.Laws.BytesString
namespace Go.Proofs.YtfkngjglnhfdcaaGreatDoor
set_option linter.unusedVariables false
set_option linter.unusedSimpArgs false
open Go.ChangeShapes Go.WideShapes Go.ChangeAt Go.RowKit

section
variable {P : Program} {w0 w : World} {X : Nat → Prop} {es : List Asn} {a : Act} {ds : List Deferred} {N : Nat} {env : List (Nat × Value)} {dst : Option Tmp} {ty : TypeId} {ps : String} {af : Array Edge} {gd : Option (Nat × Bool)} {K : Act → World → Prop} {Q : Exit → Act → World → Prop} {nx : Act → World → Prop} {d : Tmp} {t t' : TypeId} {x y : Operand} {ch : List PanicEntry} {id : Nat} {fn : Func} {R : Ending → World → Prop}
theorem t_p (h : Q (.panic ch) a w) : Exit.then nx Q (.panic ch) a w := h
theorem b_p (h : Q (.panic ch) a w) : Exit.inBlock id Q (.panic ch) a w := by simpa [Exit.inBlock] using h
theorem endp (hF : Fr [] N env a) (hR : R (.panicked ch) w) : bodyPost P fn R (.panic ch) a w := ⟨hF.defers, hR⟩
theorem e_panic {T : TypeId} {u : Value} (hF : Fr ds N env a) (hx : ev env x = some (.iface T u)) (k : Q (.panic [{ v := .iface T u, recovered := false }]) a w) : (⟨dst, .panic x, ty, ps, af, gd⟩ : Oper).wp P a w K Q := by
  have hr : (execOp a.eval ⟨dst, .panic x, ty, ps, af, gd⟩).run P w = .halt (.panic (.iface T u)) w := by
    simp [execOp, hF.ev hx, Instr.panic, goPanic]
  unfold Oper.wp
  rw [hr]
  exact k
theorem e_callp {f : FuncId} {cap : Array Value} {vs : List Value} {args : List Operand} {at_ : Array TypeId} {R : Ending → World → Prop} (hF : Fr ds N env a) (hx : ev env x = some (.func (.func f) #[] cap)) (ha : evs env args = some vs) (hen : Enters P f)
    {vv : Array Value} (hvv : vs.toArray ++ cap = vv) (hd : Nat.blt d N = true) (hf : fresh env d = true)
    (hc : Calls P f vv w R) (k : ∀ e w', R e w' → (∃ v, e = .returned v ∧ ∀ a, Fr ds N ((d, v) :: env) a → K a w') ∨ ∃ ch, e = .panicked ch ∧ Q (.panic ch) a w') : (⟨some d, .call ⟨.value x, args.toArray, at_⟩, ty, ps, af, gd⟩ : Oper).wp P a w K Q := by
  subst hvv
  have h1 := hF.evs args vs ha
  have hrun : (execOp a.eval ⟨some d, .call ⟨.value x, args.toArray, at_⟩, ty, ps, af, gd⟩).run P w = .ok (.enter f (vs.toArray ++ cap)) w := by
    have h2 := hen (vs.toArray ++ cap) w
    simp [execOp, resolve, Deferred.ofValue, hF.ev hx, h1, invoke, h2]
  unfold Oper.wp
  rw [hrun, Oper.upon_enter]
  refine hc.mono fun e w' hR => ?_
  rcases k e w' hR with ⟨v, rfl, hk⟩ | ⟨ch, rfl, hk⟩
  · exact hk _ (hF.put v hd hf)
  · exact hk
theorem e_defer {f : FuncId} {cap : Array Value} {at_ : Array TypeId} (hdst : dst = none) (hF : Fr ds N env a) (hx : ev env x = some (.func (.func f) #[] cap)) (k : ∀ a, Fr ({ target := .fn (.func f) cap, args := #[] } :: ds) N env a → K a w) : (⟨dst, .defer ⟨.value x, #[], at_⟩, ty, ps, af, gd⟩ : Oper).wp P a w K Q := by
  subst hdst
  have hr : (execOp a.eval ⟨none, .defer ⟨.value x, #[], at_⟩, ty, ps, af, gd⟩).run P w = .ok (.defer { target := .fn (.func f) cap, args := #[] }) w := by
    simp [execOp, resolve, Deferred.ofValue, hF.ev hx]
  unfold Oper.wp
  rw [hr]
  exact k _ ⟨hF.size, by rw [← hF.defers]; rfl, hF.env⟩
/-- a function that defers is entered -/
theorem enterD {f : FuncId} {c : Code} {args : List Value} (hf : P.funcs[f]? = some fn) (hb : fn.body = some c) (hN : fn.ntmps = N) (hl : Nat.ble args.length N = true)
    (k : ∀ a, Fr [] N (frame0 0 args) a → c.wp P (bodyPostD P fn R) a w) : Calls P f args.toArray w R := by
  refine calls_of_wp_defers hf hb (k _ ⟨?_, rfl, fun t v h => ?_⟩)
  · have : args.length ≤ N := by simpa using hl
    simp [hN]
    omega
  · have := (mem_frame0 args 0 t v h).2
    simp only [Nat.sub_zero] at this
    rw [Array.getElem?_append_left (by have := (List.getElem?_eq_some_iff.1 this).1; simpa using this)]
    simpa using this
/-- two results, read at the end -/
theorem res2 {r1 r2 : ResultVar} {v1 v2 : Value} (h : fn.results = #[r1, r2]) (h1 : RVal P w a r1 v1) (h2 : RVal P w a r2 v2) : (results fn a.tmps).run P w = .ok (.tuple #[v1, v2]) w := by
  unfold RVal at h1 h2
  rw [results_of, h]
  simp [h1, h2]
/-- the end of a function that has deferred nothing yet -/
theorem retD0 {v : Value} (hF : Fr [] N env a) (hr : (results fn a.tmps).run P w = .ok v w) (hR : R (.returned v) w) : bodyPostD P fn R .ret a w := by
  show Leaves P fn a.tmps R a.defers .returning w
  rw [hF.defers]
  exact ⟨v, hr, hR⟩
theorem retD1 {f : FuncId} {cap : Array Value} {RD : Ending → FrameMode → World → Prop} (hF : Fr [{ target := .fn (.func f) cap, args := #[] }] N env a) (hen : Enters P f) (hc : CallsD P f cap .returning w RD)
    (k : ∀ e u w', RD e u w' → ∃ v0 v, e = .returned v0 ∧ settle u = .returning ∧ (results fn a.tmps).run P w' = .ok v w' ∧ R (.returned v) w') : bodyPostD P fn R .ret a w := by
  show Leaves P fn a.tmps R a.defers .returning w
  rw [hF.defers]
  refine leaves_cons (f := f) (args := cap) (by simp) (by have := hen cap w; simpa [invoke] using this) ?_
  refine hc.mono fun e u w' h => ?_
  obtain ⟨v0, v, rfl, hu, hr, hR⟩ := k e u w' h
  dsimp only
  rw [hu]
  exact ⟨v, hr, hR⟩
theorem panD1 {f : FuncId} {cap : Array Value} {RD : Ending → FrameMode → World → Prop} (hF : Fr [{ target := .fn (.func f) cap, args := #[] }] N env a) (hen : Enters P f) (hc : CallsD P f cap (.panicking ch) w RD)
    (k : ∀ e u w', RD e u w' → ∃ v0 v, e = .returned v0 ∧ settle u = .returning ∧ (results fn a.tmps).run P w' = .ok v w' ∧ R (.returned v) w') : bodyPostD P fn R (.panic ch) a w := by
  show Leaves P fn a.tmps R a.defers (.panicking ch) w
  rw [hF.defers]
  refine leaves_cons (f := f) (args := cap) (by simp) (by have := hen cap w; simpa [invoke] using this) ?_
  refine hc.mono fun e u w' h => ?_
  obtain ⟨v0, v, rfl, hu, hr, hR⟩ := k e u w' h
  dsimp only
  rw [hu]
  exact ⟨v, hr, hR⟩

/-! ### bytes -/
def bstr (l : List UInt8) : ByteArray := ⟨l.toArray⟩
theorem bstr_size (l : List UInt8) : (bstr l).size = l.length := rfl
theorem bstr_list (s : ByteArray) : bstr s.data.toList = s := rfl
theorem y_indexStr (hF : Fr ds N env a) {l : List UInt8} {kk : IntKind} {i : Nat} (hx : ev env x = some (.string (bstr l))) (hy : ev env y = some (.int kk (i : Int))) (hi : i < l.length) (hu : P.underlying t = some .string) :
    Yv P w0 X es a ⟨dst, .index t x y, ty, ps, af, gd⟩ (.int .u8 ((l.getD i 0).toNat : Nat)) := y_index hF hx hy fun w => by
  have h1 : (bstr l)[i]? = some (l.getD i 0) := by
    show l.toArray[i]? = _
    simp [List.getD, hi]
  simp [Instr.index, asIntOf, run_underlying hu, h1]
theorem y_sliceStrL (hF : Fr ds N env a) {l : List UInt8} {lo : Operand} {kk : IntKind} {i : Nat} (hx : ev env x = some (.string (bstr l))) (hy : ev env lo = some (.int kk (i : Int))) (hi : i ≤ l.length) (hu : P.underlying t = some .string) :
    Yv P w0 X es a ⟨dst, .slice t x (some lo) none none, ty, ps, af, gd⟩ (.string (bstr (l.drop i))) := fun w _ => by
  have h1 : (bstr l).extract i (bstr l).size = bstr (l.drop i) := by
    apply ByteArray.ext
    rw [ByteArray.data_extract, bstr_size]
    apply Array.ext'
    simp [bstr]
    rw [List.take_of_length_le (by simp)]
  have h2 : (i : Int) ≤ (bstr l).size := by rw [bstr_size]; omega
  have h3 : ¬ (bstr l).size < i := by rw [bstr_size]; omega
  simp [execOp, hF.ev hx, hF.ev hy, Instr.sliceAt, Instr.slice, run_underlying hu, Instr.sliceBounds, Instr.sliceBound, asIntOf, h2, h3, h1]
theorem y_shr (hF : Fr ds N env a) {k yk : IntKind} {m : Int} {n : Nat} (hx : ev env x = some (.int k m)) (hy : ev env y = some (.int yk (n : Int))) (hn : n ≤ k.bits) :
    Yv P w0 X es a ⟨dst, .binOp .shr t x y t', ty, ps, af, gd⟩ (.int k (m / 2 ^ n)) := y_bin hF hx hy fun w => by
  have h := shift_shr k yk m (n : Int) (by omega) (by omega)
  simp [eqGuard, binOp_shr, h]
theorem y_shl (hF : Fr ds N env a) {k yk : IntKind} {m : Int} {n : Nat} (hx : ev env x = some (.int k m)) (hy : ev env y = some (.int yk (n : Int))) (hn : n ≤ k.bits) :
    Yv P w0 X es a ⟨dst, .binOp .shl t x y t', ty, ps, af, gd⟩ (.int k (k.wrap (m * 2 ^ n))) := y_bin hF hx hy fun w => by
  have h := shift_shl k yk m (n : Int) (by omega) (by omega)
  simp [eqGuard, binOp_shl, h]
theorem y_or (hF : Fr ds N env a) {k : IntKind} {m n : Int} (hx : ev env x = some (.int k m)) (hy : ev env y = some (.int k n)) :
    Yv P w0 X es a ⟨dst, .binOp .or t x y t', ty, ps, af, gd⟩ (.int k (bits .or k m n)) := y_bin hF hx hy fun w => by
  simp [eqGuard, binOp_or, intBits_or]
theorem y_makeIface (hF : Fr ds N env a) {v : Value} {dd : TypeDesc} (hx : ev env x = some v) (hu : P.underlying t = some dd) (hn : ∀ ms, dd ≠ .interface ms) :
    Yv P w0 X es a ⟨dst, .makeInterface t x, ty, ps, af, gd⟩ (.iface t v) := fun w _ => by
  cases dd <;> first | (exact absurd rfl (hn _)) | simp [execOp, hF.ev hx, Instr.makeInterface, run_underlying hu]
theorem y_sliceArr (hF : Fr ds N env a) {b o n z : Nat} {e ar : TypeId} (hx : ev env x = some (.pointer (some ⟨b, o, none⟩))) (hu : P.underlying t = some (.pointer ar)) (ha : P.underlying ar = some (.array n e)) (hz : (P.info? e).map (·.size) = some z) :
    Yv P w0 X es a ⟨dst, .slice t x none none none, ty, ps, af, gd⟩ (.slice (some ⟨b, o, none⟩) n n) := fun w _ => by
  cases hie : P.info? e with
  | none => rw [hie] at hz; cases hz
  | some j =>
    have hadd : (⟨b, o, none⟩ : Addr).add 0 = ⟨b, o, none⟩ := rfl
    have hs : (Instr.sureAddr (.pointer (some ⟨b, o, none⟩))).run P w = .ok ⟨b, o, none⟩ w := by simp [Instr.sureAddr]
    simp [execOp, hF.ev hx, Instr.sliceAt, hs, Instr.slice, run_underlying hu, asAddr, run_underlying ha, Instr.sliceBounds, sizeOf, typeInfo, hie, hadd]
theorem y_sliceArr' (hF : Fr ds N env a) {b o n z : Nat} {e : TypeId} (hx : ev env x = some (.pointer (some ⟨b, o, none⟩))) (ha : P.underlying t = some (.array n e)) (hz : (P.info? e).map (·.size) = some z) :
    Yv P w0 X es a ⟨dst, .slice t x none none none, ty, ps, af, gd⟩ (.slice (some ⟨b, o, none⟩) n n) := fun w _ => by
  cases hie : P.info? e with
  | none => rw [hie] at hz; cases hz
  | some j =>
    have hadd : (⟨b, o, none⟩ : Addr).add 0 = ⟨b, o, none⟩ := rfl
    simp [execOp, hF.ev hx, Instr.sliceAt, Instr.sureAddr, run_underlying ha, Instr.sliceBounds, sizeOf, typeInfo, hie, hadd]
theorem rowAt_part {b o n : Nat} {T : TypeId} {l m : List Value} (h : Blk w b T l) (hm : (l.drop o).take n = m) (hn : m.length = n) : RowAt w 1 (some ⟨b, o, none⟩) n m :=
  ⟨by omega, fun _ => ⟨_, rfl, fun j u hu => by
    rw [add_own]
    refine (h.cell _).trans ?_
    rw [← hm, List.getElem?_take] at hu
    split at hu
    · rwa [List.getElem?_drop] at hu
    · cases hu⟩⟩
end
end Go.Proofs.YtfkngjglnhfdcaaGreatDoor
