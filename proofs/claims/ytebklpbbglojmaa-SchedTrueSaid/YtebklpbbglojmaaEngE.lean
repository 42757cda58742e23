/- The engine, part three: effects, and how operations and code are strung together. No program is named. -/
import Derived.Test.YtebklpbbglojmaaEngV
namespace Go.Proofs.Ytebklpbbglojmaa
set_option linter.unusedVariables false
set_option linter.unusedSimpArgs false
open Go.RowKit

section
variable {P : Program} {w0 w : World} {X : Nat → Prop} {es : List Asn} {a : Act} {N : Nat} {env : List (Nat × Value)} {ty : TypeId} {ps : String} {af : Array Edge} {gd : Option (Nat × Bool)}
variable {K : Act → World → Prop} {Q : Exit → Act → World → Prop} {d : Tmp} {t : TypeId} {x y : Operand}

/-! ### effects -/
theorem e_of_new {o : Oper} (hod : o.dst = some d) (hF : Fr N env a) (hW : Wd w0 X es w) {cs : Array Value} {T : TypeId} {l : List Value} (hl : cs.toList = l) (g : Addr → Value)
    (hr : (execOp a.eval o).run P w = .ok (.value (g ⟨w.heap.size, 0, none⟩)) (w.alloc (.cells cs T))) (hd : Nat.blt d N = true) (hf : fresh env d = true)
    (k : ∀ b a w, Fr N ((d, g ⟨b, 0, none⟩) :: env) a → Wd w0 X (.blk b T l :: es) w → K a w) : o.wp P a w K Q := by
  unfold Oper.wp
  rw [hr]
  show K (a.put o.dst _) _
  rw [hod]
  exact k _ _ _ (hF.put _ hd hf) (hW.newL cs T hl)
theorem e_alloc (hF : Fr N env a) (hW : Wd w0 X es w) {z : Value} {l : List Value} (hz : (P.info? t).map (·.zero) = some (some z)) (hl : z.cells.toList = l) (hd : Nat.blt d N = true) (hf : fresh env d = true)
    (k : ∀ b a w, Fr N ((d, .pointer (some ⟨b, 0, none⟩)) :: env) a → Wd w0 X (.blk b t l :: es) w → K a w) : (⟨some d, .alloc t, ty, ps, af, gd⟩ : Oper).wp P a w K Q :=
  e_of_new rfl hF hW hl (fun p => .pointer (some p)) (by
    cases hi : P.info? t with
    | none => rw [hi] at hz; cases hz
    | some i =>
      rw [hi] at hz
      have hz' : i.zero = some z := by simpa using hz
      simp [execOp, Instr.alloc, zeroValue, typeInfo, hi, hz', newVar, newRow]) hd hf k
theorem e_box (hF : Fr N env a) (hW : Wd w0 X es w) {v : Value} {l : List Value} (hx : ev env x = some v) (hl : v.cells.toList = l) (hd : Nat.blt d N = true) (hf : fresh env d = true)
    (k : ∀ b a w, Fr N ((d, .pointer (some ⟨b, 0, none⟩)) :: env) a → Wd w0 X (.blk b t l :: es) w → K a w) : (⟨some d, .box t x, ty, ps, af, gd⟩ : Oper).wp P a w K Q :=
  e_of_new rfl hF hW hl (fun p => .pointer (some p)) (by simp [execOp, Instr.box, hF.ev hx, newVar, newRow]) hd hf k
theorem e_buildSlice (hF : Fr N env a) (hW : Wd w0 X es w) {n : Nat} {E : TypeId} {parts : List (Nat × Operand)} {vs : List (Nat × Value)} {cs : Array Value} {l : List Value} (hp : evp env parts = some vs)
    (hb : ∀ w : World, (Instr.buildSlice t n vs.toArray).run P w = .ok (.slice (some ⟨w.heap.size, 0, none⟩) n n) (w.alloc (.cells cs E))) (hl : cs.toList = l) (hd : Nat.blt d N = true) (hf : fresh env d = true)
    (k : ∀ b a w, Fr N ((d, .slice (some ⟨b, 0, none⟩) n n) :: env) a → Wd w0 X (.blk b E l :: es) w → K a w) : (⟨some d, .buildSlice t n parts.toArray, ty, ps, af, gd⟩ : Oper).wp P a w K Q :=
  e_of_new rfl hF hW hl (fun p => .slice (some p) n n) (by
    have := hF.evp parts vs hp
    simp only [execOp, List.map_toArray, this]
    simp [hb]) hd hf k
/-- a store of one cell into an own block -/
theorem e_store {dst : Option Tmp} (hdst : dst = none) (hF : Fr N env a) (hW : Wd w0 X es w) {b o : Nat} {T : TypeId} {l : List Value} {v : Value} (hx : ev env x = some (.pointer (some ⟨b, o, none⟩))) (hy : ev env y = some v) (i : Nat) (hi : es[i]? = some (.blk b T l))
    (ho : (l[o]?).isSome = true) (h1 : v.oneCell' = true) (hz : (P.info? t).map (·.size) = some 1)
    (k : ∀ w, Wd w0 X (es.set i (.blk b T (l.set o v))) w → K a w) : (⟨dst, .store t x y, ty, ps, af, gd⟩ : Oper).wp P a w K Q := by
  subst hdst
  have hB := hW.blk i hi
  have hc : v.cells = #[v] := by cases v <;> first | rfl | (simp [Value.oneCell'] at h1)
  cases hie : P.info? t with
  | none => rw [hie] at hz; cases hz
  | some j =>
    rw [hie] at hz
    have hz' : j.size = 1 := by simpa using hz
    obtain ⟨u, hu⟩ := Option.isSome_iff_exists.1 ho
    have hcell : w.cell? ⟨b, o, none⟩ = some u := (hB.cell o).trans hu
    have hfz := hB.frozen o
    have hst : (store ⟨b, o, none⟩ v).run P w = .ok () (w.setCell ⟨b, o, none⟩ v) := by
      cases v <;> first | (simp [Value.oneCell'] at h1; done) | (simp [store, Sem.run, hcell, hfz])
    have hadd : (⟨b, o, none⟩ : Addr).add 0 = ⟨b, o, none⟩ := rfl
    have hrun : (execOp a.eval ⟨none, .store t x y, ty, ps, af, gd⟩).run P w = .ok .skip (w.setCell ⟨b, o, none⟩ v) := by
      simp [execOp, hF.ev hx, hF.ev hy, Instr.storeAt, Instr.sureAddr, storeVar, hc, sizeOf, typeInfo, hie, hz', storeCells, hadd, hst]
    unfold Oper.wp
    rw [hrun]
    exact k _ (hW.set i hi v)
/-- a struct or an array stored into an own block from a place on -/
theorem e_storeMid {dst : Option Tmp} (hdst : dst = none) (hF : Fr N env a) (hW : Wd w0 X es w) {b o : Nat} {T : TypeId} {l : List Value} {cs : Array Value} (hx : ev env x = some (.pointer (some ⟨b, o, none⟩))) (hy : ev env y = some (.agg cs)) (i : Nat) (hi : es[i]? = some (.blk b T l))
    (ho : o + cs.size ≤ l.length) (h1 : cs.all (·.oneCell') = true) (hz : (P.info? t).map (·.size) = some cs.size)
    (k : ∀ w, Wd w0 X (es.set i (.blk b T (splice l o cs.toList))) w → K a w) : (⟨dst, .store t x y, ty, ps, af, gd⟩ : Oper).wp P a w K Q := by
  subst hdst
  have hB := hW.blk i hi
  have hst := setCells_blk cs.toList w l o hB
  exact wp_store_mid t x y rfl b o cs (hF.ev hx) (hF.ev hy) (hB.there ho) hz h1 (k _ (hW.only i hi hst.2 hst.1))
/-- all of an own block -/
theorem e_storeAll {dst : Option Tmp} (hdst : dst = none) (hF : Fr N env a) (hW : Wd w0 X es w) {b : Nat} {T : TypeId} {l l' : List Value} {cs : Array Value} (hx : ev env x = some (.pointer (some ⟨b, 0, none⟩))) (hy : ev env y = some (.agg cs)) (i : Nat) (hi : es[i]? = some (.blk b T l))
    (hl : cs.toList = l') (hn : l.length = l'.length) (h1 : cs.all (·.oneCell') = true) (hz : (P.info? t).map (·.size) = some l'.length)
    (k : ∀ w, Wd w0 X (es.set i (.blk b T l')) w → K a w) : (⟨dst, .store t x y, ty, ps, af, gd⟩ : Oper).wp P a w K Q := by
  have hs : cs.size = l'.length := by rw [← hl, Array.length_toList]
  refine e_storeMid hdst hF hW hx hy i hi (by omega) h1 (by rw [hz, hs]) fun w' hW' => k w' ?_
  have := splice_all cs.toList [] l (by rw [hl]; exact hn)
  simp only [List.nil_append, List.length_nil] at this
  rw [this, hl] at hW'
  exact hW'

/-- the function has a body of its own -/
def Enters (P : Program) (f : FuncId) : Prop := ∀ (args : Array Value) (w : World), (callFunc f args).run P w = .ok (.enter f args) w
theorem enters_of {f : FuncId} {fn : Func} (hf : P.funcs[f]? = some fn) (hn : (fn.name == "runtime.NumGoroutine") = false) (hb : fn.body.isNone = false) : Enters P f := fun args w => by
  have hn' : ¬ fn.name = "runtime.NumGoroutine" := by simpa using hn
  cases hbb : fn.body with
  | none => rw [hbb] at hb; cases hb
  | some c => simp [callFunc, program, Sem.run, hf, hn', hbb]
/-- a call of a function, or of a function value that is known -/
theorem e_call {f : FuncId} {cap : Array Value} {vs : List Value} {args : List Operand} {at_ : Array TypeId} {R : Ending → World → Prop} (hF : Fr N env a) (hx : ev env x = some (.func (.func f) #[] cap)) (ha : evs env args = some vs) (hen : Enters P f)
    {vv : Array Value} (hvv : vs.toArray ++ cap = vv) (hd : Nat.blt d N = true) (hf : fresh env d = true)
    (hc : Calls P f vv w R) (k : ∀ e w', R e w' → ∃ v, e = .returned v ∧ ∀ a, Fr N ((d, v) :: env) a → K a w') : (⟨some d, .call ⟨.value x, args.toArray, at_⟩, ty, ps, af, gd⟩ : Oper).wp P a w K Q := by
  subst hvv
  have h1 := hF.evs args vs ha
  have hrun : (execOp a.eval ⟨some d, .call ⟨.value x, args.toArray, at_⟩, ty, ps, af, gd⟩).run P w = .ok (.enter f (vs.toArray ++ cap)) w := by
    have h2 := hen (vs.toArray ++ cap) w
    simp [execOp, resolve, Deferred.ofValue, hF.ev hx, h1, invoke, h2]
  unfold Oper.wp
  rw [hrun, Oper.upon_enter]
  refine hc.mono fun e w' hR => ?_
  obtain ⟨v, rfl, hk⟩ := k e w' hR
  exact hk _ (hF.put v hd hf)
theorem e_call0 {f : FuncId} {cap : Array Value} {vs : List Value} {args : List Operand} {at_ : Array TypeId} {R : Ending → World → Prop} (hF : Fr N env a) (hx : ev env x = some (.func (.func f) #[] cap)) (ha : evs env args = some vs) (hen : Enters P f)
    {vv : Array Value} (hvv : vs.toArray ++ cap = vv)
    (hc : Calls P f vv w R) (k : ∀ e w', R e w' → ∃ v, e = .returned v ∧ (Fr N env a → K a w')) : (⟨none, .call ⟨.value x, args.toArray, at_⟩, ty, ps, af, gd⟩ : Oper).wp P a w K Q := by
  subst hvv
  have h1 := hF.evs args vs ha
  have hrun : (execOp a.eval ⟨none, .call ⟨.value x, args.toArray, at_⟩, ty, ps, af, gd⟩).run P w = .ok (.enter f (vs.toArray ++ cap)) w := by
    have h2 := hen (vs.toArray ++ cap) w
    simp [execOp, resolve, Deferred.ofValue, hF.ev hx, h1, invoke, h2]
  unfold Oper.wp
  rw [hrun, Oper.upon_enter]
  refine hc.mono fun e w' hR => ?_
  obtain ⟨v, rfl, hk⟩ := k e w' hR
  exact hk hF
/-- append of a row onto an own row -/
theorem e_append {T : TypeId} {size bytes : Nat} {z : Value} {n m c n' : Nat} {A : Option Addr} {v : Value} {cs news cs' : List Value} (hF : Fr N env a) (hW : Wd w0 X es w) (i : Nat) (hi : es[i]? = some (.row T size v n cs))
    (hx : ev env x = some v) (hy : ev env y = some (.slice A m c)) (ht : P.underlying t = some (.slice T)) (hinf : (P.info? T).map (fun i => (i.zero, i.size, i.bytes)) = some (some z, size, bytes)) (hzs : z.cells.size = size) (hsz : 0 < size)
    (hr : RowAt w size A m news) (h1 : ∀ u ∈ news, u.oneCell' = true) (hN : n + m = n') (hcs : cs ++ news = cs') (hb : n' * bytes ≤ 140737488355328) (h63 : n' ≤ maxLen) (hd : Nat.blt d N = true) (hf : fresh env d = true)
    (k : ∀ A' c' a w, Fr N ((d, .slice A' n' c') :: env) a → Wd w0 X (es.set i (.row T size (.slice A' n' c') n' cs')) w → K a w) : (⟨some d, .call ⟨.builtin .append, #[x, y], #[t, t]⟩, ty, ps, af, gd⟩ : Oper).wp P a w K Q := by
  obtain ⟨i0, hi0, hz0, hz1, hz2⟩ := info_parts hinf
  exact wp_append_row w x y t rfl 0 T i0 z size bytes ht hi0 hz0 hz1 hz2 hzs hsz v n cs (hF.ev hx) (hW.row i hi) A m c news (hF.ev hy) hr h1 n' cs' hN hcs h63 hb (Nat.zero_le _)
    fun A' c' w' hown hg hat => k A' c' _ w' (hF.put _ hd hf) (hW.grown i hi hown hg hat)

theorem Wd.row_own (h : Wd w0 NoB es w) (i : Nat) {T : TypeId} {size n : Nat} {v : Value} {cs : List Value} (hi : es[i]? = some (.row T size v n cs)) : w.ownsRow w0.heap.size T size v n cs := by
  obtain ⟨F, hA, hF⟩ := Own.get es _ i _ h.own hi
  refine ⟨hA.1.1, ?_⟩
  rcases hA.1.2 with h2 | ⟨g, cap, cur, hv, _, r⟩
  · exact .inl h2
  · refine .inr ⟨g, cap, cur, hv, ?_, r⟩
    have := (hF g (hA.2 g (by rw [hv]; rfl))).1
    exact Nat.le_of_not_lt fun hlt => this ⟨hlt, id⟩
theorem Wd.blk_row (h : Wd w0 X es w) (i : Nat) {b : Nat} {T : TypeId} {l : List Value} (hi : es[i]? = some (.blk b T l)) (size n : Nat) (hl : l.length = n * size) (hn : n ≤ maxLen) : Wd w0 X (es.set i (.row T size (.slice (some ⟨b, 0, none⟩) n n) n l)) w :=
  h.upd i hi fun F hF => ⟨Chg.refl _ _, (· = b), ⟨⟨by simpa using hl, .inr ⟨b, n, l.toArray, rfl, Nat.zero_le _, hF.2.2, Nat.le_refl _, hn, by simpa using hl, by rw [List.take_of_length_le (by simp [hl])]⟩⟩, fun k hk => by simp [Value.ownBlock] at hk; exact hk.symm⟩,
    fun k hk => ⟨by subst hk; exact hF.2.2.lt, .inl (hk ▸ hF.1)⟩⟩
theorem rowAt_blk {b : Nat} {T : TypeId} {l : List Value} (h : Blk w b T l) (size n : Nat) (hl : l.length = n * size) : RowAt w size (some ⟨b, 0, none⟩) n l :=
  ⟨hl, fun _ => ⟨_, rfl, fun j u hu => by rw [add_own, Nat.zero_add]; exact (h.cell j).trans hu⟩⟩
theorem RF.of_row {size n : Nat} {A : Option Addr} {xs : List Value} {f : Nat → List Value} (h : RowAt w size A n xs) (hf : ∀ i, i < n → ∀ o v, (f i)[o]? = some v → xs[i * size + o]? = some v) : RF w A n size f := fun hn => by
  obtain ⟨ad, rfl, hc⟩ := h.2 hn
  exact ⟨rfl, fun i hi o v hv => hc _ v (hf i hi o v hv)⟩

theorem RF.of_flat {α : Type} {enc : α → List Value} {size : Nat} (hs : ∀ a, (enc a).length = size) (d : α) {v : Value} {l : List α} (h : Flat enc size w v l) : ∃ A c, v = .slice A l.length c ∧ l.length ≤ c ∧ c ≤ maxLen ∧ RF w A l.length size (fun k => enc (l.getD k d)) := by
  obtain ⟨A, c, rfl, h1, h2, h3⟩ := h
  refine ⟨A, c, rfl, h1, h2, RF.of_row h3 fun i hi o v hv => ?_⟩
  have hv' : (enc l[i])[o]? = some v := by simpa [List.getD, List.getElem?_eq_getElem hi] using hv
  have ho : o < size := by have := (List.getElem?_eq_some_iff.1 hv').1; rwa [hs] at this
  rw [flat_get hs i o hi ho]
  exact hv'

/-- what a call gave: it holds wherever the blocks that the call made are as they were -/
def OwnRes (w w' : World) (R : World → Prop) : Prop := ∀ w'', (∀ k, w.heap.size ≤ k → k < w'.heap.size → w''.heap[k]? = w'.heap[k]?) → R w''
theorem OwnRes.mono {w w' : World} {R R' : World → Prop} (h : OwnRes w w' R) (hR : ∀ w, R w → R' w) : OwnRes w w' R' := fun w'' hk => hR _ (h w'' hk)
theorem OwnRes.now {w w' : World} {R : World → Prop} (h : OwnRes w w' R) : R w' := h w' fun _ _ _ => rfl
theorem Wd.res_blk (h : Wd w0 NoB es w) (i : Nat) {b : Nat} {T : TypeId} {l : List Value} (hi : es[i]? = some (.blk b T l)) : OwnRes w0 w (fun w => Blk w b T l) := fun w'' hk => by
  have h1 := h.blk_ge i hi
  exact (hk b (Nat.le_of_not_lt fun hlt => h1.1 ⟨hlt, id⟩) h1.2).trans (h.blk i hi)
theorem OwnRes.of_own {w w' : World} {T : TypeId} {size n : Nat} {v : Value} {cs : List Value} (h : w'.ownsRow w.heap.size T size v n cs) : OwnRes w w' (fun u => u.ownsRow w.heap.size T size v n cs) := fun w'' hk => by
  refine ⟨h.1, ?_⟩
  rcases h.2 with h2 | ⟨g, cap, cur, hv, hg, hh, r⟩
  · exact .inl h2
  · exact .inr ⟨g, cap, cur, hv, hg, (hk g hg (Array.getElem?_eq_some_iff.1 hh).1).trans hh, r⟩
theorem OwnRes.ints {w w' : World} {T : TypeId} {v : Value} {l : List Int} (h : OwnAs T w' w.heap.size v l) : OwnRes w w' (fun u => Ints u v l) := (OwnRes.of_own h).mono fun _ h => OwnAs.ints h
theorem OwnRes.intsB {w w' : World} {v : Value} {l : List Int} (h : OwnInts w' w.heap.size v l) : OwnRes w w' (fun u => Ints u v l) := by
  obtain ⟨e, h⟩ := h
  exact (OwnRes.of_own h).mono fun _ h => Ints.of_own h
theorem Wd.gotR (h : Wd w0 X es w) {w' : World} (hb : Below w.heap.size w w') {R : World → Prop} (hR : OwnRes w w' R) : Wd w0 X (.res R :: es) w' := h.got hb hR
/-- what was got of a call stands at the end of this one -/
theorem Wd.res_res (h : Wd w0 NoB es w) (i : Nat) {R : World → Prop} (hi : es[i]? = some (.res R)) : OwnRes w0 w R := fun w'' hk => by
  obtain ⟨F, hA, hF⟩ := Own.get es _ i _ h.own hi
  exact hA w'' fun k hF' => hk k (Nat.le_of_not_lt fun hlt => (hF k hF').1 ⟨hlt, id⟩) (hF k hF').2
theorem flat_blk {α : Type} {enc : α → List Value} {size b n : Nat} {T : TypeId} {l : List Value} {xs : List α} {w : World} (h : Blk w b T l) (hn : n = xs.length) (hl : l = xs.flatMap enc) (hs : l.length = n * size) (hm : n ≤ maxLen) : Flat enc size w (.slice (some ⟨b, 0, none⟩) n n) xs := by
  subst hn
  exact ⟨some ⟨b, 0, none⟩, xs.length, rfl, Nat.le_refl _, hm, by rw [← hl]; exact rowAt_blk h size xs.length hs⟩
theorem ints_blk {b n : Nat} {T : TypeId} {l : List Value} {xs : List Int} {w : World} (h : Blk w b T l) (hn : n = xs.length) (hl : l = xs.map (.int .i64)) (hm : n ≤ maxLen) : Ints w (.slice (some ⟨b, 0, none⟩) n n) xs := by
  subst hn
  exact ⟨some ⟨b, 0, none⟩, xs.length, rfl, Nat.le_refl _, hm, by rw [← hl]; exact rowAt_blk h 1 xs.length (by rw [hl]; simp)⟩

theorem Wd.cast (h : Wd w0 X es w) (i : Nat) {b : Nat} {T : TypeId} {l : List Value} (l' : List Value) (hi : es[i]? = some (.blk b T l)) (hl : l = l') : Wd w0 X (es.set i (.blk b T l')) w :=
  h.only i hi (Only.refl b w) (hl ▸ h.blk i hi)

/-! ### operations in a row -/
variable {ops : Array Oper} {rest : List Oper} {op : Op} {v : Value}
theorem ws {dst : Option Tmp} {j t : Nat} {b : Bool} (hF : Fr N env a) (hj : (ops[j]?).bind (·.dst) = some t) (ht : evT env t = some (.bool b)) : Region.wanted ⟨dst, op, ty, ps, af, some (j, b)⟩ (yielded ops a.tmps) = true := by
  have := hF.yielded hj ht
  simp [Region.wanted, this]
theorem wn {dst : Option Tmp} {j t : Nat} {b c : Bool} (hF : Fr N env a) (hj : (ops[j]?).bind (·.dst) = some t) (ht : evT env t = some (.bool c)) (hbc : (c == b) = false) : Region.wanted ⟨dst, op, ty, ps, af, some (j, b)⟩ (yielded ops a.tmps) = false := by
  have := hF.yielded hj ht
  simp only [Region.wanted, this]
  cases c <;> cases b <;> first | rfl | cases hbc
/-- an operation that was skipped leaves a slot undefined: no guard has yielded there -/
theorem wu {dst : Option Tmp} {j t : Nat} {b : Bool} (hF : Fr N env a) (hj : (ops[j]?).bind (·.dst) = some t) (ht : evT env t = some undef) : Region.wanted ⟨dst, op, ty, ps, af, some (j, b)⟩ (yielded ops a.tmps) = false := by
  have hy : yielded ops a.tmps j = none := by
    unfold Go.yielded
    rw [hj]
    simp only [Option.bind_some]
    rw [hF.slot ht]
    rfl
  simp [Region.wanted, hy]
theorem pv (hF : Fr N env a) (hW : Wd w0 X es w) (hy : Yv P w0 X es a ⟨some d, op, ty, ps, af, gd⟩ v)
    (k : ∀ a, Fr N ((d, v) :: env) a → wpList P ops Q rest a w) (hg : Region.wanted ⟨some d, op, ty, ps, af, gd⟩ (yielded ops a.tmps) = true := by rfl) (hd : Nat.blt d N = true := by rfl) (hf : fresh env d = true := by rfl) : wpList P ops Q (⟨some d, op, ty, ps, af, gd⟩ :: rest) a w := by
  unfold wpList
  rw [if_pos hg]
  refine .inl ?_
  unfold Oper.wp
  rw [hy w hW]
  exact k _ (hF.put v hd hf)
theorem p_skip (hF : Fr N env a) (hg : Region.wanted ⟨some d, op, ty, ps, af, gd⟩ (yielded ops a.tmps) = false) (hd : Nat.blt d N = true) (hf : fresh env d = true)
    (k : ∀ a, Fr N ((d, undef) :: env) a → wpList P ops Q rest a w) : wpList P ops Q (⟨some d, op, ty, ps, af, gd⟩ :: rest) a w := by
  unfold wpList
  rw [hg]
  exact k _ (hF.put undef hd hf)
theorem p_skip0 (hg : Region.wanted ⟨none, op, ty, ps, af, gd⟩ (yielded ops a.tmps) = false) (k : wpList P ops Q rest a w) : wpList P ops Q (⟨none, op, ty, ps, af, gd⟩ :: rest) a w := by
  unfold wpList
  rw [hg]
  exact k
theorem pe {o : Oper} (h : o.wp P a w (wpList P ops Q rest) Q) (hg : Region.wanted o (yielded ops a.tmps) = true := by rfl) : wpList P ops Q (o :: rest) a w := by
  unfold wpList
  rw [if_pos hg]
  exact .inl h

/-! ### operations in an open order -/
variable {S : World → Prop} {fuel : Nat} {listed : Array Bool} {esS : List Asn}
theorem dv (i : Nat) (hi : ops[i]? = some ⟨some d, op, ty, ps, af, gd⟩)
    (hF : Fr N env a) (hS : Wd w0 X esS w) (hy : Yv P w0 X esS a ⟨some d, op, ty, ps, af, gd⟩ v)
    (k : ∀ a, Fr N ((d, v) :: env) a → wpAnyH P .any ops Q (Wd w0 X esS) fuel (listed.setIfInBounds i true) a w)
    (hg : Region.wanted ⟨some d, op, ty, ps, af, gd⟩ (yielded ops a.tmps) = true := by rfl) (hs : Region.noSelect ops = true := by kernel_rfl) (hfr : Region.free .any ops listed i = true := by kernel_rfl) (hrd : (Region.ready .any ops listed).contains i = true := by kernel_rfl)
    (hQ : ∀ c a w, Q (.panic c) (a.put (some d) v) w → Q (.panic c) a w := by exact fun _ _ _ h => h) (hd : Nat.blt d N = true := by rfl) (hf : fresh env d = true := by rfl) : wpAnyH P .any ops Q (Wd w0 X esS) (fuel + 1) listed a w :=
  wpAnyH_take hi hs hfr hrd hQ (.inl ⟨hg, fun w hw => hy w hw⟩) hS (k _ (hF.put v hd hf))
theorem d_skip (i : Nat) (hi : ops[i]? = some ⟨some d, op, ty, ps, af, gd⟩) (hs : Region.noSelect ops = true) (hfr : Region.free .any ops listed i = true) (hrd : (Region.ready .any ops listed).contains i = true) (hQ : ∀ c a w, Q (.panic c) (a.put (some d) undef) w → Q (.panic c) a w)
    (hF : Fr N env a) (hg : Region.wanted ⟨some d, op, ty, ps, af, gd⟩ (yielded ops a.tmps) = false) (hS : S w) (hd : Nat.blt d N = true) (hf : fresh env d = true)
    (k : ∀ a, Fr N ((d, undef) :: env) a → wpAnyH P .any ops Q S fuel (listed.setIfInBounds i true) a w) : wpAnyH P .any ops Q S (fuel + 1) listed a w :=
  wpAnyH_take hi hs hfr hrd hQ (.inr ⟨hg, rfl⟩) hS (k _ (hF.put undef hd hf))
theorem d_op {o : Oper} {i : Nat} {K' : Act → World → Prop} (hi : ops[i]? = some o) (hg : Region.wanted o (yielded ops a.tmps) = true) (h : o.wp P a w K' Q) : wpOp P ops Q i K' a w :=
  wpOp_step hi fun K'' hK => by
    rw [if_pos hg]
    exact Oper.wp_mono hK h
theorem d_opval {i : Nat} {K' : Act → World → Prop} (hi : ops[i]? = some ⟨some d, op, ty, ps, af, gd⟩) (hF : Fr N env a) (hg : Region.wanted ⟨some d, op, ty, ps, af, gd⟩ (yielded ops a.tmps) = true) (hW : Wd w0 X es w) (hy : Yv P w0 X es a ⟨some d, op, ty, ps, af, gd⟩ v) (hd : Nat.blt d N = true) (hf : fresh env d = true)
    (k : ∀ a, Fr N ((d, v) :: env) a → K' a w) : wpOp P ops Q i K' a w :=
  d_op hi hg (by
    unfold Oper.wp
    rw [hy w hW]
    exact k _ (hF.put v hd hf))
theorem d_1 (i : Nat) (hr : Region.ready .any ops listed = [i]) (h : wpOp P ops Q i (fun a' w' => S w' ∧ wpAnyH P .any ops Q S fuel (listed.setIfInBounds i true) a' w') a w) : wpAnyH P .any ops Q S (fuel + 1) listed a w :=
  wpAnyH_all hr (by simp) fun j hj => by
    obtain rfl : j = i := by simpa using hj
    exact h
theorem d_2 (i j : Nat) (hr : Region.ready .any ops listed = [i, j]) (h : wpOp P ops Q i (fun a' w' => S w' ∧ wpAnyH P .any ops Q S fuel (listed.setIfInBounds i true) a' w') a w)
    (h2 : wpOp P ops Q j (fun a' w' => S w' ∧ wpAnyH P .any ops Q S fuel (listed.setIfInBounds j true) a' w') a w) : wpAnyH P .any ops Q S (fuel + 1) listed a w :=
  wpAnyH_all hr (by simp) fun j' hj => by
    rcases List.mem_cons.1 hj with rfl | hj
    · exact h
    · obtain rfl : j' = j := by simpa using hj
      exact h2
theorem d_3 (i j l : Nat) (hr : Region.ready .any ops listed = [i, j, l]) (h : wpOp P ops Q i (fun a' w' => S w' ∧ wpAnyH P .any ops Q S fuel (listed.setIfInBounds i true) a' w') a w)
    (h2 : wpOp P ops Q j (fun a' w' => S w' ∧ wpAnyH P .any ops Q S fuel (listed.setIfInBounds j true) a' w') a w)
    (h3 : wpOp P ops Q l (fun a' w' => S w' ∧ wpAnyH P .any ops Q S fuel (listed.setIfInBounds l true) a' w') a w) : wpAnyH P .any ops Q S (fuel + 1) listed a w :=
  wpAnyH_all hr (by simp) fun j' hj => by
    rcases List.mem_cons.1 hj with rfl | hj
    · exact h
    · rcases List.mem_cons.1 hj with rfl | hj
      · exact h2
      · obtain rfl : j' = l := by simpa using hj
        exact h3

/-! ### code -/
variable {c c1 c2 : Code} {id id' : Nat} {l : List Oper} {nx : Act → World → Prop} {e : Exit}
theorem c_sr (h : wpList P l.toArray (Exit.then (c.wp P Q) Q) l a w) : (Code.seq (Code.region id l.toArray false) c).wp P Q a w := wp_seq (wp_region_lit h)
theorem c_r (h : wpList P l.toArray Q l a w) : (Code.region id l.toArray false).wp P Q a w := wp_region_lit h
theorem c_d {ops : Array Oper} (hm : P.follows .mixedOrders = true) (hW : Wd w0 X es w) (hS : Wd w0 X esS w) (h : ∀ w, Wd w0 X es w → Wd w0 X esS w → wpAnyH P .any ops Q (Wd w0 X esS) ops.size (Array.replicate ops.size false) a w) : (Code.region id ops true).wp P Q a w := wp_region_held hm (h _ hW.drawn hS.drawn)
theorem c_sd {ops : Array Oper} (hm : P.follows .mixedOrders = true) (hW : Wd w0 X es w) (hS : Wd w0 X esS w) (h : ∀ w, Wd w0 X es w → Wd w0 X esS w → wpAnyH P .any ops (Exit.then (c.wp P Q) Q) (Wd w0 X esS) ops.size (Array.replicate ops.size false) a w) : (Code.seq (Code.region id ops true) c).wp P Q a w := wp_seq (wp_region_held hm (h _ hW.drawn hS.drawn))
theorem c_s (h : c1.wp P (Exit.then (c2.wp P Q) Q) a w) : (Code.seq c1 c2).wp P Q a w := wp_seq h
theorem c_t (hF : Fr N env a) (hx : ev env x = some (.bool true)) (h : c1.wp P Q a w) : (Code.cond x c1 c2).wp P Q a w := wp_cond_true (hF.ev hx) h
theorem c_f (hF : Fr N env a) (hx : ev env x = some (.bool false)) (h : c2.wp P Q a w) : (Code.cond x c1 c2).wp P Q a w := wp_cond_false (hF.ev hx) h
theorem c_if {p : Prop} [Decidable p] (hF : Fr N env a) (hx : ev env x = some (.bool (decide p))) (ht : p → c1.wp P Q a w) (hf : ¬ p → c2.wp P Q a w) : (Code.cond x c1 c2).wp P Q a w :=
  wp_cond_split (hF.ev hx) (fun h => ht (of_decide_eq_true h)) (fun h => hf (of_decide_eq_false h))
theorem c_tf {b : Bool} (hF : Fr N env a) (hx : ev env x = some (.bool b)) (ht : b = true → c1.wp P Q a w) (hf : b = false → c2.wp P Q a w) : (Code.cond x c1 c2).wp P Q a w :=
  wp_cond_split (hF.ev hx) ht hf
theorem l_nil (h : Q .normal a w) : wpList P ops Q [] a w := h
theorem d_nil (hr : Region.ready .any ops listed = []) (h : Q .normal a w) : wpAnyH P .any ops Q S fuel listed a w := wpAnyH_done hr h fuel
theorem t_n (h : nx a w) : Exit.then nx Q .normal a w := h
theorem t_r (h : Q .ret a w) : Exit.then nx Q .ret a w := h
theorem t_x (h : Q (.exit id) a w) : Exit.then nx Q (.exit id) a w := h
theorem b_n (h : Q .normal a w) : Exit.inBlock id Q .normal a w := h
theorem b_r (h : Q .ret a w) : Exit.inBlock id Q .ret a w := h
theorem b_h (h : Q .normal a w) : Exit.inBlock id Q (.exit id) a w := by simpa [Exit.inBlock] using h
theorem b_m (hn : Nat.beq id' id = false) (h : Q (.exit id') a w) : Exit.inBlock id Q (.exit id') a w := by
  have : id' ≠ id := fun e => by subst e; rw [Nat.beq_refl] at hn; cases hn
  simpa [Exit.inBlock, this] using h

/-- a loop: what stands in the frame and in memory is told by a ghost -/
theorem c_loop {G : Type} (I : G → List (Nat × Value)) (E : G → List Asn) (C : G → Prop) (μ : G → Nat) (g0 : G) {base : List (Nat × Value)} {ebase : List Asn} (hB : Fr N base a) (hF : Fr N (I g0) a) (hW : Wd w0 X (E g0 ++ ebase) w) (hC : C g0)
    (hr : ∀ g a w, C g → Fr N (I g ++ base) a → Wd w0 X (E g ++ ebase) w → c.wp P (Exit.then (fun a' w' => ∃ g', C g' ∧ μ g' < μ g ∧ Fr N (I g' ++ base) a' ∧ Wd w0 X (E g' ++ ebase) w') Q) a w) : (Code.loop c).wp P Q a w := by
  refine wp_loop_ghost (fun n a w => ∃ g, μ g = n ∧ C g ∧ Fr N (I g ++ base) a ∧ Wd w0 X (E g ++ ebase) w) (μ g0) ⟨g0, rfl, hC, hF.app hB, hW⟩ ?_
  rintro n a w ⟨g, rfl, hC, hF, hW⟩
  refine wp_mono (hr g a w hC hF hW) fun e a' w' hq => ?_
  cases e with
  | normal =>
    obtain ⟨g', hC', hlt, hF', hW'⟩ := hq
    exact ⟨μ g', hlt, g', rfl, hC', hF', hW'⟩
  | exit id => exact hq
  | goto l => exact hq
  | ret => exact hq
  | panic ch => exact hq
  | outgrown => exact hq

/-! ### results -/
def resOf (a : Act) : ResultVar → Sem Value
  | .tmp t => pure (a.tmps.getD t undef)
  | .cell x t => do loadVar t (← asAddr (a.tmps.getD x undef))
def RVal (P : Program) (w : World) (a : Act) (r : ResultVar) (v : Value) : Prop := (resOf a r).run P w = .ok v w
theorem rv_t {t : Nat} (hF : Fr N env a) (ht : evT env t = some v) : RVal P w a (.tmp t) v := by
  have : a.tmps.getD t undef = v := by rw [Array.getD_eq_getD_getElem?, hF.slot ht]; rfl
  simp only [RVal, resOf, this, Sem.run_pure]
theorem rv_c {t : Nat} {b : Nat} {T : TypeId} {l : List Value} {dd : TypeDesc} (hF : Fr N env a) (ht : evT env t = some (.pointer (some ⟨b, 0, none⟩))) (hW : Wd w0 X es w) (i : Nat) (hi : es[i]? = some (.blk b T l)) {rt : TypeId}
    (hu : P.underlying rt = some dd) (hd : dd.isRow = true) (hz : (P.info? rt).map (·.size) = some l.length) : RVal P w a (.cell t rt) (.agg l.toArray) := by
  have h1 : a.tmps.getD t undef = .pointer (some ⟨b, 0, none⟩) := by rw [Array.getD_eq_getD_getElem?, hF.slot ht]; rfl
  have := run_load_blk (P := P) (hW.blk i hi) hu hd hz
  simp only [RVal, resOf, h1, asAddr, Sem.run_bind, Sem.run_pure, Result.andThen_ok]
  exact this
theorem rv_c1 {t : Nat} {b : Nat} {T : TypeId} {l : List Value} {dd : TypeDesc} (hF : Fr N env a) (ht : evT env t = some (.pointer (some ⟨b, 0, none⟩))) (hW : Wd w0 X es w) (i : Nat) (hi : es[i]? = some (.blk b T l)) (hv : l[0]? = some v) {rt : TypeId}
    (hu : P.underlying rt = some dd) (hd : dd.isRow = false) : RVal P w a (.cell t rt) v := by
  have h1 : a.tmps.getD t undef = .pointer (some ⟨b, 0, none⟩) := by rw [Array.getD_eq_getD_getElem?, hF.slot ht]; rfl
  have := run_load1 (P := P) hu hd (((hW.blk i hi).cell 0).trans hv)
  simp only [RVal, resOf, h1, asAddr, Sem.run_bind, Sem.run_pure, Result.andThen_ok]
  exact this
variable {fn : Func} {R : Ending → World → Prop} {r1 r2 r3 r4 : ResultVar} {v1 v2 v3 v4 : Value}
theorem ret0 (h : fn.results = #[]) (hF : Fr N env a) (hR : R (.returned (.tuple #[])) w) : bodyPost P fn R .ret a w := bodyPost_ret (results_none h _ _ _) hF.defers hR
theorem end0 (h : fn.results = #[]) (hF : Fr N env a) (hR : R (.returned (.tuple #[])) w) : bodyPost P fn R .normal a w := bodyPost_end (results_none h _ _ _) hF.defers hR
theorem results_of (a : Act) : results fn a.tmps = (do let vs ← fn.results.mapM (resOf a); pure (if h : vs.size = 1 then vs[0] else .tuple vs)) := by
  unfold results
  congr 1
theorem ret1 (h : fn.results = #[r1]) (hF : Fr N env a) (h1 : RVal P w a r1 v1) (hR : R (.returned v1) w) : bodyPost P fn R .ret a w := by
  refine bodyPost_ret ?_ hF.defers hR
  unfold RVal at h1
  rw [results_of, h]
  simp [h1]
theorem ret2 (h : fn.results = #[r1, r2]) (hF : Fr N env a) (h1 : RVal P w a r1 v1) (h2 : RVal P w a r2 v2) (hR : R (.returned (.tuple #[v1, v2])) w) : bodyPost P fn R .ret a w := by
  refine bodyPost_ret ?_ hF.defers hR
  unfold RVal at h1 h2
  rw [results_of, h]
  simp [h1, h2]
theorem ret3 (h : fn.results = #[r1, r2, r3]) (hF : Fr N env a) (h1 : RVal P w a r1 v1) (h2 : RVal P w a r2 v2) (h3 : RVal P w a r3 v3) (hR : R (.returned (.tuple #[v1, v2, v3])) w) : bodyPost P fn R .ret a w := by
  refine bodyPost_ret ?_ hF.defers hR
  unfold RVal at h1 h2 h3
  rw [results_of, h]
  simp [h1, h2, h3]
theorem ret4 (h : fn.results = #[r1, r2, r3, r4]) (hF : Fr N env a) (h1 : RVal P w a r1 v1) (h2 : RVal P w a r2 v2) (h3 : RVal P w a r3 v3) (h4 : RVal P w a r4 v4) (hR : R (.returned (.tuple #[v1, v2, v3, v4])) w) : bodyPost P fn R .ret a w := by
  refine bodyPost_ret ?_ hF.defers hR
  unfold RVal at h1 h2 h3 h4
  rw [results_of, h]
  simp [h1, h2, h3, h4]
end
end Go.Proofs.Ytebklpbbglojmaa
