/- Stores and loads of whole structs, the world behind them under one name. No program is named. -/
import Derived.Test.YtebklpbbglojmaaBlk
import Derived.Test.YtebklpbbglojmaaData
import Derived.Deep.MidRow
namespace Go.Proofs.Ytebklpbbglojmaa
set_option linter.unusedVariables false
set_option linter.unusedSimpArgs false
open Go.RowKit

/-- one block alone may have turned -/
structure Only (b : Nat) (w w' : World) : Prop where
  os : w'.os = w.os
  tape : w'.tape = w.tape
  output : w'.output = w.output
  size : w'.heap.size = w.heap.size
  block : ∀ k, k ≠ b → w'.heap[k]? = w.heap[k]?
section
variable {w w' : World} {b : Nat} {T : TypeId} {l : List Value}
theorem Only.set (w : World) (b o : Nat) (v : Value) : Only b w (w.setCell ⟨b, o, none⟩ v) :=
  ⟨rfl, rfl, rfl, by simp [World.setCell], fun k hk => Below.heap_setCell w ⟨b, o, none⟩ v k hk⟩
theorem Only.trans {w'' : World} (h : Only b w w') (k : Only b w' w'') : Only b w w'' :=
  ⟨k.os.trans h.os, k.tape.trans h.tape, k.output.trans h.output, k.size.trans h.size, fun i hi => (k.block i hi).trans (h.block i hi)⟩
theorem Only.refl (b : Nat) (w : World) : Only b w w := ⟨rfl, rfl, rfl, rfl, fun _ _ => rfl⟩
theorem Only.blk (h : Only b w w') {k : Nat} (hB : Blk w k T l) (hk : k ≠ b) : Blk w' k T l := (h.block k hk).trans hB
theorem Only.below (h : Only b w w') {B : Nat} (hB : B ≤ b) : Below B w w' := ⟨h.os, h.tape, h.output, Nat.le_of_eq h.size.symm, fun k hk => h.block k (by omega)⟩
theorem Only.own (h : Only b w w') {base n size : Nat} {v : Value} {xs : List Value} (ho : w.ownsRow base T size v n xs) (hb : b < base) : w'.ownsRow base T size v n xs := by
  refine ⟨ho.1, ?_⟩
  rcases ho.2 with h2 | ⟨g, cap, cur, hv, hg, hh, r⟩
  · exact .inl h2
  · exact .inr ⟨g, cap, cur, hv, hg, (h.block g (by omega)).trans hh, r⟩
theorem Only.ownAs (h : Only b w w') {base : Nat} {v : Value} {xs : List Int} (ho : OwnAs T w base v xs) (hb : b < base) : OwnAs T w' base v xs := h.own ho hb
theorem _root_.Go.RowKit.Below.only {w0 : World} {B : Nat} (hw : Below B w0 w) (h : Only b w w') (hB : B ≤ b) : Below B w0 w' := hw.trans (h.below hB)

/-- cells laid over a list from a place on -/
def splice (l : List Value) (o : Nat) : List Value → List Value
  | [] => l
  | v :: vs => splice (l.set o v) (o + 1) vs
theorem splice_len (vs : List Value) : ∀ (l : List Value) (o : Nat), (splice l o vs).length = l.length := by
  induction vs with
  | nil => intro l o; rfl
  | cons v vs ih => intro l o; rw [splice, ih]; simp
theorem setCells_blk (vs : List Value) : ∀ (w : World) (l : List Value) (o : Nat), Blk w b T l → Blk (w.setCells b o vs) b T (splice l o vs) ∧ Only b w (w.setCells b o vs) := by
  induction vs with
  | nil => intro w l o h; exact ⟨h, Only.refl _ _⟩
  | cons v vs ih =>
    intro w l o h
    have := ih (w.setCell ⟨b, o, none⟩ v) (l.set o v) (o + 1) (h.set o v)
    exact ⟨this.1, (Only.set w b o v).trans this.2⟩
theorem Blk.there (h : Blk w b T l) {o n : Nat} (hn : o + n ≤ l.length) : w.there b o n := fun j hj => by
  refine ⟨?_, h.frozen _⟩
  rw [h.cell, List.getElem?_eq_getElem (by omega)]
  rfl
theorem Blk.range (h : Blk w b T l) {o : Nat} {cs : List Value} (hc : ∀ j v, cs[j]? = some v → l[o + j]? = some v) : w.rangeAt b o cs := fun j v hv => (h.cell _).trans (hc j v hv)
theorem Blk.all (h : Blk w b T l) : w.rangeAt b 0 l := fun j v hv => by rw [Nat.zero_add]; exact (h.cell _).trans hv
theorem splice_all (vs : List Value) : ∀ (pre l : List Value), l.length = vs.length → splice (pre ++ l) pre.length vs = pre ++ vs := by
  induction vs with
  | nil => intro pre l h; simp [splice, List.eq_nil_of_length_eq_zero h]
  | cons v vs ih =>
    intro pre l h
    cases l with
    | nil => simp at h
    | cons x l =>
      have := ih (pre ++ [v]) l (by simpa using h)
      rw [splice]
      simpa using this

variable {P : Program} {ops : Array Oper} {rest : List Oper} {op : Oper} {a : Act} {Q : Exit → Act → World → Prop}
theorem wpList_store_abs (hgd : op.guard = none) (ty : TypeId) (x y : Operand) (ho : op.op = .store ty x y) (b o : Nat) (T : TypeId) (l : List Value) (cells : Array Value) (hB : Blk w b T l)
    (hx : a.eval x = .pointer (some ⟨b, o, none⟩)) (hy : a.eval y = .agg cells) (hl : o + cells.size ≤ l.length) (hi : (P.info? ty).map (·.size) = some cells.size) (h1 : cells.all (·.oneCell') = true)
    (h : ∀ w', Blk w' b T (splice l o cells.toList) → Only b w w' → wpList P ops Q rest (a.put op.dst undef) w') : wpList P ops Q (op :: rest) a w :=
  wpList_store_mid hgd ty x y ho b o cells hx hy (hB.there hl) hi h1 (h _ (setCells_blk cells.toList w l o hB).1 (setCells_blk cells.toList w l o hB).2)
/-- a whole block -/
theorem wpList_store_whole (hgd : op.guard = none) (ty : TypeId) (x y : Operand) (ho : op.op = .store ty x y) (b : Nat) (T : TypeId) (l : List Value) (cells : Array Value) (hB : Blk w b T l)
    (hx : a.eval x = .pointer (some ⟨b, 0, none⟩)) (hy : a.eval y = .agg cells) (hl : l.length = cells.size) (hi : (P.info? ty).map (·.size) = some cells.size) (h1 : cells.all (·.oneCell') = true)
    (h : ∀ w', Blk w' b T cells.toList → Only b w w' → wpList P ops Q rest (a.put op.dst undef) w') : wpList P ops Q (op :: rest) a w :=
  wpList_store_abs hgd ty x y ho b 0 T l cells hB hx hy (by omega) hi h1 fun w' hb' ho' => h w' (by
    have := splice_all cells.toList [] l (by simpa using hl)
    simp only [List.nil_append, List.length_nil] at this
    rwa [this] at hb') ho'
/-- a whole block, the cells as a list -/
theorem wpList_store_list (hgd : op.guard = none) (ty : TypeId) (x y : Operand) (ho : op.op = .store ty x y) (b : Nat) (T : TypeId) (l cs : List Value) (hB : Blk w b T l)
    (hx : a.eval x = .pointer (some ⟨b, 0, none⟩)) (hy : a.eval y = .agg cs.toArray) {n : Nat} (hl : l.length = n) (hn : cs.length = n) (hi : (P.info? ty).map (·.size) = some n) (h1 : cs.toArray.all (·.oneCell') = true)
    (h : ∀ w', Blk w' b T cs → Only b w w' → wpList P ops Q rest (a.put op.dst undef) w') : wpList P ops Q (op :: rest) a w :=
  wpList_store_whole hgd ty x y ho b T l cs.toArray hB hx hy (by rw [hl, List.size_toArray, hn]) (by rw [hi, List.size_toArray, hn]) h1 fun w' hb' ho' => h w' (by simpa using hb') ho'
/-- a whole block loaded -/
theorem wpList_load_whole (hgd : op.guard = none) (ty : TypeId) (x : Operand) (ho : op.op = .load ty x) (b : Nat) (T : TypeId) (l : List Value) (hB : Blk w b T l) (hx : a.eval x = .pointer (some ⟨b, 0, none⟩)) (d : TypeDesc)
    (hu : P.underlying ty = some d) (hd : d.isRow = true) (hi : (P.info? ty).map (·.size) = some l.length)
    (h : wpList P ops Q rest (a.put op.dst (.agg l.toArray)) w) : wpList P ops Q (op :: rest) a w :=
  wpList_load_mid hgd ty x ho b 0 hx l d hB.all hu hd hi h

/-- a struct built out of parts -/
theorem wpList_build (hgd : op.guard = none) (ty : TypeId) (parts : Array (Nat × Operand)) (ho : op.op = .build ty parts) (vs : Array (Nat × Value)) (hp : (parts.map fun x => (x.1, a.eval x.2)) = vs) (v : Value)
    (hrun : (Instr.build ty vs).run P w = .ok v w) (h : wpList P ops Q rest (a.put op.dst v) w) : wpList P ops Q (op :: rest) a w := by
  subst hp
  refine wpList_plain hgd fun _ hK => ?_
  unfold Oper.wp execOp
  simp only [ho, Sem.run_bind, hrun, Result.andThen_ok, Sem.run_pure]
  exact hK _ _ h

theorem run_load_blk {ty : TypeId} {d : TypeDesc} (hB : Blk w b T l) (hu : P.underlying ty = some d) (hd : d.isRow = true) (hi : (P.info? ty).map (·.size) = some l.length) :
    (loadVar ty ⟨b, 0, none⟩).run P w = .ok (.agg l.toArray) w := run_loadVar_mid w b 0 ty l d hB.all hu hd hi

/-- results that lie in blocks -/
theorem results_cct {fn : Func} {p q r : Tmp} {ty ty' : TypeId} (h : fn.results = #[.cell p ty, .cell q ty', .tmp r]) (tmps : Array Value) {b b' : Nat} {l l' : List Value} {v : Value}
    (hp : tmps.getD p undef = .pointer (some ⟨b, 0, none⟩)) (hq : tmps.getD q undef = .pointer (some ⟨b', 0, none⟩)) (hr : tmps.getD r undef = v)
    (h1 : (loadVar ty ⟨b, 0, none⟩).run P w = .ok (.agg l.toArray) w) (h2 : (loadVar ty' ⟨b', 0, none⟩).run P w = .ok (.agg l'.toArray) w) :
    (results fn tmps).run P w = .ok (.tuple #[.agg l.toArray, .agg l'.toArray, v]) w := by
  have hp' : tmps[p]?.getD undef = .pointer (some ⟨b, 0, none⟩) := by simpa using hp
  have hq' : tmps[q]?.getD undef = .pointer (some ⟨b', 0, none⟩) := by simpa using hq
  have hr' : tmps[r]?.getD undef = v := by simpa using hr
  simp [results, h, hp', hq', hr', asAddr, h1, h2]
theorem results_cc {fn : Func} {p q : Tmp} {ty ty' : TypeId} (h : fn.results = #[.cell p ty, .cell q ty']) (tmps : Array Value) {b b' : Nat} {l l' : List Value}
    (hp : tmps.getD p undef = .pointer (some ⟨b, 0, none⟩)) (hq : tmps.getD q undef = .pointer (some ⟨b', 0, none⟩))
    (h1 : (loadVar ty ⟨b, 0, none⟩).run P w = .ok (.agg l.toArray) w) (h2 : (loadVar ty' ⟨b', 0, none⟩).run P w = .ok (.agg l'.toArray) w) :
    (results fn tmps).run P w = .ok (.tuple #[.agg l.toArray, .agg l'.toArray]) w := by
  have hp' : tmps[p]?.getD undef = .pointer (some ⟨b, 0, none⟩) := by simpa using hp
  have hq' : tmps[q]?.getD undef = .pointer (some ⟨b', 0, none⟩) := by simpa using hq
  simp [results, h, hp', hq', asAddr, h1, h2]
theorem results_ct {fn : Func} {p r : Tmp} {ty : TypeId} (h : fn.results = #[.cell p ty, .tmp r]) (tmps : Array Value) {b : Nat} {l : List Value} {v : Value}
    (hp : tmps.getD p undef = .pointer (some ⟨b, 0, none⟩)) (hr : tmps.getD r undef = v) (h1 : (loadVar ty ⟨b, 0, none⟩).run P w = .ok (.agg l.toArray) w) :
    (results fn tmps).run P w = .ok (.tuple #[.agg l.toArray, v]) w := by
  have hp' : tmps[p]?.getD undef = .pointer (some ⟨b, 0, none⟩) := by simpa using hp
  have hr' : tmps[r]?.getD undef = v := by simpa using hr
  simp [results, h, hp', hr', asAddr, h1]
theorem results_c {fn : Func} {p : Tmp} {ty : TypeId} (h : fn.results = #[.cell p ty]) (tmps : Array Value) {b : Nat} {l : List Value}
    (hp : tmps.getD p undef = .pointer (some ⟨b, 0, none⟩)) (h1 : (loadVar ty ⟨b, 0, none⟩).run P w = .ok (.agg l.toArray) w) :
    (results fn tmps).run P w = .ok (.agg l.toArray) w := by
  have hp' : tmps[p]?.getD undef = .pointer (some ⟨b, 0, none⟩) := by simpa using hp
  simp [results, h, hp', asAddr, h1]
end
end Go.Proofs.Ytebklpbbglojmaa
