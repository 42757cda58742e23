/- The engine, part one: what a call owns, as a list of assertions on blocks that do not meet; frames as lists of slots. No program is named. -/
import Derived.Test.YtebklpbbglojmaaAbs
import Derived.Deep.RegionHeld3
namespace Go.Proofs.Ytebklpbbglojmaa
set_option linter.unusedVariables false
set_option linter.unusedSimpArgs false
open Go.RowKit

/-- an assertion on a world, and the blocks it hangs on -/
structure Asn where
  holds : World → (Nat → Prop) → Prop
  loc : ∀ w w' F, holds w F → (∀ k, F k → w'.heap[k]? = w.heap[k]?) → holds w' F

/-- but for these blocks (of those that were there) nothing has turned -/
structure Chg (F : Nat → Prop) (w w' : World) : Prop where
  os : w'.os = w.os
  tape : w'.tape = w.tape
  output : w'.output = w.output
  size : w.heap.size ≤ w'.heap.size
  block : ∀ k, k < w.heap.size → ¬ F k → w'.heap[k]? = w.heap[k]?
abbrev NoB : Nat → Prop := fun _ => False
section
variable {F : Nat → Prop} {w w' w'' : World}
theorem Chg.refl (F : Nat → Prop) (w : World) : Chg F w w := ⟨rfl, rfl, rfl, Nat.le_refl _, fun _ _ _ => rfl⟩
theorem Chg.trans (h : Chg F w w') (k : Chg F w' w'') : Chg F w w'' :=
  ⟨k.os.trans h.os, k.tape.trans h.tape, k.output.trans h.output, Nat.le_trans h.size k.size, fun i hi hF => (k.block i (Nat.lt_of_lt_of_le hi h.size) hF).trans (h.block i hi hF)⟩
theorem Chg.of_below (h : Below w.heap.size w w') : Chg F w w' := ⟨h.os, h.tape, h.output, h.size, fun k hk _ => h.block k hk⟩
theorem Chg.below (h : Chg NoB w w') : Below w.heap.size w w' := ⟨h.os, h.tape, h.output, h.size, fun k hk => h.block k hk id⟩
theorem Chg.mono {G : Nat → Prop} (h : Chg F w w') (hFG : ∀ k, k < w.heap.size → F k → G k) : Chg G w w' := ⟨h.os, h.tape, h.output, h.size, fun k hk hG => h.block k hk fun hF => hG (hFG k hk hF)⟩
theorem Chg.drewN (h : Chg F w w') (n : Nat) : Chg F w (w'.drewN n) := ⟨h.os, h.tape, h.output, h.size, h.block⟩
theorem Chg.of_only {b : Nat} (h : Only b w w') : Chg (· = b) w w' := ⟨h.os, h.tape, h.output, Nat.le_of_eq h.size.symm, fun k _ hk => h.block k hk⟩
end

/-- blocks of a list of assertions: none meets those before, none is new -/
def Own (w : World) : (Nat → Prop) → List Asn → Prop
  | _, [] => True
  | G, A :: r => ∃ F, A.holds w F ∧ (∀ k, F k → ¬ G k ∧ k < w.heap.size) ∧ Own w (fun k => G k ∨ F k) r
theorem Own.mono {w w' : World} (hs : w.heap.size ≤ w'.heap.size) : ∀ (es : List Asn) (G G' : Nat → Prop), (∀ k, k < w.heap.size → ¬ G k → ¬ G' k ∧ w'.heap[k]? = w.heap[k]?) → Own w G es → Own w' G' es
  | [], _, _, _, _ => trivial
  | A :: r, G, G', h, ⟨F, hA, hF, hr⟩ =>
    ⟨F, A.loc _ _ F hA fun k hk => (h k (hF k hk).2 (hF k hk).1).2, fun k hk => ⟨(h k (hF k hk).2 (hF k hk).1).1, by have := (hF k hk).2; omega⟩,
      Own.mono hs r _ _ (fun k hk hn => ⟨fun hor => hor.elim (h k hk fun hg => hn (.inl hg)).1 fun hf => hn (.inr hf), (h k hk fun hg => hn (.inl hg)).2⟩) hr⟩
theorem Own.get {w : World} : ∀ (es : List Asn) (G : Nat → Prop) (i : Nat) (A : Asn), Own w G es → es[i]? = some A → ∃ F, A.holds w F ∧ ∀ k, F k → ¬ G k ∧ k < w.heap.size
  | [], _, i, _, _, h => by simp at h
  | B :: r, G, 0, A, ⟨F, hA, hF, _⟩, h => by
    obtain rfl : B = A := by simpa using h
    exact ⟨F, hA, hF⟩
  | B :: r, G, i + 1, A, ⟨F, _, _, hr⟩, h => by
    obtain ⟨F', hA', hF'⟩ := Own.get r _ i A hr (by simpa using h)
    exact ⟨F', hA', fun k hk => ⟨fun hg => (hF' k hk).1 (.inl hg), (hF' k hk).2⟩⟩
/-- one of them turned, and those of its blocks, and new ones -/
theorem Own.upd {w w' : World} (hs : w.heap.size ≤ w'.heap.size) : ∀ (es : List Asn) (G G' : Nat → Prop) (i : Nat) (A A' : Asn) , Own w G es → es[i]? = some A →
    (∀ F, A.holds w F → (∀ k, F k → ¬ G k) → (∀ k, k < w.heap.size → ¬ F k → w'.heap[k]? = w.heap[k]?) ∧ (∀ k, k < w.heap.size → F k → ¬ G' k) ∧ ∃ F', A'.holds w' F' ∧ (∀ k, F' k → ¬ G' k ∧ k < w'.heap.size ∧ (F k ∨ w.heap.size ≤ k))) →
    (∀ k, k < w.heap.size → ¬ G k → ¬ G' k) → Own w' G' (es.set i A')
  | [], _, _, _, _, _, _, h, _, _ => by simp at h
  | B :: r, G, G', 0, A, A', ⟨F, hB, hF, hr⟩, h, hu, hG => by
    obtain rfl : B = A := by simpa using h
    obtain ⟨h1, _, F', hA', hF'⟩ := hu F hB fun k hk => (hF k hk).1
    refine ⟨F', hA', fun k hk => ⟨(hF' k hk).1, (hF' k hk).2.1⟩, Own.mono hs r _ _ (fun k hk hn => ⟨fun hor => hor.elim (hG k hk fun hg => hn (.inl hg)) fun hf => ?_, h1 k hk fun hf => hn (.inr hf)⟩) hr⟩
    rcases (hF' k hf).2.2 with h2 | h2
    · exact hn (.inr h2)
    · omega
  | B :: r, G, G', i + 1, A, A', ⟨F, hB, hF, hr⟩, h, hu, hG => by
    obtain ⟨FA, hAg, hFA⟩ := Own.get r _ i A hr (by simpa using h)
    have hd : ∀ k, F k → ¬ FA k := fun k hk hfa => (hFA k hfa).1 (.inr hk)
    obtain ⟨h1, h2, _⟩ := hu FA hAg fun k hk hg => (hFA k hk).1 (.inl hg)
    refine ⟨F, B.loc _ _ F hB fun k hk => h1 k (hF k hk).2 (hd k hk), fun k hk => ⟨hG k (hF k hk).2 (hF k hk).1, by have := (hF k hk).2; omega⟩, ?_⟩
    refine Own.upd hs r _ _ i A A' hr (by simpa using h) (fun F2 hA2 hF2 => ?_) (fun k hk hn hor => hor.elim (hG k hk fun hg => hn (.inl hg)) fun hf => hn (.inr hf))
    obtain ⟨k1, k2, F', k3, k4⟩ := hu F2 hA2 fun k hk hg => hF2 k hk (.inl hg)
    refine ⟨k1, fun k hk hf hor => hor.elim (k2 k hk hf) fun hF' => hF2 k hf (.inr hF'), F', k3, fun k hk => ⟨fun hor => hor.elim (k4 k hk).1 fun hFk => ?_, (k4 k hk).2⟩⟩
    rcases (k4 k hk).2.2 with h5 | h5
    · exact hF2 k h5 (.inr hFk)
    · have := (hF k hFk).2
      omega
theorem Own.del {w : World} : ∀ (es : List Asn) (G : Nat → Prop) (i : Nat), Own w G es → Own w G (es.eraseIdx i)
  | [], _, _, _ => trivial
  | B :: r, G, 0, ⟨F, _, _, hr⟩ => Own.mono (Nat.le_refl _) r _ _ (fun k _ hn => ⟨fun hg => hn (.inl hg), rfl⟩) hr
  | B :: r, G, i + 1, ⟨F, hB, hF, hr⟩ => ⟨F, hB, hF, Own.del r _ i hr⟩
/-- one of them drawn to the front -/
theorem Own.front {w : World} : ∀ (es : List Asn) (G : Nat → Prop) (i : Nat) (A : Asn), Own w G es → es[i]? = some A → Own w G (A :: es.eraseIdx i)
  | [], _, _, _, _, h => by simp at h
  | B :: r, G, 0, A, h, hi => by
    obtain rfl : B = A := by simpa using hi
    exact h
  | B :: r, G, i + 1, A, ⟨F, hB, hF, hr⟩, hi => by
    obtain ⟨FA, hA, hFA, hrest⟩ := Own.front r _ i A hr (by simpa using hi)
    refine ⟨FA, hA, fun k hk => ⟨fun hg => (hFA k hk).1 (.inl hg), (hFA k hk).2⟩, F, hB, fun k hk => ⟨fun hor => hor.elim (hF k hk).1 fun hfa => (hFA k hfa).1 (.inr hk), (hF k hk).2⟩, ?_⟩
    exact Own.mono (Nat.le_refl _) _ _ _ (fun k _ hn => ⟨fun hor => hn (by rcases hor with (h | h) | h <;> simp [h]), rfl⟩) hrest

/-- the world of a call: w0 at its beginning, X blocks that it may turn, es what it owns -/
structure Wd (w0 : World) (X : Nat → Prop) (es : List Asn) (w : World) : Prop where
  chg : Chg X w0 w
  own : Own w (fun k => k < w0.heap.size ∧ ¬ X k) es
section
variable {w0 w w' : World} {X : Nat → Prop} {es : List Asn}
theorem Wd.start (w0 : World) (X : Nat → Prop) : Wd w0 X [] w0 := ⟨Chg.refl _ _, trivial⟩
theorem Wd.size (h : Wd w0 X es w) : w0.heap.size ≤ w.heap.size := h.chg.size
theorem Wd.below (h : Wd w0 NoB es w) : Below w0.heap.size w0 w := h.chg.below
theorem Wd.kept (h : Wd w0 X es w) (hb : Below w.heap.size w w') : Wd w0 X es w' :=
  ⟨h.chg.trans (Chg.of_below hb), Own.mono hb.size es _ _ (fun k hk hn => ⟨hn, hb.block k hk⟩) h.own⟩
theorem Wd.drewN (h : Wd w0 X es w) (n : Nat) : Wd w0 X es (w.drewN n) := h.kept (below_drewN (Below.refl _ _) n)
theorem Wd.drew (h : Wd w0 X es w) : Wd w0 X es w.drew := h.drewN 1
theorem Wd.drawn (h : Wd w0 X es w) : Wd w0 X es { w with drawn := w.drawn + 1 } := h.drewN 1
theorem Wd.del (h : Wd w0 X es w) (i : Nat) {es' : List Asn} (he : es.eraseIdx i = es') : Wd w0 X es' w := he ▸ ⟨h.chg, h.own.del _ _ i⟩
theorem Wd.front (h : Wd w0 X es w) (i : Nat) {A : Asn} {r : List Asn} (hi : es[i]? = some A) (hr : es.eraseIdx i = r) : Wd w0 X (A :: r) w := hr ▸ ⟨h.chg, h.own.front _ _ i A hi⟩
theorem Wd.none_ (h : Wd w0 X es w) : Wd w0 X [] w := ⟨h.chg, trivial⟩
theorem Wd.add (h : Wd w0 X es w) (hb : Below w.heap.size w w') {A : Asn} {F : Nat → Prop} (hA : A.holds w' F) (hF : ∀ k, F k → w.heap.size ≤ k ∧ k < w'.heap.size) : Wd w0 X (A :: es) w' := by
  have hz := h.size
  refine ⟨h.chg.trans (Chg.of_below hb), F, hA, fun k hk => ⟨fun hg => ?_, (hF k hk).2⟩, Own.mono hb.size es _ _ (fun k hk hn => ⟨fun hor => hor.elim hn fun hf => ?_, hb.block k hk⟩) h.own⟩
  · have := (hF k hk).1; omega
  · have := (hF k hf).1; omega
theorem Wd.upd (h : Wd w0 X es w) (i : Nat) {A A' : Asn} (hi : es[i]? = some A)
    (hu : ∀ F, A.holds w F → Chg F w w' ∧ ∃ F', A'.holds w' F' ∧ ∀ k, F' k → k < w'.heap.size ∧ (F k ∨ w.heap.size ≤ k)) : Wd w0 X (es.set i A') w' := by
  obtain ⟨F, hA, hF⟩ := Own.get es _ i A h.own hi
  have hz := h.size
  obtain ⟨hc, _⟩ := hu F hA
  have hcX : Chg X w0 w' := by
    refine ⟨hc.os.trans h.chg.os, hc.tape.trans h.chg.tape, hc.output.trans h.chg.output, Nat.le_trans hz hc.size, fun k hk hX => ?_⟩
    exact (hc.block k (by omega) fun hf => (hF k hf).1 ⟨hk, hX⟩).trans (h.chg.block k hk hX)
  refine ⟨hcX, Own.upd hc.size es _ _ i A A' h.own hi (fun F2 hA2 hF2 => ?_) (fun k _ hn => hn)⟩
  obtain ⟨hc2, F', h3, h4⟩ := hu F2 hA2
  refine ⟨hc2.block, fun k _ hf => hF2 k hf, F', h3, fun k hk => ⟨?_, h4 k hk⟩⟩
  rcases (h4 k hk).2 with h5 | h5
  · exact hF2 k h5
  · rintro ⟨h6, _⟩; omega
/-- what lies below is as it was -/
theorem Wd.cell0 (h : Wd w0 X es w) {p : Addr} (hX : ¬ X p.block) {u : Value} (hc : w0.cell? p = some u) : w.cell? p = some u :=
  (World.cell?_of_block (w := w0) (h.chg.block _ (World.block_lt_of_cell? w0 _ hc) hX)).trans hc
end

/-! ### The kinds of assertions -/
/-- a block known whole -/
def Asn.blk (b : Nat) (T : TypeId) (l : List Value) : Asn where
  holds w F := F b ∧ (∀ k, F k → k = b) ∧ Blk w b T l
  loc := fun _ _ _ h hk => ⟨h.1, h.2.1, (hk _ h.1).trans h.2.2⟩
/-- what hangs on blocks of its own -/
def Asn.res (R : World → Prop) : Asn where
  holds w F := ∀ w', (∀ k, F k → w'.heap[k]? = w.heap[k]?) → R w'
  loc := fun _ _ _ h hk w'' hk' => h w'' fun k hF => (hk' k hF).trans (hk k hF)
/-- a row of the call's own that may be appended to -/
def Asn.row (T : TypeId) (size : Nat) (v : Value) (n : Nat) (cs : List Value) : Asn where
  holds w F := w.ownsRow 0 T size v n cs ∧ ∀ k, v.ownBlock = some k → F k
  loc := fun w w' F h hk => by
    refine ⟨⟨h.1.1, ?_⟩, h.2⟩
    rcases h.1.2 with h2 | ⟨g, cap, cur, hv, hg, hh, r⟩
    · exact .inl h2
    · exact .inr ⟨g, cap, cur, hv, hg, (hk g (h.2 g (by rw [hv]; rfl))).trans hh, r⟩
section
variable {w0 w w' : World} {X : Nat → Prop} {es : List Asn}
theorem Wd.blk (h : Wd w0 X es w) (i : Nat) {b : Nat} {T : TypeId} {l : List Value} (hi : es[i]? = some (.blk b T l)) : Blk w b T l := by
  obtain ⟨F, hA, _⟩ := Own.get es _ i _ h.own hi
  exact hA.2.2
theorem Wd.res (h : Wd w0 X es w) (i : Nat) {R : World → Prop} (hi : es[i]? = some (.res R)) : R w := by
  obtain ⟨F, hA, _⟩ := Own.get es _ i _ h.own hi
  exact hA w fun _ _ => rfl
theorem Wd.row (h : Wd w0 X es w) (i : Nat) {T : TypeId} {size n : Nat} {v : Value} {cs : List Value} (hi : es[i]? = some (.row T size v n cs)) : w.ownsRow 0 T size v n cs := by
  obtain ⟨F, hA, _⟩ := Own.get es _ i _ h.own hi
  exact hA.1
/-- an own block lies from w0's end on -/
theorem Wd.blk_ge (h : Wd w0 X es w) (i : Nat) {b : Nat} {T : TypeId} {l : List Value} (hi : es[i]? = some (.blk b T l)) : ¬ (b < w0.heap.size ∧ ¬ X b) ∧ b < w.heap.size := by
  obtain ⟨F, hA, hF⟩ := Own.get es _ i _ h.own hi
  exact hF b hA.1
theorem Wd.new (h : Wd w0 X es w) (cs : Array Value) (T : TypeId) : Wd w0 X (.blk w.heap.size T cs.toList :: es) (w.alloc (.cells cs T)) :=
  h.add (F := fun k => k = w.heap.size) ((Below.refl _ _).alloc1 _) ⟨rfl, fun _ h => h, Blk.new w cs T⟩ fun k hk => by rw [hk, World.size_alloc]; omega
theorem Wd.newL (h : Wd w0 X es w) (cs : Array Value) (T : TypeId) {l : List Value} (hl : cs.toList = l) : Wd w0 X (.blk w.heap.size T l :: es) (w.alloc (.cells cs T)) := hl ▸ h.new cs T
theorem Wd.only (h : Wd w0 X es w) (i : Nat) {b : Nat} {T T' : TypeId} {l l' : List Value} (hi : es[i]? = some (.blk b T l)) (ho : Only b w w') (hB : Blk w' b T' l') : Wd w0 X (es.set i (.blk b T' l')) w' :=
  h.upd i hi fun F hF => ⟨(Chg.of_only ho).mono fun k _ hk => hk ▸ hF.1, (· = b), ⟨rfl, fun _ h => h, hB⟩, fun k hk => ⟨by subst hk; exact hB.lt, .inl (hk ▸ hF.1)⟩⟩
theorem Wd.set (h : Wd w0 X es w) (i : Nat) {b o : Nat} {T : TypeId} {l : List Value} (hi : es[i]? = some (.blk b T l)) (v : Value) : Wd w0 X (es.set i (.blk b T (l.set o v))) (w.setCell ⟨b, o, none⟩ v) :=
  h.only i hi (Only.set w b o v) ((h.blk i hi).set o v)
/-- what a call gave that owns what is new -/
theorem Wd.got (h : Wd w0 X es w) (hb : Below w.heap.size w w') {R : World → Prop} (hR : ∀ w'', (∀ k, w.heap.size ≤ k → k < w'.heap.size → w''.heap[k]? = w'.heap[k]?) → R w'') : Wd w0 X (.res R :: es) w' :=
  h.add (F := fun k => w.heap.size ≤ k ∧ k < w'.heap.size) hb (fun w'' hk => hR w'' fun k h1 h2 => hk k ⟨h1, h2⟩) fun _ hk => hk
theorem Wd.got_row (h : Wd w0 X es w) (hb : Below w.heap.size w w') {T : TypeId} {size n : Nat} {v : Value} {cs : List Value} (hR : w'.ownsRow w.heap.size T size v n cs) : Wd w0 X (.row T size v n cs :: es) w' :=
  h.add (F := fun k => w.heap.size ≤ k ∧ k < w'.heap.size) hb ⟨ownsRow_less hR (Nat.zero_le _), fun k hk => by
    have := hR.lt k hk
    exact this⟩ fun _ hk => hk
/-- a nil row may always be had -/
theorem Wd.nil_row (h : Wd w0 X es w) (T : TypeId) (size : Nat) : Wd w0 X (.row T size (.slice none 0 0) 0 [] :: es) w :=
  h.add (F := fun _ => False) (Below.refl _ _) ⟨World.ownsRow_nil _ _ _ _, fun k hk => by simp [Value.ownBlock] at hk⟩ fun _ hk => hk.elim
/-- an own row grown: the block it had, or a new one -/
theorem Wd.grown (h : Wd w0 X es w) (i : Nat) {T : TypeId} {size n n' : Nat} {v v' : Value} {cs cs' : List Value} (hi : es[i]? = some (.row T size v n cs))
    (hown : w'.ownsRow 0 T size v' n' cs') (hg : w.grownBy w' v.ownBlock) (hat : v'.ownBlock = v.ownBlock ∨ v'.ownBlock = some w.heap.size) : Wd w0 X (es.set i (.row T size v' n' cs')) w' :=
  h.upd i hi fun F hF => by
    refine ⟨⟨hg.os, hg.tape, hg.output, hg.size, fun k hk hn => hg.block k hk fun e => hn (hF.2 k e.symm)⟩, fun k => v'.ownBlock = some k, ⟨hown, fun _ h => h⟩, fun k hk => ⟨(hown.lt k hk).2, ?_⟩⟩
    rcases hat with e | e
    · exact .inl (hF.2 k (e ▸ hk))
    · rw [e] at hk
      simp only [Option.some.injEq] at hk
      exact .inr (by omega)
end

/-! ### Frames -/
/-- the slots that are known, of a frame of so many -/
structure Fr (N : Nat) (env : List (Nat × Value)) (a : Act) : Prop where
  size : a.tmps.size = N
  defers : a.defers = []
  env : ∀ t v, (t, v) ∈ env → a.tmps[t]? = some v
def evT : List (Nat × Value) → Nat → Option Value
  | [], _ => none
  | (t, v) :: r, k => bif Nat.beq t k then some v else evT r k
def fresh : List (Nat × Value) → Nat → Bool
  | [], _ => true
  | (t, _) :: r, k => bif Nat.beq t k then false else fresh r k
def ev (env : List (Nat × Value)) : Operand → Option Value
  | .tmp t => evT env t
  | .const v => some v
  | .global g => some (.pointer (some ⟨g, 0, none⟩))
  | .func f => some (.func (.func f) #[] #[])
def evs (env : List (Nat × Value)) : List Operand → Option (List Value)
  | [] => some []
  | x :: r => match ev env x, evs env r with
    | some v, some vs => some (v :: vs)
    | _, _ => none
theorem mem_evT : ∀ (env : List (Nat × Value)) (t : Nat) (v : Value), evT env t = some v → (t, v) ∈ env
  | [], _, _, h => by simp [evT] at h
  | (t', v') :: r, t, v, h => by
    unfold evT at h
    cases hb : Nat.beq t' t with
    | true =>
      rw [hb] at h
      simp only [cond_true, Option.some.injEq] at h
      rw [Nat.eq_of_beq_eq_true hb, h]
      exact List.mem_cons_self
    | false =>
      rw [hb] at h
      exact List.mem_cons_of_mem _ (mem_evT r t v h)
section
variable {N : Nat} {env : List (Nat × Value)} {a : Act}
theorem Fr.slot (h : Fr N env a) {t : Nat} {v : Value} (ht : evT env t = some v) : a.tmps[t]? = some v := h.env t v (mem_evT env t v ht)
theorem Fr.ev (h : Fr N env a) : ∀ {x : Operand} {v : Value}, ev env x = some v → a.eval x = v
  | .tmp t, v, ht => by
    show a.tmps.getD t undef = v
    rw [Array.getD_eq_getD_getElem?, h.slot ht]
    rfl
  | .const _, _, ht => Option.some.inj ht
  | .global _, _, ht => Option.some.inj ht
  | .func _, _, ht => Option.some.inj ht
theorem Fr.evs (h : Fr N env a) : ∀ (l : List Operand) (vs : List Value), evs env l = some vs → l.map a.eval = vs
  | [], vs, e => by simpa [Proofs.Ytebklpbbglojmaa.evs] using e
  | x :: r, vs, e => by
    unfold Proofs.Ytebklpbbglojmaa.evs at e
    cases h1 : Proofs.Ytebklpbbglojmaa.ev env x with
    | none => simp [h1] at e
    | some v =>
      cases h2 : Proofs.Ytebklpbbglojmaa.evs env r with
      | none => simp [h1, h2] at e
      | some ws =>
        simp only [h1, h2, Option.some.injEq] at e
        rw [← e, List.map_cons, h.ev h1, h.evs r ws h2]
theorem Fr.cons (h : Fr N env a) {t : Nat} {v v' : Value} {env' : List (Nat × Value)} (ht : evT env t = some v) (hv : v = v') (h' : Fr N env' a) : Fr N ((t, v') :: env') a :=
  ⟨h.size, h.defers, fun s u hs => by
    rcases List.mem_cons.1 hs with e | hs
    · obtain ⟨rfl, rfl⟩ := Prod.mk.inj e
      exact hv ▸ h.slot ht
    · exact h'.env s u hs⟩
theorem Fr.k (h : Fr N env a) (t : Nat) {v : Value} (ht : evT env t = some v) {env' : List (Nat × Value)} (h' : Fr N env' a) : Fr N ((t, v) :: env') a := h.cons ht rfl h'
theorem Fr.nil (h : Fr N env a) : Fr N [] a := ⟨h.size, h.defers, fun _ _ h => by cases h⟩
theorem fresh_ne : ∀ (env : List (Nat × Value)) (d t : Nat) (v : Value), fresh env d = true → (t, v) ∈ env → d ≠ t
  | [], _, _, _, _, h => by cases h
  | (t', v') :: r, d, t, v, hf, h => by
    unfold fresh at hf
    cases hb : Nat.beq t' d with
    | true => rw [hb] at hf; cases hf
    | false =>
      rw [hb] at hf
      rcases List.mem_cons.1 h with e | h
      · obtain ⟨rfl, rfl⟩ := Prod.mk.inj e
        rintro rfl
        have : Nat.beq d d = true := Nat.beq_refl d
        rw [this] at hb
        cases hb
      · exact fresh_ne r d t v hf h
theorem Fr.put (h : Fr N env a) {d : Nat} (v : Value) (hd : Nat.blt d N = true) (hf : fresh env d = true) : Fr N ((d, v) :: env) (a.put (some d) v) := by
  have hlt : d < N := by simpa using hd
  refine ⟨?_, h.defers, fun s u hs => ?_⟩
  · show (a.tmps.setIfInBounds d v).size = N
    rw [Array.size_setIfInBounds, h.size]
  · show (a.tmps.setIfInBounds d v)[s]? = some u
    rcases List.mem_cons.1 hs with e | hs
    · obtain ⟨rfl, rfl⟩ := Prod.mk.inj e
      rw [Array.getElem?_setIfInBounds_self_of_lt (by rw [h.size]; exact hlt)]
    · rw [Array.getElem?_setIfInBounds_ne (fresh_ne env d s u hf hs)]
      exact h.env s u hs
theorem Fr.putNone (h : Fr N env a) (v : Value) : Fr N env (a.put none v) := h
theorem Fr.bool {d : Nat} {b t : Bool} (hb : b = t) (h : Fr N ((d, .bool b) :: env) a) : Fr N ((d, .bool t) :: env) a := hb ▸ h
theorem Fr.cast {d : Nat} {v v' : Value} (hv : v = v') (h : Fr N ((d, v) :: env) a) : Fr N ((d, v') :: env) a := hv ▸ h
theorem Fr.yielded (h : Fr N env a) {ops : Array Oper} {j t : Nat} {b : Bool} (hj : (ops[j]?).bind (·.dst) = some t) (ht : evT env t = some (.bool b)) : yielded ops a.tmps j = some b := by
  unfold Go.yielded
  rw [hj]
  simp only [Option.bind_some]
  rw [h.slot ht]
end
def dropT : List (Nat × Value) → Nat → List (Nat × Value)
  | [], _ => []
  | (t, v) :: r, k => bif Nat.beq t k then dropT r k else (t, v) :: dropT r k
theorem mem_dropT : ∀ (env : List (Nat × Value)) (k t : Nat) (v : Value), (t, v) ∈ dropT env k → (t, v) ∈ env
  | [], _, _, _, h => h
  | (t', v') :: r, k, t, v, h => by
    unfold dropT at h
    cases hb : Nat.beq t' k with
    | true =>
      rw [hb] at h
      exact List.mem_cons_of_mem _ (mem_dropT r k t v h)
    | false =>
      rw [hb] at h
      rcases List.mem_cons.1 h with e | h
      · rw [e]; exact List.mem_cons_self
      · exact List.mem_cons_of_mem _ (mem_dropT r k t v h)
section
variable {N : Nat} {env : List (Nat × Value)} {a : Act}
theorem Fr.drop (h : Fr N env a) (k : Nat) : Fr N (dropT env k) a := ⟨h.size, h.defers, fun t v ht => h.env t v (mem_dropT env k t v ht)⟩
theorem Fr.app {env' : List (Nat × Value)} (h : Fr N env a) (h' : Fr N env' a) : Fr N (env ++ env') a :=
  ⟨h.size, h.defers, fun t v ht => (List.mem_append.1 ht).elim (h.env t v) (h'.env t v)⟩
theorem Fr.splitB {d : Nat} {b : Bool} {G : Prop} (h : Fr N ((d, .bool b) :: env) a) (kt : b = true → Fr N ((d, .bool true) :: env) a → G) (kf : b = false → Fr N ((d, .bool false) :: env) a → G) : G := by
  cases b
  · exact kf rfl h
  · exact kt rfl h
theorem Fr.splitD {d : Nat} {p : Prop} [Decidable p] {G : Prop} (h : Fr N ((d, .bool (decide p)) :: env) a) (kt : p → Fr N ((d, .bool true) :: env) a → G) (kf : ¬ p → Fr N ((d, .bool false) :: env) a → G) : G := by
  by_cases hp : p
  · exact kt hp (Fr.bool (by simpa using hp) h)
  · exact kf hp (Fr.bool (by simpa using hp) h)
end
/-- the frame at the beginning -/
def frame0 (k : Nat) : List Value → List (Nat × Value)
  | [] => []
  | v :: r => (k, v) :: frame0 (k + 1) r
theorem mem_frame0 : ∀ (l : List Value) (k t : Nat) (v : Value), (t, v) ∈ frame0 k l → k ≤ t ∧ l[t - k]? = some v
  | [], _, _, _, h => by cases h
  | x :: r, k, t, v, h => by
    rcases List.mem_cons.1 h with e | h
    · obtain ⟨rfl, rfl⟩ := Prod.mk.inj e
      simp
    · have := mem_frame0 r (k + 1) t v h
      refine ⟨by omega, ?_⟩
      rw [show t - k = (t - (k + 1)) + 1 by omega]
      simpa using this.2
theorem enter {P : Program} {f : FuncId} {fn : Func} {c : Code} {args : List Value} {w : World} {R : Ending → World → Prop} {N : Nat}
    (hf : P.funcs[f]? = some fn) (hb : fn.body = some c) (hN : fn.ntmps = N) (hl : Nat.ble args.length N = true)
    (k : ∀ a, Fr N (frame0 0 args) a → c.wp P (bodyPost P fn R) a w) : Calls P f args.toArray w R := by
  refine calls_of_wp hf hb (k _ ⟨?_, rfl, fun t v h => ?_⟩)
  · have : args.length ≤ N := by simpa using hl
    simp [hN]
    omega
  · have := (mem_frame0 args 0 t v h).2
    simp only [Nat.sub_zero] at this
    rw [Array.getElem?_append_left (by have := (List.getElem?_eq_some_iff.1 this).1; simpa using this)]
    simpa using this
end Go.Proofs.Ytebklpbbglojmaa
