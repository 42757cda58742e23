/- The engine, part five: slices of slices, a cut between a piece of code and what follows it, sizes that are known of arguments. No program is named. -/
import Derived.Test.YtebklpbbglojmaaEngO
import Derived.SizedLaws
namespace Go.Proofs.Ytebklpbbglojmaa
set_option linter.unusedVariables false
set_option linter.unusedSimpArgs false
open Go.ChangeShapes Go.WideShapes Go.ChangeAt Go.RowKit

section
variable {P : Program} {w0 w : World} {X : Nat → Prop} {es : List Asn} {a : Act} {N : Nat} {env : List (Nat × Value)} {dst : Option Tmp} {ty : TypeId} {ps : String} {af : Array Edge} {gd : Option (Nat × Bool)} {t e z : TypeId} {x lo hi : Operand} {A : Option Addr} {n c l h : Nat} {kl kh : IntKind} {Q : Exit → Act → World → Prop} {c1 c2 : Code}
theorem run_bound {v : Value} {y i : Nat} {k : IntKind} {code : BoundsCode} (hv : v = .int k (i : Int)) (hi : i ≤ y) (w : World) : (Instr.sliceBound v y code).run P w = .ok i w := by
  subst hv
  have : (0 : Int) ≤ (i : Int) ∧ (i : Int) ≤ (y : Int) := by omega
  simp [Instr.sliceBound, asIntOf, this]
theorem y_sliceH (hF : Fr N env a) (hx : ev env x = some (.slice A n c)) (hh : ev env hi = some (.int kh (h : Int))) (hle : h ≤ c) (hu : P.underlying t = some (.slice e)) (hz : (P.info? e).map (·.size) = some z) :
    Yv P w0 X es a ⟨dst, .slice t x none (some hi) none, ty, ps, af, gd⟩ (.slice A h c) := fun w _ => by
  cases hie : P.info? e with
  | none => rw [hie] at hz; cases hz
  | some j =>
    have hb := fun code => run_bound (P := P) (v := .int kh (h : Int)) (y := c) (code := code) rfl hle w
    have ha : A.map (·.add 0) = A := by cases A <;> rfl
    simp [execOp, hF.ev hx, hF.ev hh, Instr.sliceAt, Instr.slice, run_underlying hu, Instr.sliceBounds, hb, sizeOf, typeInfo, hie, ha]
theorem y_sliceL (hF : Fr N env a) (hx : ev env x = some (.slice A n c)) (hl : ev env lo = some (.int kl (l : Int))) (hle : l ≤ n) (hu : P.underlying t = some (.slice e)) (hz : (P.info? e).map (·.size) = some z) :
    Yv P w0 X es a ⟨dst, .slice t x (some lo) none none, ty, ps, af, gd⟩ (.slice (if c = l then A else A.map (·.add (l * z))) (n - l) (c - l)) := fun w _ => by
  cases hie : P.info? e with
  | none => rw [hie] at hz; cases hz
  | some j =>
    rw [hie] at hz
    have hz' : j.size = z := by simpa using hz
    have hb := fun code => run_bound (P := P) (v := .int kl (l : Int)) (y := n) (code := code) rfl hle w
    simp [execOp, hF.ev hx, hF.ev hl, Instr.sliceAt, Instr.slice, run_underlying hu, Instr.sliceBounds, hb, sizeOf, typeInfo, hie, hz']
theorem y_sliceLH (hF : Fr N env a) (hx : ev env x = some (.slice A n c)) (hl : ev env lo = some (.int kl (l : Int))) (hh : ev env hi = some (.int kh (h : Int))) (hle : l ≤ h) (hhc : h ≤ c) (hu : P.underlying t = some (.slice e)) (hz : (P.info? e).map (·.size) = some z) :
    Yv P w0 X es a ⟨dst, .slice t x (some lo) (some hi) none, ty, ps, af, gd⟩ (.slice (if c = l then A else A.map (·.add (l * z))) (h - l) (c - l)) := fun w _ => by
  cases hie : P.info? e with
  | none => rw [hie] at hz; cases hz
  | some j =>
    rw [hie] at hz
    have hz' : j.size = z := by simpa using hz
    have hb := fun code => run_bound (P := P) (v := .int kl (l : Int)) (y := h) (code := code) rfl hle w
    have hc := fun code => run_bound (P := P) (v := .int kh (h : Int)) (y := c) (code := code) rfl hhc w
    simp [execOp, hF.ev hx, hF.ev hl, hF.ev hh, Instr.sliceAt, Instr.slice, run_underlying hu, Instr.sliceBounds, hb, hc, sizeOf, typeInfo, hie, hz']
theorem Ints.takeS {xs : List Int} (hi : Ints w (.slice A n c) xs) (hh : h ≤ n) : Ints w (.slice A h c) (xs.take h) := by
  obtain ⟨A', c', e1, h1, h2, h3⟩ := hi
  simp only [Value.slice.injEq] at e1
  obtain ⟨rfl, rfl, rfl⟩ := e1
  refine ⟨A, c, by simp [Nat.min_eq_left hh], by simp; omega, h2, by simp, fun h0 => ?_⟩
  have h0' : 0 < xs.length := by simp at h0; omega
  obtain ⟨ad, hA, hc⟩ := h3.2 h0'
  refine ⟨ad, hA, fun j u hj => hc j u ?_⟩
  rw [List.map_take, List.getElem?_take] at hj
  split at hj
  · exact hj
  · cases hj
theorem Ints.rowAt {xs : List Int} (hi : Ints w (.slice A n c) xs) : RowAt w 1 A n (xs.map (.int .i64)) := by
  obtain ⟨A', c', e1, h1, h2, h3⟩ := hi
  simp only [Value.slice.injEq] at e1
  obtain ⟨rfl, rfl, rfl⟩ := e1
  exact h3
theorem Ints.len {xs : List Int} (hi : Ints w (.slice A n c) xs) : n = xs.length ∧ n ≤ c ∧ c ≤ maxLen := by
  obtain ⟨A', c', e1, h1, h2, h3⟩ := hi
  simp only [Value.slice.injEq] at e1
  obtain ⟨rfl, rfl, rfl⟩ := e1
  exact ⟨rfl, h1, h2⟩

theorem Below.on {w w1 w2 : World} (h : Below w.heap.size w w1) (k : Below w1.heap.size w1 w2) : Below w.heap.size w w2 := h.trans (k.mono h.size)
/-- a block that was there before, known whole: a cell of it, and so many of its cells -/
theorem y_loadB {P : Program} {w0 : World} {es : List Asn} {a : Act} {N : Nat} {env : List (Nat × Value)} {dst : Option Tmp} {ty : TypeId} {ps : String} {af : Array Edge} {gd : Option (Nat × Bool)} {t T : TypeId} {x : Operand} {b o : Nat} {l : List Value} {v : Value} {d : TypeDesc}
    (hF : Fr N env a) (hx : ev env x = some (.pointer (some ⟨b, o, none⟩))) (hB : Blk w0 b T l) (hv : l[o]? = some v) (hu : P.underlying t = some d) (hd : d.isRow = false) : Yv P w0 NoB es a ⟨dst, .load t x, ty, ps, af, gd⟩ v :=
  y_load hF hx hu hd fun _ hw => ((hB.kept hw.below).cell o).trans hv
theorem y_loadBN {P : Program} {w0 : World} {es : List Asn} {a : Act} {N : Nat} {env : List (Nat × Value)} {dst : Option Tmp} {ty : TypeId} {ps : String} {af : Array Edge} {gd : Option (Nat × Bool)} {t T : TypeId} {x : Operand} {b o z : Nat} {l : List Value} {d : TypeDesc}
    (hF : Fr N env a) (hx : ev env x = some (.pointer (some ⟨b, o, none⟩))) (hB : Blk w0 b T l) (hu : P.underlying t = some d) (hd : d.isRow = true) (hz : (P.info? t).map (·.size) = some z) (hl : Nat.ble (o + z) l.length = true) : Yv P w0 NoB es a ⟨dst, .load t x, ty, ps, af, gd⟩ (.agg ((l.drop o).take z).toArray) :=
  y_loadCells hF hx hu hd (by
    have : o + z ≤ l.length := by simpa using hl
    rw [hz, List.length_take, List.length_drop, Nat.min_eq_left (by omega)]) fun _ hw j v hj => by
    rw [add_own]
    refine ((hB.kept hw.below).cell _).trans ?_
    have h1 := List.getElem?_take (l := l.drop o) (i := z) (j := j)
    rw [h1] at hj
    split at hj
    · rwa [List.getElem?_drop] at hj
    · cases hj
/-- a cut: whichever way the first piece goes, what follows begins with what is told here -/
theorem c_cut {G : Type} (I : G → List (Nat × Value)) (E : G → List Asn) (C : G → Prop) {base : List (Nat × Value)} {ebase : List Asn} (_ : Fr N base a) (_ : Wd w0 X ebase w)
    (h1 : c1.wp P (Exit.then (fun a' w' => ∃ g, Fr N (I g ++ base) a' ∧ Wd w0 X (E g ++ ebase) w' ∧ C g) Q) a w)
    (h2 : ∀ g a w, C g → Fr N (I g ++ base) a → Wd w0 X (E g ++ ebase) w → c2.wp P Q a w) : (Code.seq c1 c2).wp P Q a w := by
  refine wp_seq (wp_mono h1 fun e a' w' hq => ?_)
  cases e with
  | normal =>
    obtain ⟨g, hF, hW, hC⟩ := hq
    exact h2 g a' w' hC hF hW
  | exit id => exact hq
  | goto l => exact hq
  | ret => exact hq
  | panic ch => exact hq
  | outgrown => exact hq
/-- two of what was got, as one -/
theorem Wd.join (hW : Wd w0 X es w) {R R' : World → Prop} {r : List Asn} (he : es = .res R :: .res R' :: r) : Wd w0 X (.res (fun u => R u ∧ R' u) :: r) w := by
  subst he
  obtain ⟨hc, F, hA, hF, F', hA', hF', hr⟩ := hW
  refine ⟨hc, fun k => F k ∨ F' k, fun w' hk => ⟨hA w' fun k h => hk k (.inl h), hA' w' fun k h => hk k (.inr h)⟩, fun k hk => ⟨?_, ?_⟩, Own.mono (Nat.le_refl _) _ _ _ (fun k _ hn => ⟨fun hor => hn ?_, rfl⟩) hr⟩
  · rcases hk with hk | hk
    · exact (hF k hk).1
    · exact fun hg => (hF' k hk).1 (.inl hg)
  · rcases hk with hk | hk
    · exact (hF k hk).2
    · exact (hF' k hk).2
  · rcases hor with h | h | h
    · exact .inl (.inl h)
    · exact .inl (.inr h)
    · exact .inr h
theorem Own.weak {R R' : World → Prop} (h : ∀ u, R u → R' u) : ∀ (es : List Asn) (G : Nat → Prop) (i : Nat), es[i]? = some (.res R) → Own w G es → Own w G (es.set i (.res R'))
  | [], _, _, hi, _ => by simp at hi
  | B :: r, G, 0, hi, ⟨F, hA, hF, hr⟩ => by
    obtain rfl : B = .res R := by simpa using hi
    exact ⟨F, fun w' hk => h _ (hA w' hk), hF, hr⟩
  | B :: r, G, i + 1, hi, ⟨F, hA, hF, hr⟩ => ⟨F, hA, hF, Own.weak h r _ i (by simpa using hi) hr⟩
theorem Wd.weak (hW : Wd w0 X es w) (i : Nat) {R R' : World → Prop} (hi : es[i]? = some (.res R)) (h : ∀ u, R u → R' u) : Wd w0 X (es.set i (.res R')) w := ⟨hW.chg, hW.own.weak h es _ i hi⟩
/-- what is true everywhere may be got of nothing -/
theorem Wd.free (hW : Wd w0 X es w) {R : World → Prop} (h : ∀ u, R u) : Wd w0 X (.res R :: es) w :=
  hW.add (F := fun _ => False) (Below.refl _ _) (fun _ _ => h _) fun _ hk => hk.elim
end
/-- no slice that lies in the cells (not behind another slice) is wider than memory -/
def Fits (P : Program) : Nat → TypeId → List Value → Prop
  | 0, _, _ => True
  | d + 1, t, cs => match P.underlying t with
    | some (.struct fs) => ∀ (i : Nat) (f : Field), fs[i]? = some f → Fits P d f.type ((cs.drop f.offset).take (P.cellsOf f.type))
    | some (.slice e) => ∀ A n c, cs = [.slice A n c] → n * P.bytesOf e ≤ reachBytes
    | _ => True
theorem fits_of_trod {H : Type} {enc : TypeId × Value → H} {P : Program} {w : World} {base : Nat} {spare : Nat → Bool} {held : Bool} : ∀ (d fuel : Nat) (t : TypeId) (cs : List Value) (x : DataW H × List MemPlace),
    DataW.trod enc P w base spare held fuel t cs = some x → (∀ b ∈ x.1.weights P t, b ≤ reachBytes) → Fits P d t cs
  | 0, _, _, _, _, _, _ => trivial
  | d + 1, fuel, t, cs, x, h, hb => by
    unfold Fits
    cases hu : P.underlying t with
    | none => trivial
    | some k =>
      cases k with
      | struct fs =>
        obtain ⟨xs, n, _, rfl, hl, hlen, hg⟩ := DataW.trod_struct hu h
        intro i f hf
        have := hg i f hf
        have hi : i < xs.length := by rw [hlen]; exact (Array.getElem?_eq_some_iff.1 hf).1
        rw [List.getElem?_eq_getElem hi] at this
        refine fits_of_trod d _ _ _ _ this fun b hbb => hb b ?_
        simp only [DataW.weights, hu]
        exact DataW.weights_mem_each (j := i) (by simp [hf]) (by simp [hi]) b hbb
      | slice e =>
        intro A n c hcs
        rcases DataW.trod_slice hu h with ⟨rfl, _⟩ | ⟨a, len, cap, elems, rest, n', _, rfl, rfl, hb', hl, hm, hlen, hel, _⟩
        · simp only [List.cons.injEq, Value.slice.injEq, and_true] at hcs
          obtain ⟨_, rfl, _⟩ := hcs
          simp
        · simp only [List.cons.injEq, Value.slice.injEq, and_true] at hcs
          obtain ⟨_, rfl, _⟩ := hcs
          have := hb ((elems.length + rest.length) * P.bytesOf e) (by simp [DataW.weights, hu])
          refine Nat.le_trans (Nat.mul_le_mul_right _ ?_) this
          omega
      | _ => trivial
section
variable {H : Type} {enc : TypeId × Value → H} {P : Program} {w : World} {base : Nat} {spare : Nat → Bool} {held : Bool} {t : TypeId} {v : Value} {dd : DataW H} {p : List MemPlace} {ts : List TypeId} {ds : List (DataW H)} {cs : List Value} {d : Nat}
theorem fits_of (d : Nat) (h : DataW.Trod enc P w base spare held t v dd p) (hs : (DataW.weightsEach P ts ds).all (· ≤ reachBytes) = true) (j : Nat) (ht : ts[j]? = some t) (hd : ds[j]? = some dd) : Fits P d t v.cells.toList := by
  obtain ⟨fuel, hf⟩ := h
  exact fits_of_trod d fuel t _ _ hf fun b hb => by simpa using List.all_eq_true.1 hs b (DataW.weights_mem_each ht hd b hb)
theorem Fits.fld {fs : Array Field} (hu : P.underlying t = some (.struct fs)) (h : Fits P (d + 1) t cs) (i : Nat) {f : Field} {o z : Nat} {T : TypeId} {cs' : List Value} (hf : fs[i]? = some f) (ho : f.offset = o) (hT : f.type = T) (hz : P.cellsOf T = z) (hcs : (cs.drop o).take z = cs') : Fits P d T cs' := by
  subst ho hT hz hcs
  unfold Fits at h
  rw [hu] at h
  exact h i f hf
theorem Fits.slice {e : TypeId} (hu : P.underlying t = some (.slice e)) {A : Option Addr} {n c : Nat} (h : Fits P (d + 1) t [.slice A n c]) : n * P.bytesOf e ≤ reachBytes := by
  unfold Fits at h
  rw [hu] at h
  exact h A n c rfl
end
end Go.Proofs.Ytebklpbbglojmaa
