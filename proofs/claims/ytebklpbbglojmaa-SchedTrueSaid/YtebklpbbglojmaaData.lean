/- Slices whose elements are flat rows of cells (structs of numbers). No program is named. -/
import Derived.Test.YtebklpbbglojmaaMem
import Derived.Test.YtebklpbbglojmaaApp
import Derived.Deep.LoopGhost
import Derived.Deep.Light
namespace Go.Proofs.Ytebklpbbglojmaa
set_option linter.unusedVariables false
set_option linter.unusedSimpArgs false
open Go.RowKit

/-- The value is a slice whose elements, each of so many cells, hold the things of the list. -/
def Flat {α : Type} (enc : α → List Value) (size : Nat) (w : World) (v : Value) (l : List α) : Prop :=
  ∃ A c, v = .slice A l.length c ∧ l.length ≤ c ∧ c ≤ maxLen ∧ RowAt w size A l.length (l.flatMap enc)
section
variable {α : Type} {enc : α → List Value} {size : Nat} {w w' : World} {v : Value} {l : List α}
theorem Flat.keep (h : Flat enc size w v l) (hk : ∀ (p : Addr) u, w.cell? p = some u → w'.cell? p = some u) : Flat enc size w' v l := by
  obtain ⟨A, c, e, h1, h2, h3⟩ := h
  exact ⟨A, c, e, h1, h2, h3.keep hk⟩
theorem Flat.below (h : Flat enc size w v l) (hb : Below w.heap.size w w') : Flat enc size w' v l := h.keep fun _ _ hc => cell_below hb hc
theorem Flat.nil_ : Flat enc size w (.slice none 0 0) ([] : List α) := ⟨none, 0, rfl, by simp, by simp, by simpa using RowAt.none_⟩
theorem Flat.form (h : Flat enc size w v l) {n : Nat} (hn : l.length = n) : ∃ A c, v = .slice A n c := by
  obtain ⟨A, c, rfl, -⟩ := h
  exact ⟨A, c, by rw [hn]⟩
theorem flat_get (hs : ∀ a, (enc a).length = size) (k j : Nat) (hk : k < l.length) (hj : j < size) : (l.flatMap enc)[k * size + j]? = (enc l[k])[j]? := by
  induction l generalizing k with
  | nil => simp at hk
  | cons x r ih =>
    rw [List.flatMap_cons]
    cases k with
    | zero => rw [List.getElem?_append_left (by rw [hs]; omega)]; simp
    | succ k =>
      rw [List.getElem?_append_right (by rw [hs, Nat.succ_mul]; omega), hs, Nat.succ_mul, show k * size + size + j - size = k * size + j by omega, ih k (by simpa using hk)]
      simp
theorem flat_at {A : Option Addr} (hs : ∀ a, (enc a).length = size) (h : RowAt w size A l.length (l.flatMap enc)) {k : Nat} (hk : k < l.length) :
    ∃ ad, A = some ad ∧ (∀ u, (enc l[k])[0]? = some u → w.cell? (ad.add (k * size)) = some u) ∧
      ∀ j u, (enc l[k])[j + 1]? = some u → w.cell? ⟨(ad.add (k * size)).block, (ad.add (k * size)).off + (j + 1), none⟩ = some u := by
  obtain ⟨ad, e, hc⟩ := h.2 (by omega)
  have hall : ∀ j u, (enc l[k])[j]? = some u → w.cell? ((ad.add (k * size)).add j) = some u := by
    intro j u hu
    have hj : j < size := by
      have := (List.getElem?_eq_some_iff.1 hu).1
      rwa [hs] at this
    rw [add_of_add]
    exact hc _ u (by rw [flat_get hs k j hk hj]; exact hu)
  exact ⟨ad, e, fun u hu => by simpa [Addr.add] using hall 0 u hu, fun j u hu => by simpa [Addr.add] using hall (j + 1) u hu⟩
end

/-- integers in a row of the call's own whose block has this element type -/
def OwnAs (T : TypeId) (w : World) (base : Nat) (v : Value) (l : List Int) : Prop := w.ownsRow base T 1 v l.length (l.map (.int .i64))
section
variable {T : TypeId} {w w' : World} {base : Nat} {v : Value} {l : List Int}
theorem OwnAs.own (h : OwnAs T w base v l) : OwnInts w base v l := ⟨T, h⟩
theorem OwnAs.ints (h : OwnAs T w base v l) : Ints w v l := h.own.ints
theorem OwnAs.below (h : OwnAs T w base v l) (hb : Below w.heap.size w w') : OwnAs T w' base v l := ownsRow_kept_below h hb
theorem OwnAs.set (h : OwnAs T w base v l) {p : Addr} (hp : p.block < base) (u : Value) : OwnAs T (w.setCell p u) base v l := ownsRow_setCell_below h hp u
theorem OwnAs.drewN (h : OwnAs T w base v l) (n : Nat) : OwnAs T (w.drewN n) base v l := h
theorem OwnAs.less (h : OwnAs T w base v l) {base' : Nat} (hb : base' ≤ base) : OwnAs T w base' v l := ownsRow_less h hb
theorem OwnAs.form (h : OwnAs T w base v l) {n : Nat} (hn : l.length = n) : ∃ A c, v = .slice A n c := h.ints.form hn
theorem OwnAs.nil_ : OwnAs T w base (.slice none 0 0) [] := World.ownsRow_nil _ _ _ _
theorem OwnAs.of_own {n : Nat} (h : w.ownsRow base T 1 v n (l.map (.int .i64))) {base' : Nat} (hb : base' ≤ base) : OwnAs T w base' v l := by
  have hn : n = l.length := by simpa using h.1.symm
  subst hn
  exact ownsRow_less h hb
end

/-- an instruction -/
structure Ins where
  op : Int
  a : Int
  b : Int
  n : Int
def Ins.cells (i : Ins) : List Value := [.int .i64 i.op, .int .i64 i.a, .int .i64 i.b, .int .i64 i.n]
theorem Ins.cells_len (i : Ins) : i.cells.length = 4 := rfl
abbrev Ins.val (i : Ins) : Value := .agg #[.int .i64 i.op, .int .i64 i.a, .int .i64 i.b, .int .i64 i.n]
instance : DecidableEq Ins := fun x y => decidable_of_iff (x.op = y.op ∧ x.a = y.a ∧ x.b = y.b ∧ x.n = y.n)
  ⟨fun h => by cases x; cases y; simp_all, fun h => by subst h; exact ⟨rfl, rfl, rfl, rfl⟩⟩
abbrev Code_ (w : World) (v : Value) (l : List Ins) : Prop := Flat Ins.cells 4 w v l

end Go.Proofs.Ytebklpbbglojmaa
