/- Memory words for the walks: a slice value that reads as a row of cells, and what keeps it so. No program is named. -/
import Derived.WalkKit
import Derived.WalkSpells
import Derived.WalkLawsBesides
import Derived.BigQuiet
import Derived.Deep.QuietTactic
import Derived.Deep.DeepCutAuto
import Derived.Deep.Draws
import Derived.KernelRfl
import Derived.IntWalk
namespace Go.Proofs.Ytebklpbbglojmaa
set_option linter.unusedVariables false
set_option linter.unusedSimpArgs false
open Go.RowKit

theorem hide {p : Prop} (h : p) : Hid p := h
theorem block_of_add (a : Addr) (n : Nat) : (a.add n).block = a.block := by unfold Addr.add; split <;> rfl
theorem add_of_add (a : Addr) (i j : Nat) : (a.add i).add j = a.add (i + j) := by
  unfold Addr.add
  by_cases hi : i = 0 <;> by_cases hj : j = 0 <;> simp [hi, hj, Nat.add_assoc]

/-- The slice value '.slice A n _' with elements of so many cells holds the cells xs. -/
def RowAt (w : World) (size : Nat) (A : Option Addr) (n : Nat) (xs : List Value) : Prop :=
  xs.length = n * size ∧ (0 < n → ∃ ad, A = some ad ∧ ∀ j u, xs[j]? = some u → w.cell? (ad.add j) = some u)

section
variable {w w' : World} {size n : Nat} {A : Option Addr} {xs : List Value}
theorem RowAt.none_ : RowAt w size A 0 [] := ⟨by simp, fun h => absurd h (by omega)⟩
theorem RowAt.keep (h : RowAt w size A n xs) (hk : ∀ (p : Addr) u, w.cell? p = some u → w'.cell? p = some u) : RowAt w' size A n xs :=
  ⟨h.1, fun hn => by
    obtain ⟨ad, e, hc⟩ := h.2 hn
    exact ⟨ad, e, fun j u hu => hk _ _ (hc j u hu)⟩⟩
theorem RowAt.at_ {k : Nat} (h : RowAt w 1 A n xs) (hk : k < n) : ∃ ad u, A = some ad ∧ xs[k]? = some u ∧ w.cell? (ad.add k) = some u := by
  obtain ⟨ad, e, hc⟩ := h.2 (by omega)
  have hl : k < xs.length := by have := h.1; omega
  exact ⟨ad, xs[k], e, List.getElem?_eq_getElem hl, hc k _ (List.getElem?_eq_getElem hl)⟩
theorem RowAt.cut (h : RowAt w size A n xs) {k cap : Nat} (hk : k ≤ n) (hc : n ≤ cap) :
    RowAt w size (if cap = k then A else A.map (·.add (k * size))) (n - k) (xs.drop (k * size)) := by
  refine ⟨by rw [List.length_drop, h.1, Nat.sub_mul], fun hn => ?_⟩
  obtain ⟨ad, rfl, hcell⟩ := h.2 (by omega)
  rw [if_neg (by omega)]
  refine ⟨ad.add (k * size), rfl, fun j u hu => ?_⟩
  rw [add_of_add]
  exact hcell _ u (by rw [← hu, List.getElem?_drop])
end

/-- A cell that is there stays, where nothing below the heap's end has turned. -/
theorem cell_below {w w' : World} (hb : Below w.heap.size w w') {p : Addr} {u : Value} (h : w.cell? p = some u) : w'.cell? p = some u :=
  (hb.cell (World.block_lt_of_cell? w p h)).trans h
theorem cell_drew {w : World} {p : Addr} {u : Value} (h : w.cell? p = some u) : w.drew.cell? p = some u := h
theorem cell_drewN {w : World} {n : Nat} {p : Addr} {u : Value} (h : w.cell? p = some u) : (w.drewN n).cell? p = some u := h
theorem cell_alloc {w : World} {o : Obj} {p : Addr} {u : Value} (h : w.cell? p = some u) : (w.alloc o).cell? p = some u := cell_below ((Below.refl _ _).alloc (Nat.le_refl _) o) h
theorem cell_set {w : World} {p q : Addr} {u v : Value} (hne : ¬ q = p) (h : w.cell? p = some u) : (w.setCell q v).cell? p = some u := (World.cell?_setCell_other w q p v hne).trans h
theorem cell_same {w : World} {p : Addr} {u v : Value} (h : w.cell? p = some u) : (w.setCell p v).cell? p = some v := World.cell?_setCell_same w p v h
/-- a cell that is there and may be written -/
def Free (w : World) (p : Addr) (u : Value) : Prop := w.cell? p = some u ∧ w.frozen? p = false
theorem Free.below {w w' : World} (hb : Below w.heap.size w w') {p : Addr} {u : Value} (h : Free w p u) : Free w' p u :=
  ⟨cell_below hb h.1, (hb.frozen (World.block_lt_of_cell? w p h.1)).trans h.2⟩
theorem Free.drew {w : World} {p : Addr} {u : Value} (h : Free w p u) : Free w.drew p u := h
theorem Free.drewN {w : World} {n : Nat} {p : Addr} {u : Value} (h : Free w p u) : Free (w.drewN n) p u := h
theorem Free.alloc {w : World} {o : Obj} {p : Addr} {u : Value} (h : Free w p u) : Free (w.alloc o) p u := h.below ((Below.refl _ _).alloc (Nat.le_refl _) o)
theorem frozen_setCell (w : World) (p q : Addr) (v : Value) : (w.setCell q v).frozen? p = w.frozen? p := by
  simp only [World.frozen?, World.setCell, Array.getElem?_modify]
  by_cases h : q.block = p.block
  · rw [if_pos h]
    cases hx : w.heap[p.block]? with
    | none => rfl
    | some o => cases o <;> rfl
  · rw [if_neg h]
theorem Free.set {w : World} {p q : Addr} {u v : Value} (hne : ¬ q = p) (h : Free w p u) : Free (w.setCell q v) p u := ⟨cell_set hne h.1, (frozen_setCell w p q v).trans h.2⟩
theorem Free.same {w : World} {p : Addr} {u v : Value} (h : Free w p u) : Free (w.setCell p v) p v := ⟨cell_same h.1, (frozen_setCell w p p v).trans h.2⟩
theorem Free.new (w : World) (cs : Array Value) (e : TypeId) (i : Nat) (u : Value) (h : cs[i]? = some u) : Free (w.alloc (.cells cs e)) ⟨w.heap.size, i, none⟩ u :=
  ⟨by rw [cell_of_row _ w.heap.size i cs e (0, 0) (heap_alloc_new w _)]; exact h, by unfold World.frozen?; dsimp only; rw [heap_alloc_new w _]; simp⟩
theorem Free.new1 (w : World) (o : Obj) (cs : Array Value) (e : TypeId) (i : Nat) (u : Value) (h : cs[i]? = some u) : Free ((w.alloc o).alloc (.cells cs e)) ⟨w.heap.size + 1, i, none⟩ u := by
  have := Free.new (w.alloc o) cs e i u h
  rwa [World.size_alloc] at this
theorem Free.new2 (w : World) (o o' : Obj) (cs : Array Value) (e : TypeId) (i : Nat) (u : Value) (h : cs[i]? = some u) : Free (((w.alloc o).alloc o').alloc (.cells cs e)) ⟨w.heap.size + 1 + 1, i, none⟩ u := by
  have := Free.new1 (w.alloc o) o' cs e i u h
  rwa [World.size_alloc] at this
theorem RowAt.below {w w' : World} {size n : Nat} {A : Option Addr} {xs : List Value} (h : RowAt w size A n xs) (hb : Below w.heap.size w w') : RowAt w' size A n xs :=
  h.keep fun _ _ hc => cell_below hb hc

theorem below_drewN {B : Nat} {a w : World} (h : Below B a w) (n : Nat) : Below B a (w.drewN n) := ⟨h.os, h.tape, h.output, h.size, h.block⟩
theorem bcell {W w1 : World} (hb : Below W.heap.size W w1) : (∀ b o, b < W.heap.size → w1.cell? ⟨b, o, none⟩ = W.cell? ⟨b, o, none⟩) ∧ (∀ b o, b < W.heap.size → w1.frozen? ⟨b, o, none⟩ = W.frozen? ⟨b, o, none⟩) :=
  ⟨fun b o h => hb.cell (p := ⟨b, o, none⟩) h, fun b o h => hb.frozen (p := ⟨b, o, none⟩) h⟩

theorem new_ne0 {w : World} {a : Addr} {u : Value} (h : w.cell? a = some u) (o : Nat) : ¬ (⟨w.heap.size, o, none⟩ : Addr) = a := by
  rintro rfl
  have h2 : _ < w.heap.size := World.block_lt_of_cell? w _ h
  dsimp only at h2
  omega
theorem new_ne {w : World} {a : Addr} {u : Value} (h : w.cell? a = some u) (k o : Nat) : ¬ (⟨w.heap.size + k, o, none⟩ : Addr) = a := by
  rintro rfl
  have h2 : _ < w.heap.size := World.block_lt_of_cell? w _ h
  dsimp only at h2
  omega

/-- a quiet call inside a region that draws: contracts that say 'w = w'' -/
theorem quiet_left {P : Program} {f : FuncId} {args : Array Value} {w : World} {n : Nat} {v : Value}
    (h : Calls P f args (w.drewN n) fun e w' => e = .returned v ∧ w.drewN n = w') : Calls P f args (w.drewN n) fun e w'' => e = .returned v ∧ ∃ m, w'' = w.drewN m :=
  h.mono fun _ _ ⟨he, hm⟩ => ⟨he, n, hm.symm⟩
theorem quiet_add_left {P : Program} {f : FuncId} {args : Array Value} {w : World} {a n : Nat} {v : Value}
    (h : Calls P f args (w.drewN (a + n)) fun e w' => e = .returned v ∧ w.drewN (a + n) = w') :
    Calls P f args (w.drewN (a + n)) fun e w'' => e = .returned v ∧ ∃ m, w'' = w.drewN (a + m) :=
  h.mono fun _ _ ⟨he, hm⟩ => ⟨he, n, hm.symm⟩

/-- Nothing has turned but the count of the draws. -/
def Drew (w w' : World) : Prop := ∃ q, w' = w.drewN q
theorem Drew.mk (w : World) (q : Nat) : Drew w (w.drewN q) := ⟨q, rfl⟩
theorem Drew.refl (w : World) : Drew w w := ⟨0, rfl⟩
theorem Drew.drewN {w w' : World} (h : Drew w w') (n : Nat) : Drew w (w'.drewN n) := by
  obtain ⟨q, rfl⟩ := h
  exact ⟨q + n, by rw [World.drewN_drewN]⟩
theorem Drew.drew {w w' : World} (h : Drew w w') : Drew w w'.drew := h.drewN 1
theorem Drew.trans {a b c : World} (h : Drew a b) (k : Drew b c) : Drew a c := by
  obtain ⟨q, rfl⟩ := k
  exact h.drewN q
theorem Drew.below {w w' : World} (h : Drew w w') (B : Nat) : Below B w w' := by
  obtain ⟨q, rfl⟩ := h
  exact below_drewN (Below.refl _ _) q
theorem Drew.cell {w w' : World} (h : Drew w w') (a : Addr) : w'.cell? a = w.cell? a := by
  obtain ⟨q, rfl⟩ := h
  rfl

section
variable {w W w1 : World}
theorem _root_.Go.RowKit.Below.via (h : Below w.heap.size w W) (hb : Below W.heap.size W w1) : Below w.heap.size w w1 := h.trans (hb.mono h.size)
theorem _root_.Go.RowKit.Below.viaD (h : Below w.heap.size w W) (hb : Drew W w1) : Below w.heap.size w w1 := h.trans (hb.below _)
theorem _root_.Go.RowKit.Below.alloc1 (h : Below w.heap.size w W) (o : Obj) : Below w.heap.size w (W.alloc o) := h.alloc h.size o
theorem _root_.Go.RowKit.Below.drewN1 (h : Below w.heap.size w W) (n : Nat) : Below w.heap.size w (W.drewN n) := below_drewN h n
theorem _root_.Go.RowKit.Below.setCell1 (h : Below w.heap.size w W) {p : Addr} (hp : w.heap.size ≤ p.block) (u : Value) : Below w.heap.size w (W.setCell p u) := h.setCell hp u
end

/-- The value is a slice that reads as these integers. -/
def Ints (w : World) (v : Value) (l : List Int) : Prop :=
  ∃ A c, v = .slice A l.length c ∧ l.length ≤ c ∧ c ≤ maxLen ∧ RowAt w 1 A l.length (l.map (.int .i64))

theorem Ints.keep {w w' : World} {v : Value} {l : List Int} (h : Ints w v l) (hk : ∀ (p : Addr) u, w.cell? p = some u → w'.cell? p = some u) : Ints w' v l := by
  obtain ⟨A, c, e, h1, h2, h3⟩ := h
  exact ⟨A, c, e, h1, h2, h3.keep hk⟩
theorem Ints.below {w w' : World} {v : Value} {l : List Int} (h : Ints w v l) (hb : Below w.heap.size w w') : Ints w' v l := h.keep fun _ _ hc => cell_below hb hc
theorem Ints.nil_ {w : World} : Ints w (.slice none 0 0) [] := ⟨none, 0, rfl, by simp, by simp, RowAt.none_⟩

theorem Ints.form {w : World} {v : Value} {l : List Int} (h : Ints w v l) {n : Nat} (hn : l.length = n) : ∃ A c, v = .slice A n c := by
  obtain ⟨A, c, rfl, -⟩ := h
  exact ⟨A, c, by rw [hn]⟩

/-- a row of integers at an index -/
theorem ints_at {w : World} {A : Option Addr} {l : List Int} (h : RowAt w 1 A l.length (l.map (.int .i64))) {k : Nat} (hk : k < l.length) :
    ∃ ad, A = some ad ∧ w.cell? (ad.add k) = some (.int .i64 l[k]) := by
  obtain ⟨ad, u, e, hx, hc⟩ := h.at_ hk
  refine ⟨ad, e, ?_⟩
  rw [hc, ← hx]
  simp [hk]

end Go.Proofs.Ytebklpbbglojmaa
