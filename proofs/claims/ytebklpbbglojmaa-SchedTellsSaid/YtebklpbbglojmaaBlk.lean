/- A block of the call's own, known whole. No program is named. -/
import Derived.Test.YtebklpbbglojmaaMem
import Derived.Test.YtebklpbbglojmaaApp
namespace Go.Proofs.Ytebklpbbglojmaa
set_option linter.unusedVariables false
set_option linter.unusedSimpArgs false
open Go.RowKit

/-- the block holds these cells, and none is frozen -/
def Blk (w : World) (b : Nat) (T : TypeId) (l : List Value) : Prop := w.heap[b]? = some (.cells l.toArray T (0, 0))
section
variable {w w' : World} {b : Nat} {T : TypeId} {l : List Value}
theorem Blk.cell (h : Blk w b T l) (o : Nat) : w.cell? ⟨b, o, none⟩ = l[o]? := by
  rw [cell_of_row w b o l.toArray T (0, 0) h]; simp
theorem Blk.frozen (h : Blk w b T l) (o : Nat) : w.frozen? ⟨b, o, none⟩ = false := by
  unfold Blk at h
  unfold World.frozen?
  dsimp only
  rw [h]
  simp
theorem Blk.lt (h : Blk w b T l) : b < w.heap.size := (Array.getElem?_eq_some_iff.1 h).1
theorem Blk.free (h : Blk w b T l) {o : Nat} {u : Value} (hu : l[o]? = some u) : Free w ⟨b, o, none⟩ u := ⟨(h.cell o).trans hu, h.frozen o⟩
theorem Blk.set (h : Blk w b T l) (o : Nat) (v : Value) : Blk (w.setCell ⟨b, o, none⟩ v) b T (l.set o v) := by
  unfold Blk at *
  simp [World.setCell, Array.getElem?_modify, h]
theorem Blk.setOther (h : Blk w b T l) {p : Addr} (hp : p.block ≠ b) (v : Value) : Blk (w.setCell p v) b T l := by
  unfold Blk at *
  rw [Below.heap_setCell _ _ _ _ (fun e => hp e.symm)]
  exact h
theorem Blk.drewN (h : Blk w b T l) (n : Nat) : Blk (w.drewN n) b T l := h
theorem Blk.drew (h : Blk w b T l) : Blk w.drew b T l := h
theorem Blk.below (h : Blk w b T l) {B : Nat} (hb : Below B w w') (hB : b < B) : Blk w' b T l := (hb.block b hB).trans h
theorem Blk.kept (h : Blk w b T l) (hb : Below w.heap.size w w') : Blk w' b T l := h.below hb h.lt
theorem Blk.alloc (h : Blk w b T l) (o : Obj) : Blk (w.alloc o) b T l := h.kept ((Below.refl _ _).alloc (Nat.le_refl _) o)
theorem Blk.new (w : World) (cs : Array Value) (T : TypeId) : Blk (w.alloc (.cells cs T)) w.heap.size T cs.toList := by
  unfold Blk
  rw [heap_alloc_new w _]
theorem Blk.new1 (w : World) (o : Obj) (cs : Array Value) (T : TypeId) : Blk ((w.alloc o).alloc (.cells cs T)) (w.heap.size + 1) T cs.toList := by
  have := Blk.new (w.alloc o) cs T
  rwa [World.size_alloc] at this
theorem Blk.new2 (w : World) (o o' : Obj) (cs : Array Value) (T : TypeId) : Blk (((w.alloc o).alloc o').alloc (.cells cs T)) (w.heap.size + 1 + 1) T cs.toList := by
  have := Blk.new1 (w.alloc o) o' cs T
  rwa [World.size_alloc] at this
theorem Blk.new3 (w : World) (o o' o'' : Obj) (cs : Array Value) (T : TypeId) : Blk ((((w.alloc o).alloc o').alloc o'').alloc (.cells cs T)) (w.heap.size + 1 + 1 + 1) T cs.toList := by
  have := Blk.new2 (w.alloc o) o' o'' cs T
  rwa [World.size_alloc] at this
theorem Blk.grown (h : Blk w b T l) {r : Option Nat} (hg : w.grownBy w' r) (hr : some b ≠ r) : Blk w' b T l := (hg.block b h.lt hr).trans h
theorem Blk.same (h : Blk w b T l) {m : List Value} (e : l = m) : Blk w b T m := e ▸ h
end
end Go.Proofs.Ytebklpbbglojmaa
