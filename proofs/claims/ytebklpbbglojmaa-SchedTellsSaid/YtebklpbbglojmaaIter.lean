/- A string's iterator of the call's own, one step on; nothing else turns. No program is named. -/
import Derived.Test.YtebklpbbglojmaaMem
import Derived.Lib.OthersKept
import Derived.Deep.LoopGhost
import Derived.Deep.Light
namespace Go.Proofs.Ytebklpbbglojmaa
set_option linter.unusedVariables false
set_option linter.unusedSimpArgs false
open Go.RowKit

theorem cell_iterAt {w : World} {k : Nat} {s : ByteArray} {pos pos' : Nat} (h : w.heap[k]? = some (.stringIter s pos)) (p : Addr) : (w.iterAt k s pos').cell? p = w.cell? p := by
  unfold World.cell?
  by_cases e : p.block = k
  · rw [e, Lib.iterAt_heap w k s pos pos' h, h]
  · rw [Lib.iterAt_other w k p.block s pos' e]
theorem frozen_iterAt {w : World} {k : Nat} {s : ByteArray} {pos pos' : Nat} (h : w.heap[k]? = some (.stringIter s pos)) (p : Addr) : (w.iterAt k s pos').frozen? p = w.frozen? p := by
  unfold World.frozen?
  by_cases e : p.block = k
  · rw [e, Lib.iterAt_heap w k s pos pos' h, h]
  · rw [Lib.iterAt_other w k p.block s pos' e]

/-- the world behind a step of an iterator -/
structure Ticked (k : Nat) (s : ByteArray) (pos : Nat) (w w' : World) : Prop where
  iter : w'.heap[k]? = some (.stringIter s pos)
  cell : ∀ p, w'.cell? p = w.cell? p
  frozen : ∀ p, w'.frozen? p = w.frozen? p
  size : w'.heap.size = w.heap.size
  below : Below k w w'
theorem Ticked.free {k pos : Nat} {s : ByteArray} {w w' : World} (h : Ticked k s pos w w') {p : Addr} {u : Value} (f : Free w p u) : Free w' p u := ⟨(h.cell p).trans f.1, (h.frozen p).trans f.2⟩

theorem next_ascii (w : World) (k : Nat) (s : ByteArray) (pos : Nat) (hk : w.heap[k]? = some (.stringIter s pos)) (h : pos < s.size) (t : Nat) (ht : (s[pos]'h).toNat = t) (ha : t < 128) :
    ∃ w', (∀ (P : Program) (ty : TypeId), (Instr.next (.pointer (some ⟨k, 0, none⟩)) true ty).run P w = .ok (.tuple #[.bool true, .int .i64 pos, .int .i32 t]) w') ∧ Ticked k s (pos + 1) w w' := by
  subst ht
  exact ⟨_, fun P ty => Lib.run_next_ascii_at w k s pos ty hk h ha, Lib.iterAt_heap w k s pos _ hk, cell_iterAt hk, frozen_iterAt hk, Lib.iterAt_size _ _ _ _, Lib.below_iterAt (Below.refl _ _) (Nat.le_refl _) _ _⟩
theorem next_done (w : World) (k : Nat) (s : ByteArray) (pos : Nat) (hk : w.heap[k]? = some (.stringIter s pos)) (h : ¬ pos < s.size) :
    ∀ (P : Program) (ty : TypeId), (Instr.next (.pointer (some ⟨k, 0, none⟩)) true ty).run P w = .ok (.tuple #[.bool false]) w := fun _ ty => Lib.run_next_end_at w k s pos ty hk h
end Go.Proofs.Ytebklpbbglojmaa
