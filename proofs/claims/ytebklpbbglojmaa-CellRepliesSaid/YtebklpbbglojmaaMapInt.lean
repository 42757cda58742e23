/- What insert and look-up do on a map with integer keys that lies in the newest block. -/
import Derived.Test.YtebklpbbglojmaaMem
import Derived.WideMake
namespace Go.Proofs.Ytebklpbbglojmaa
set_option linter.unusedVariables false
set_option linter.unusedSimpArgs false
open Go.RowKit

theorem set_newest (w : World) (o o' : Obj) : ({ w.alloc o with heap := (w.alloc o).heap.setIfInBounds w.heap.size o' } : World) = w.alloc o' := by
  show ({ w with heap := (w.heap.push o).setIfInBounds w.heap.size o' } : World) = { w with heap := w.heap.push o' }
  congr 1
  apply Array.ext_getElem?
  intro i
  simp only [Array.getElem?_setIfInBounds, Array.getElem?_push, Array.size_push]
  by_cases h : w.heap.size = i <;> by_cases h' : i = w.heap.size <;> simp_all

theorem run_insert_new {P : Program} {mty kt et : TypeId} (hm : P.underlying mty = some (.map kt et)) (hk : P.underlying kt = some (.int .i64)) (a : Int) (v : Value) (es : Array MapEntry) (c : Nat)
    (hf : Instr.findNow (.int .i64) (.int .i64 a) es.toList 0 = some none) (w : World) :
    (Instr.mapUpdate mty (.map (some w.heap.size)) (.int .i64 a) v).run P (w.alloc (.map es c)) = .ok () (w.alloc (.map (es.push ⟨.int .i64 a, v, c⟩) (c + 1))) := by
  have hb : (w.alloc (.map es c)).heap[w.heap.size]? = some (.map es c) := (MapKept.heap_alloc w _).1
  have hc : (Instr.checkKey false 10000 kt (.int .i64 a)).run P (w.alloc (.map es c)) = .ok () (w.alloc (.map es c)) := MapKept.run_checkKey (k := .int .i64 a) hk (by simp [MapKept.IsKey]) false 9999
  simp only [Instr.mapUpdate, Sem.run_bind, run_underlying hm, Result.andThen, MapKept.run_getObj_map hb, hc, MapKept.run_findKey hk hf, MapKept.run_setObj_map _ hb, set_newest]

theorem run_lookup_new {P : Program} {mty kt et : TypeId} (hm : P.underlying mty = some (.map kt et)) (hk : P.underlying kt = some (.int .i64)) (a : Int) (es : Array MapEntry) (c : Nat) (w : World)
    {i : Nat} {v : Value} (hf : Instr.findNow (.int .i64) (.int .i64 a) es.toList 0 = some (some (i, v))) :
    (Instr.lookup mty (.map (some w.heap.size)) (.int .i64 a) true).run P (w.alloc (.map es c)) = .ok (.tuple #[v, .bool true]) (w.alloc (.map es c)) := by
  have hb : (w.alloc (.map es c)).heap[w.heap.size]? = some (.map es c) := (MapKept.heap_alloc w _).1
  have hc : (Instr.checkKey es.isEmpty 10000 kt (.int .i64 a)).run P (w.alloc (.map es c)) = .ok () (w.alloc (.map es c)) := MapKept.run_checkKey (k := .int .i64 a) hk (by simp [MapKept.IsKey]) _ 9999
  simp [Instr.lookup, run_underlying hm, Result.andThen, MapKept.run_getObj_map hb, hc, MapKept.run_findKey hk hf]
theorem run_lookup_new_none {P : Program} {mty kt et : TypeId} (hm : P.underlying mty = some (.map kt et)) (hk : P.underlying kt = some (.int .i64)) (a : Int) (es : Array MapEntry) (c : Nat) (w : World)
    {z : Value} (hz : ∀ w, (zeroValue et).run P w = .ok z w) (hf : Instr.findNow (.int .i64) (.int .i64 a) es.toList 0 = some none) :
    (Instr.lookup mty (.map (some w.heap.size)) (.int .i64 a) true).run P (w.alloc (.map es c)) = .ok (.tuple #[z, .bool false]) (w.alloc (.map es c)) := by
  have hb : (w.alloc (.map es c)).heap[w.heap.size]? = some (.map es c) := (MapKept.heap_alloc w _).1
  have hc : (Instr.checkKey es.isEmpty 10000 kt (.int .i64 a)).run P (w.alloc (.map es c)) = .ok () (w.alloc (.map es c)) := MapKept.run_checkKey (k := .int .i64 a) hk (by simp [MapKept.IsKey]) _ 9999
  simp [Instr.lookup, run_underlying hm, Result.andThen, MapKept.run_getObj_map hb, hc, MapKept.run_findKey hk hf, hz]
end Go.Proofs.Ytebklpbbglojmaa
