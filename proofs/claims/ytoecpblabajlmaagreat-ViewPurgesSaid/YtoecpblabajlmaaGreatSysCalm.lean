/- The reference's CalmOf: what it gives. -/
import Derived.Test.YtoecpblabajlmaaGreatSysOwn
namespace Go.Proofs.YtoecpblabajlmaaGreat
set_option linter.unusedVariables false
set_option linter.unusedSimpArgs false
open Go.ChangeShapes Go.WideShapes Go.ChangeAt Go.RowKit

set_option maxRecDepth 100000

theorem map_set {α β : Type} (f : α → β) (l : List α) (p : Nat) (q : α) : (l.set p q).map f = (l.map f).set p (f q) := by
  simp
theorem sys_len {x y : SysD} (h : y.sys = x.sys) : y.parts.length = x.parts.length ∧ y.chans = x.chans ∧ y.slots = x.slots := by
  have h1 := congrArg (fun s => s.parts.length) h
  exact ⟨by simpa [SysD.sys] using h1, congrArg Sys.chans h, congrArg Sys.slots h⟩
/-- a part put in the place of another one, in an own row of parts -/
theorem parts_put {y : SysD} {b c p n : Nat} {T : TypeId} {l l' : List Value} {q : PP} {u : World} (hn : n = y.parts.length) (hp : p < n) (hl' : l' = splice l (p * 2) (encP q)) (hB : Blk u b T l') (htk : l.take (n * 2) = y.parts.flatMap encP) (hnc : n ≤ c) (hcm : c ≤ maxLen) (hll : l.length = c * 2) (hr : y.Rest u) (hq : q.At u) :
    SysD.At ⟨y.parts.set p q, some ⟨b, 0, none⟩, c, y.chans, y.ha, y.hc, y.slots, y.sa, y.sc⟩ u := by
  subst hl'
  have h := flat_splice encP_len htk hn hp (by omega) q
  refine ⟨?_, fun q' hq' => ?_, hr.2.1, hr.2.2⟩
  · have := flat_take (c := c) hB (xs := y.parts.set p q) (by simpa using hn) h encP_len hnc hcm
    rw [hn] at this
    simpa using this
  · rcases List.mem_or_eq_of_mem_set hq' with h1 | rfl
    · exact hr.1 _ h1
    · exact hq
theorem parts_sys {x y : SysD} {p : Nat} {q : PP} {b c : Nat} (h : y.sys = x.sys) (hq : q.1 = calmP) :
    SysD.sys ⟨y.parts.set p q, some ⟨b, 0, none⟩, c, y.chans, y.ha, y.hc, y.slots, y.sa, y.sc⟩ = calmSys x.sys p := by
  rw [← h]
  simp only [SysD.sys, calmSys, map_set, hq]

end Go.Proofs.YtoecpblabajlmaaGreat
