/- Plain laws: what a step leaves alone; a calm one in the place of another one. -/
import Derived.Test.YtoecpblabajlmaaKernOw
import Derived.Test.YtoecpblabajlmaaKernO
namespace Go.Proofs.Ytoecpblabajlmaa
set_option linter.unusedVariables false
set_option linter.unusedSimpArgs false
open Go.ChangeShapes Go.WideShapes Go.ChangeAt Go.RowKit
set_option maxRecDepth 100000

theorem stepErrW_zero {s : Sys} {w : Wrl} (h : stepErrW s w = 0) : chkSys s = 0 ∧ Right s w ∧ w.tick < 300 := by
  unfold stepErrW at h
  by_cases h1 : chkWorld s w = 0
  · rw [if_pos h1] at h
    by_cases h2 : w.tick = 300
    · rw [if_pos h2] at h; cases h
    · obtain ⟨h3, h4⟩ := chkWorld_zero h1
      have hr := right_iff.1 h4
      exact ⟨h3, hr, by have := hr.t1; omega⟩
  · rw [if_neg h1] at h; exact absurd h h1
theorem getD_set_ne {α : Type} {l : List α} {n k : Nat} {c d : α} (h : n ≠ k) : (l.set n c).getD k d = l.getD k d := by
  simp only [List.getD, List.getElem?_set, if_neg h]
/-- a step's line: of a channel of one's own -/
theorem stepP_lines {s : Sys} {w : Wrl} {p : Nat} (hk : chkSys s = 0) (hp : p < s.parts.length) (k : Nat) (h1 : (s.chans.getD k C0).from_ ≠ p) (h2 : (s.chans.getD k C0).to_ ≠ p) : (stepP s p w).lines.getD k [] = w.lines.getD k [] := by
  obtain ⟨⟨c, q⟩, e⟩ : ∃ q, stepOf (s.parts.getD p Pt0) (w.cells.getD p Cel.zero) = q := ⟨_, rfl⟩
  have hw := stepOf_want (c := w.cells.getD p Cel.zero) hk hp
  rw [e] at hw
  dsimp only at hw
  rcases hw with hz | hw
  · rw [stepP_0 e (by rw [hz]; rfl)]
  · rw [stepP_1 e (by rcases hw.kind with h | h <;> omega) rfl]
    refine getD_set_ne fun h => ?_
    subst h
    rcases hw.kind with ⟨h, -⟩ | ⟨h, -⟩
    · exact h1 (hw.put h)
    · exact h2 (hw.get h)
theorem stepP_lens {s : Sys} {w : Wrl} {p : Nat} : (stepP s p w).cells.length = w.cells.length ∧ (stepP s p w).lines.length = w.lines.length := by
  unfold stepP
  dsimp only
  split <;> simp
def setRead (w : Wrl) (u : Nat) (r : Int) : Wrl := ⟨w.tick, w.cells.set u { w.cells.getD u Cel.zero with read := r }, w.lines⟩
theorem calm_right {s : Sys} {w : Wrl} (hr : Right s w) {u : Nat} (hu : u < s.parts.length) : Right (calmSys s u) (setRead w u 0) := by
  have hcl := hr.cl
  refine ⟨hr.t0, hr.t1, by simpa [setRead, calmSys] using hcl, hr.ll, fun k hk => ?_, hr.line⟩
  have hk' : k < w.cells.length := by simpa [setRead] using hk
  have h2 := hr.cell k hk'
  simp only [setRead, calmSys]
  rw [getD_set (by omega), getD_set (by omega)]
  by_cases h : u = k
  · subst h
    rw [if_pos rfl, if_pos rfl]
    refine ⟨?_, by simp⟩
    have h1 := h2.1
    simp only [cellFine, decide_eq_true_eq] at h1 ⊢
    omega
  · rw [if_neg h, if_neg h]
    exact h2
theorem calm_err {s : Sys} {w : Wrl} (h : stepErrW s w = 0) {u : Nat} (hu : u < s.parts.length) : stepErrW (calmSys s u) (setRead w u 0) = 0 := by
  obtain ⟨hk, hr, ht⟩ := stepErrW_zero h
  exact stepErrW_0 (chkWorld_0 (chkSys_calm hk) (right_iff.2 (calm_right hr hu))) (by show w.tick ≠ 300; omega)
theorem set_back {cells : List Cel} {u p : Nat} {c0 d : Cel} {r : Int} (hup : u ≠ p) (hu : u < cells.length) (hc0 : c0 = { cells.getD u Cel.zero with read := 0 }) (hr : r = (cells.getD u Cel.zero).read) :
    ((cells.set u c0).set p d).set u { ((cells.set u c0).set p d).getD u Cel.zero with read := r } = cells.set p d := by
  have e : ((cells.set u c0).set p d).getD u Cel.zero = c0 := by rw [getD_set_ne (fun h => hup h.symm), getD_set hu, if_pos rfl]
  rw [e, List.set_comm _ _ (fun h => hup h.symm), List.set_set, hc0, hr]
  have e2 : ({ ({ cells.getD u Cel.zero with read := 0 } : Cel) with read := (cells.getD u Cel.zero).read } : Cel) = cells.getD u Cel.zero := rfl
  rw [e2]
  have e3 : cells.set u (cells.getD u Cel.zero) = cells := by
    rw [List.getD, List.getElem?_eq_getElem hu, Option.getD_some, List.set_getElem_self]
  rw [e3]
theorem calm_step {s : Sys} {w : Wrl} (h : stepErrW s w = 0) {u p : Nat} (hw : whoOf s.slots w.tick = p) (hu : u < s.parts.length) (hup : u ≠ p) : setRead (stepW (calmSys s u) (setRead w u 0)) u (w.cells.getD u Cel.zero).read = stepW s w := by
  obtain ⟨hk, hr, ht⟩ := stepErrW_zero h
  have hcl := hr.cl
  have e1 : stepW s w = stepP s p w := by unfold stepW; rw [hw, Int.toNat_natCast]
  have e2 : stepW (calmSys s u) (setRead w u 0) = stepP (calmSys s u) p (setRead w u 0) := by
    unfold stepW
    rw [show whoOf (calmSys s u).slots (setRead w u 0).tick = p from hw, Int.toNat_natCast]
  rw [e1, e2]
  have h1 : (calmSys s u).parts.getD p Pt0 = s.parts.getD p Pt0 := getD_set_ne hup
  have h2 : (setRead w u 0).cells.getD p Cel.zero = w.cells.getD p Cel.zero := getD_set_ne hup
  obtain ⟨⟨c, q⟩, e⟩ : ∃ q, stepOf (s.parts.getD p Pt0) (w.cells.getD p Cel.zero) = q := ⟨_, rfl⟩
  have e' : stepOf ((calmSys s u).parts.getD p Pt0) ((setRead w u 0).cells.getD p Cel.zero) = (c, q) := by rw [h1, h2, e]
  by_cases hq : q.kind = 0
  · rw [stepP_0 e hq, stepP_0 e' hq]
    simp only [setRead]
    rw [set_back hup (by omega) rfl rfl]
  · rw [stepP_1 e hq rfl, stepP_1 e' hq rfl]
    simp only [setRead, calmSys]
    rw [set_back hup (by omega) rfl rfl]
/-- what a step leaves of a world in memory -/
theorem turn_facts {x : SysD} {y : WD} (h0 : stepErrW x.sys y.wrl = 0) : ∃ p : Nat, whoOf x.slots y.tick = p ∧ p < x.parts.length ∧ y.cells.length = x.parts.length ∧ y.lines.length = x.chans.length ∧ ∀ y1 : WD, y1.wrl = stepW x.sys y.wrl →
    y1.cells.length = y.cells.length ∧ y1.lines.length = y.lines.length ∧ (∀ n, n ≠ p → (y1.cells.getD n CD0).c = (y.cells.getD n CD0).c) ∧ ∀ k, (x.chans.getD k C0).from_ ≠ p → (x.chans.getD k C0).to_ ≠ p → (y1.lines.getD k LD0).vals = (y.lines.getD k LD0).vals := by
  obtain ⟨hk, hr, ht⟩ := stepErrW_zero h0
  obtain ⟨p, e, hp⟩ := who_part hk hr.t0
  have hs : stepW x.sys y.wrl = stepP x.sys p y.wrl := by unfold stepW; rw [e, Int.toNat_natCast]
  have hcl := hr.cl
  have hll := hr.ll
  refine ⟨p, e, by simpa [SysD.sys] using hp, by simpa [WD.wrl, SysD.sys] using hcl, by simpa [WD.wrl, SysD.sys] using hll, fun y1 h1 => ?_⟩
  rw [hs] at h1
  obtain ⟨l1, l2⟩ := stepP_lens (s := x.sys) (w := y.wrl) (p := p)
  rw [← h1] at l1 l2
  refine ⟨by simpa [WD.wrl] using l1, by simpa [WD.wrl] using l2, fun n hn => ?_, fun k k1 k2 => ?_⟩
  · have := (stepP_right hk hr ht hp).2.2 n hn
    rwa [← h1, getD_mapC, getD_mapC] at this
  · have := stepP_lines (w := y.wrl) hk hp k k1 k2
    rwa [← h1, getD_mapL, getD_mapL] at this

/-! ### a number of a cell set, in a row -/
theorem flat_set1 {α : Type} {enc : α → List Value} {size o : Nat} {v : Value} {q d : α} (hs : ∀ q, (enc q).length = size) (ho : o < size) : ∀ (xs : List α) (p : Nat), p < xs.length → enc q = (enc (xs.getD p d)).set o v → (xs.flatMap enc).set (p * size + o) v = (xs.set p q).flatMap enc
  | [], _, h, _ => by simp at h
  | y :: r, 0, _, hq => by
    rw [List.flatMap_cons, List.set_cons_zero, List.flatMap_cons, hq, Nat.zero_mul, Nat.zero_add, List.set_append_left _ _ (by rw [hs]; exact ho)]
    rfl
  | y :: r, p + 1, h, hq => by
    have ih := flat_set1 hs ho r p (by simpa using h) (by simpa using hq)
    rw [List.flatMap_cons, List.set_cons_succ, List.flatMap_cons, List.set_append_right _ _ (by rw [hs, Nat.succ_mul]; omega), hs, show (p + 1) * size + o - size = p * size + o by rw [Nat.succ_mul]; omega, ih]
theorem take_set1 {α : Type} {enc : α → List Value} {size o n p : Nat} {v : Value} {q d : α} {xs : List α} {l : List Value} (hs : ∀ q, (enc q).length = size) (ho : o < size) (hl : l.take (n * size) = xs.flatMap enc) (hp : p < xs.length) (hq : enc q = (enc (xs.getD p d)).set o v) : (l.set (p * size + o) v).take (n * size) = (xs.set p q).flatMap enc := by
  rw [← flat_set1 hs ho xs p hp hq, ← hl, List.take_set]
def CD.read (q : CD) (r : Int) : CD := ⟨{ q.c with read := r }, q.wf, q.a, q.k⟩
theorem encC_setRead (q : CD) (r : Int) : encC (q.read r) = (encC q).set 13 (.int .i64 r) := by
  obtain ⟨⟨at_, regs, mem, rd, out, en⟩, hwf, a, k⟩ := q
  obtain ⟨r0, r1, r2, r3, hregs⟩ := len_four hwf.1
  obtain ⟨m0, m1, m2, m3, m4, m5, m6, m7, hmem⟩ := len_eight hwf.2
  dsimp only at hregs hmem
  subst hregs hmem
  rfl
/-- a world of one's own in which a cell's Read was set -/
def WD.setR (y : WD) (u : Nat) (r : Int) : WD := ⟨y.tick, y.cells.set u ((y.cells.getD u CD0).read r), y.ca, y.cc, y.lines, y.la, y.lc⟩
theorem WD.setR_wrl (y : WD) (u : Nat) (r : Int) : (y.setR u r).wrl = setRead y.wrl u r := by
  simp only [WD.wrl, WD.setR, setRead, set_map]
  rw [show (List.map CD.c y.cells).getD u Cel.zero = (y.cells.getD u CD0).c from getD_map CD.c u CD0]
  rfl
theorem WD.setR_val (y : WD) (u : Nat) (r : Int) : (y.setR u r).val = y.val := by simp only [WD.val, WD.setR, List.length_set]
theorem WD.setR_at {y : WD} {u : Nat} {r : Int} {w : World} {b : Nat} {T : TypeId} {l : List Value} (hca : y.ca = some ⟨b, 0, none⟩) (hu : u < y.cells.length) (hB : Blk w b T (l.set (u * 16 + 13) (.int .i64 r))) (htk : l.take (y.cells.length * 16) = y.cells.flatMap encC) (hnc : y.cells.length ≤ y.cc) (hcm : y.cc ≤ maxLen)
    (hL : w.ownsRow 0 57 1 (.slice y.la y.lines.length y.lc) y.lines.length (y.lines.flatMap encL)) (hr : y.Rest w) : (y.setR u r).At w := by
  have htk2 := take_set1 (d := CD0) (p := u) encC_len (show 13 < 16 by decide) htk hu (encC_setRead _ r)
  have hf := flat_take (c := y.cc) hB (xs := y.cells.set u ((y.cells.getD u CD0).read r)) (by simp) htk2 encC_len hnc hcm
  refine ⟨?_, fun q hq => ?_, Flat.of_own hL rfl, hr.2⟩
  · simp only [WD.setR, List.length_set]
    rw [hca]
    exact hf
  · rcases List.mem_or_eq_of_mem_set hq with h | rfl
    · exact hr.1 q h
    · have h2 := hr.1 _ (mem_getD CD0 hu)
      exact h2
end Go.Proofs.Ytoecpblabajlmaa
