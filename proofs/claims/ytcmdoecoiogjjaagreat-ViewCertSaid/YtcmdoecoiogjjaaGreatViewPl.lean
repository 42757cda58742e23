/- Plain laws: what a partition sees comes from those alone that reach it. -/
import Derived.Test.YtcmdoecoiogjjaaGreatViewA
import Derived.Test.YtcmdoecoiogjjaaGreatViewQ
import Derived.Test.YtcmdoecoiogjjaaGreatConfD1
import Derived.Test.YtcmdoecoiogjjaaGreatKernPl
namespace Go.Proofs.YtcmdoecoiogjjaaGreat
set_option linter.unusedVariables false
set_option linter.unusedSimpArgs false
set_option maxRecDepth 100000

theorem getD_set_no {α : Type} {l : List α} {n k : Nat} {c d : α} (h : n ≠ k) : (l.set n c).getD k d = l.getD k d := by
  simp only [List.getD, List.getElem?_set, if_neg h]
/-- two worlds agree on those of R -/
structure Agree (s : Sys) (R : Nat → Prop) (w v : Wrl) : Prop where
  tick : w.tick = v.tick
  cells : ∀ n, R n → w.cells.getD n Cel.zero = v.cells.getD n Cel.zero
  lines : ∀ k n, k < s.chans.length → R n → ((s.chans.getD k C0).from_ = (n : Int) ∨ (s.chans.getD k C0).to_ = (n : Int)) → w.lines.getD k [] = v.lines.getD k []
/-- closed under what leads -/
def Shut (s : Sys) (R : Nat → Prop) : Prop := ∀ a b : Nat, a < s.parts.length → R b → leadsB s.chans a b = true → R a
theorem leads_at {cs : List Chn} {k a b : Nat} (hk : k < cs.length) (h : edgeB (cs.getD k C0) a b = true) : leadsB cs a b = true :=
  List.any_eq_true.2 ⟨_, mem_getD C0 hk, h⟩
theorem step_out {s : Sys} {w : Wrl} {p : Nat} {R : Nat → Prop} (hk : chkSys s = 0) (hr : Right s w) (hp : p < s.parts.length) (hS : Shut s R) (hR : ¬ R p) : 
    (∀ n, R n → (stepP s p w).cells.getD n Cel.zero = w.cells.getD n Cel.zero) ∧
    ∀ k n, k < s.chans.length → R n → ((s.chans.getD k C0).from_ = (n : Int) ∨ (s.chans.getD k C0).to_ = (n : Int)) → (stepP s p w).lines.getD k [] = w.lines.getD k [] := by
  obtain ⟨⟨c, q⟩, e⟩ : ∃ q, stepOf (s.parts.getD p Pt0) (w.cells.getD p Cel.zero) = q := ⟨_, rfl⟩
  have hw := stepOf_want (c := w.cells.getD p Cel.zero) hk hp
  rw [e] at hw
  dsimp only at hw
  have hne : ∀ n, R n → p ≠ n := fun n hn h => hR (h ▸ hn)
  by_cases hz : q.kind = 0
  · rw [stepP_0 e hz]
    exact ⟨fun n hn => getD_set_no (hne n hn), fun _ _ _ _ _ => rfl⟩
  · rw [stepP_1 e hz rfl]
    have hw : Wants s p q := hw.resolve_left fun h => hz (by rw [h]; rfl)
    refine ⟨fun n hn => getD_set_no (hne n hn), fun k n hkl hn ht => ?_⟩
    dsimp only
    by_cases hkk : q.chan.toNat = k
    · subst hkk
      have hkd := kind_ok hk hkl
      rcases hw.kind with ⟨h, -⟩ | ⟨h, -⟩
      · have hf := hw.put h
        rcases ht with ht | ht
        · exact absurd (Int.ofNat.inj (hf.symm.trans ht)) (hne n hn)
        · exact absurd (hS p n hp hn (leads_at hkl (by unfold edgeB; rw [hf, ht]; simp))) hR
      · have hf := hw.get h
        rcases ht with ht | ht
        · rcases hkd with hd | hd
          · have hl := hr.line q.chan.toNat (by rw [hr.ll]; exact hkl)
            obtain ⟨m, v, b, hg, -, hm⟩ := getOf_ok hl
            have : (chanOf (s.chans.getD q.chan.toNat C0).kind q c (w.lines.getD q.chan.toNat [])).2 = w.lines.getD q.chan.toNat [] := by
              unfold chanOf
              rw [if_neg (by rw [h]; decide)]
              dsimp only
              rw [hg]
              exact hm hd
            rw [this, getD_set (by rw [hr.ll]; exact hkl), if_pos rfl]
          · exact absurd (hS p n hp hn (leads_at hkl (by unfold edgeB; rw [hf, ht, hd]; simp))) hR
        · exact absurd (Int.ofNat.inj (hf.symm.trans ht)) (hne n hn)
    · exact getD_set_no hkk
theorem getD_set_eq {α : Type} {l m : List α} {n p : Nat} {c d : α} (h : l.length = m.length) (hd : l.getD n d = m.getD n d) : (l.set p c).getD n d = (m.set p c).getD n d := by
  by_cases e : p = n
  · subst e
    simp only [List.getD, List.getElem?_set, if_true, h]
  · rw [getD_set_no e, getD_set_no e, hd]
theorem step_in {s s' : Sys} {w v : Wrl} {p : Nat} {R : Nat → Prop} (hk : chkSys s = 0) (hp : p < s.parts.length) (hR : R p) (hA : Agree s R w v) (hcl : w.cells.length = v.cells.length) (hll : w.lines.length = v.lines.length)
    (hpt : s'.parts.getD p Pt0 = s.parts.getD p Pt0) (hch : s'.chans = s.chans) : Agree s R (stepP s p w) (stepP s' p v) := by
  obtain ⟨⟨c, q⟩, e⟩ : ∃ q, stepOf (s.parts.getD p Pt0) (w.cells.getD p Cel.zero) = q := ⟨_, rfl⟩
  have e' : stepOf (s'.parts.getD p Pt0) (v.cells.getD p Cel.zero) = (c, q) := by rw [hpt, ← hA.cells p hR, e]
  have hw := stepOf_want (c := w.cells.getD p Cel.zero) hk hp
  rw [e] at hw
  dsimp only at hw
  by_cases hz : q.kind = 0
  · rw [stepP_0 e hz, stepP_0 e' hz]
    exact ⟨by show w.tick + 1 = v.tick + 1; rw [hA.tick], fun n hn => getD_set_eq hcl (hA.cells n hn), hA.lines⟩
  · have hw : Wants s p q := hw.resolve_left fun h => hz (by rw [h]; rfl)
    have hkl : q.chan.toNat < s.chans.length := by have := hw.c0; have := hw.c1; omega
    have hl : w.lines.getD q.chan.toNat [] = v.lines.getD q.chan.toNat [] := by
      rcases hw.kind with ⟨h, -⟩ | ⟨h, -⟩
      · exact hA.lines _ p hkl hR (.inl (hw.put h))
      · exact hA.lines _ p hkl hR (.inr (hw.get h))
    rw [stepP_1 e hz rfl, stepP_1 e' hz rfl, hch, hl]
    exact ⟨by show w.tick + 1 = v.tick + 1; rw [hA.tick], fun n hn => getD_set_eq hcl (hA.cells n hn), fun k n h1 h2 h3 => getD_set_eq hll (hA.lines k n h1 h2 h3)⟩
/-- two systems that are alike on those of R -/
structure Alike (s s' : Sys) (R : Nat → Prop) : Prop where
  chans : s'.chans = s.chans
  slots : s'.slots = s.slots
  len : s'.parts.length = s.parts.length
  parts : ∀ n, R n → s'.parts.getD n Pt0 = s.parts.getD n Pt0
theorem agree_step {s s' : Sys} {w v : Wrl} {R : Nat → Prop} (hk : chkSys s = 0) (hk' : chkSys s' = 0) (hL : Alike s s' R) (hS : Shut s R) (hr : Right s w) (hr' : Right s' v) (hA : Agree s R w v) : Agree s R (stepW s w) (stepW s' v) := by
  obtain ⟨p, e, hp⟩ := who_part hk hr.t0
  have e1 : stepW s w = stepP s p w := by unfold stepW; rw [e, Int.toNat_natCast]
  have e2 : stepW s' v = stepP s' p v := by unfold stepW; rw [hL.slots, ← hA.tick, e, Int.toNat_natCast]
  rw [e1, e2]
  have hcl : w.cells.length = v.cells.length := by rw [hr.cl, hr'.cl, hL.len]
  have hll : w.lines.length = v.lines.length := by rw [hr.ll, hr'.ll, hL.chans]
  by_cases hR : R p
  · exact step_in hk hp hR hA hcl hll (hL.parts p hR) hL.chans
  · have hS' : Shut s' R := fun a b ha hb hl => hS a b (by rw [← hL.len]; exact ha) hb (by rw [← hL.chans]; exact hl)
    obtain ⟨a1, a2⟩ := step_out hk hr hp hS hR
    obtain ⟨b1, b2⟩ := step_out hk' hr' (by rw [hL.len]; exact hp) hS' hR
    refine ⟨?_, fun n hn => (a1 n hn).trans ((hA.cells n hn).trans (b1 n hn).symm), fun k n h1 h2 h3 => (a2 k n h1 h2 h3).trans ((hA.lines k n h1 h2 h3).trans (b2 k n (by rw [hL.chans]; exact h1) h2 (by rw [hL.chans]; exact h3)).symm)⟩
    rw [← e1, ← e2, stepW_tick, stepW_tick, hA.tick]
theorem agree_run {s s' : Sys} {R : Nat → Prop} (hk : chkSys s = 0) (hk' : chkSys s' = 0) (hL : Alike s s' R) (hS : Shut s R) : ∀ n : Nat, n ≤ 300 → Agree s R (runW s n) (runW s' n)
  | 0, _ => by
    have : runW s' 0 = runW s 0 := by unfold runW beginW; rw [hL.len, hL.chans]
    rw [this]
    exact ⟨rfl, fun _ _ => rfl, fun _ _ _ _ _ => rfl⟩
  | n + 1, h => agree_step hk hk' hL hS (runW_right hk n (by omega)).1 (runW_right hk' n (by omega)).1 (agree_run hk hk' hL hS n (by omega))
/-- those that reach one -/
def Rchs (s : Sys) (u : Nat) (a : Nat) : Prop := a < s.parts.length ∧ Rch s.chans s.parts.length a u
theorem rchs_shut {s : Sys} {u : Nat} : Shut s (Rchs s u) := fun _ _ ha hb hl => ⟨ha, .step hl hb.1 hb.2⟩
theorem rchs_self {s : Sys} {u : Nat} (hu : u < s.parts.length) : Rchs s u u := ⟨hu, .refl _⟩
theorem view_alike {s s' : Sys} {u : Nat} (hk : chkSys s = 0) (hk' : chkSys s' = 0) (hu : u < s.parts.length) (hL : Alike s s' (Rchs s u)) {n : Nat} (hn : n ≤ 300) : viewOf s (runW s n) u = viewOf s' (runW s' n) u := by
  have hA := agree_run hk hk' hL rchs_shut n hn
  unfold viewOf
  rw [hA.cells u (rchs_self hu), hL.chans]
  congr 1
  unfold linesTo
  refine List.map_congr_left fun i hi => ?_
  obtain ⟨h1, h2⟩ := List.mem_filter.1 hi
  refine hA.lines i u (List.mem_range.1 h1) (rchs_self hu) ?_
  unfold touches at h2
  simpa using h2
theorem chkSys_parts {s s' : Sys} (hk : chkSys s = 0) (hc : s'.chans = s.chans) (hs : s'.slots = s.slots) (hl : s'.parts.length = s.parts.length) (hp : ∀ n, n < s.parts.length → s'.parts.getD n Pt0 = s.parts.getD n Pt0 ∨ s'.parts.getD n Pt0 = calmP) : chkSys s' = 0 := by
  obtain ⟨h1, h2, h3, h4, h5, h6⟩ := chkSys_zero hk
  have hcalm : chkCode calmP.code = 0 ∧ calmP.inp.length ≤ 12 ∧ ∀ cs k, calmP.code.all (insOk cs k) = true := ⟨rfl, by decide, fun _ _ => rfl⟩
  have hall : ∀ n, n < s.parts.length → chkCode (s'.parts.getD n Pt0).code = 0 ∧ (s'.parts.getD n Pt0).inp.length ≤ 12 ∧ (s'.parts.getD n Pt0).code.all (insOk s.chans n) = true := fun n hn => by
    rcases hp n hn with h | h
    · rw [h]; exact part_code hk hn
    · rw [h]; exact ⟨hcalm.1, hcalm.2.1, hcalm.2.2 _ _⟩
  refine chkSys_0 ?_ ?_ (hc ▸ h3) (by rw [hc, hl]; exact h4) (by rw [hs, hl]; exact h5) ?_
  · unfold sizesOk at h1 ⊢
    rw [hc, hs, hl]
    rw [Bool.and_eq_true] at h1 ⊢
    refine ⟨h1.1, (all_getD Pt0).2 fun k hk' => ?_⟩
    exact decide_eq_true (hall k (by omega)).2.1
  · refine firstCode_zero.2 fun p hm => ?_
    obtain ⟨i, hi, rfl⟩ := List.getElem_of_mem hm
    have := (hall i (by omega)).1
    rwa [List.getD, List.getElem?_eq_getElem hi, Option.getD_some] at this
  · rw [hc]
    refine (namesFrom_iff _ _ _).2 fun k hk' => ?_
    rw [Nat.zero_add]
    exact (hall k (by omega)).2.2
theorem purged_at {s : Sys} {u n : Nat} (hn : n < s.parts.length) : (purged s u).parts.getD n Pt0 = if rch s.chans s.parts.length n u = true then s.parts.getD n Pt0 else calmP := by
  simp [purged, List.getD, hn]
theorem purged_chk {s : Sys} {u : Nat} (hk : chkSys s = 0) : chkSys (purged s u) = 0 :=
  chkSys_parts hk rfl rfl (by simp [purged]) fun n hn => by
    rw [purged_at hn]
    split
    · exact .inl rfl
    · exact .inr rfl
theorem purged_alike {s : Sys} {u : Nat} (hu : u < s.parts.length) : Alike s (purged s u) (Rchs s u) := ⟨rfl, rfl, by simp [purged], fun n hn => by
  rw [purged_at hn.1, if_pos ((rch_iff hn.1 hu).2 hn.2)]⟩
theorem purged_view {s : Sys} {u : Nat} (hk : chkSys s = 0) (hu : u < s.parts.length) {n : Nat} (hn : n ≤ 300) : viewOf s (runW s n) u = viewOf (purged s u) (runW (purged s u) n) u := view_alike hk (purged_chk hk) hu (purged_alike hu) hn
end Go.Proofs.YtcmdoecoiogjjaaGreat
