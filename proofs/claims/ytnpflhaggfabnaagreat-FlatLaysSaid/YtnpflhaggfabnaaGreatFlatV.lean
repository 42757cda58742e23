/- A row read by its places. Plain law: no program is named. -/
import Derived.Test.YtnpflhaggfabnaaGreatFlatE
namespace Go.Proofs.YtnpflhaggfabnaaGreat
set_option linter.unusedVariables false
set_option linter.unusedSimpArgs false
set_option maxRecDepth 100000

def listAtL (l : List Int) (size : Nat) : List Int := if 0 ≤ l.getD 0 0 ∧ l.getD 0 0 ≤ size then (l.drop 1).take (l.getD 0 0).toNat else []
theorem drop_getD0 (l : List Int) (p : Nat) : (l.drop p).getD 0 0 = l.getD p 0 := by simp [List.getD, List.getElem?_drop]
theorem listAtL_eq (l : List Int) (p size : Nat) : listAtL (l.drop p) size = if 0 ≤ l.getD p 0 ∧ l.getD p 0 ≤ size then (l.drop (p + 1)).take (l.getD p 0).toNat else [] := by
  unfold listAtL
  rw [drop_getD0, List.drop_drop]
theorem listAtL_len (l : List Int) (size : Nat) : (listAtL l size).length ≤ size := by
  unfold listAtL
  split
  · rw [List.length_take]; omega
  · simp
theorem listAtL_pad {size : Nat} {l r : List Int} (h : l.length ≤ size) : listAtL (padL size l ++ r) size = l := by
  unfold listAtL padL
  have h1 : (((l.length : Int) :: (l ++ List.replicate (size - l.length) 0)) ++ r).getD 0 0 = (l.length : Int) := rfl
  rw [h1, if_pos ⟨by omega, by omega⟩, Int.toNat_natCast]
  show ((l ++ List.replicate (size - l.length) 0) ++ r).take l.length = l
  rw [List.append_assoc]
  exact List.take_left' rfl
/-- so many of a list's, and zeros -/
def fillZ (n : Nat) (Q : List Int) (j : Nat) : List Int := (List.range n).map fun i => if i < j then Q.getD i 0 else 0
theorem fillZ_len (n : Nat) (Q : List Int) (j : Nat) : (fillZ n Q j).length = n := by simp [fillZ]
theorem fillZ_set {n j : Nat} (Q : List Int) (hj : j < n) : (fillZ n Q j).set j (Q.getD j 0) = fillZ n Q (j + 1) := by
  apply List.ext_getElem?
  intro i
  unfold fillZ
  by_cases hi : i < n
  · by_cases e : j = i
    · subst e
      rw [List.getElem?_set_self (by simpa using hi)]
      simp [hi]
    · rw [List.getElem?_set_ne e]
      simp only [List.getElem?_map, List.getElem?_range hi, Option.map_some]
      congr 1
      by_cases h : i < j
      · rw [if_pos h, if_pos (by omega)]
      · rw [if_neg h, if_neg (by omega)]
  · rw [List.getElem?_eq_none (by simp; omega), List.getElem?_eq_none (by simp; omega)]
theorem fillZ_all {n : Nat} {Q : List Int} (h : n ≤ Q.length) : fillZ n Q n = Q.take n := by
  apply List.ext_getElem?
  intro i
  unfold fillZ
  by_cases hi : i < n
  · simp only [List.getElem?_map, List.getElem?_range hi, Option.map_some, if_pos hi, List.getElem?_take]
    rw [List.getElem?_eq_getElem (by omega)]
    simp [List.getD, show i < Q.length by omega]
  · rw [List.getElem?_eq_none (by simp; omega), List.getElem?_eq_none (by simp; omega)]
def cellAt (l : List Int) : Cel := ⟨l.getD 0 0, fillZ 4 (l.drop 1) 4, fillZ 8 (l.drop 5) 8, l.getD 13 0, listAtL (l.drop 15) 16, l.getD 14 0⟩
theorem cellAt_wf (l : List Int) : (cellAt l).wf := ⟨fillZ_len _ _ _, fillZ_len _ _ _⟩
theorem cellAt_row {c : Cel} {r : List Int} (hw : c.wf) (ho : c.out.length ≤ 16) : cellAt (cellRowL c ++ r) = c := by
  obtain ⟨at_, rg, mm, rd, out, en⟩ := c
  obtain ⟨r0, r1, r2, r3, hr⟩ := len_four hw.1
  obtain ⟨m0, m1, m2, m3, m4, m5, m6, m7, hm⟩ := len_eight hw.2
  dsimp only at hr hm ho
  subst hr hm
  have e : (cellRowL ⟨at_, [r0, r1, r2, r3], [m0, m1, m2, m3, m4, m5, m6, m7], rd, out, en⟩ ++ r).drop 15 = padL 16 out ++ r := rfl
  unfold cellAt
  rw [e, listAtL_pad ho]
  rfl
/-- the world whose numbers stand at these places -/
def worldAt (n m : Nat) (l : List Int) : Wrl := ⟨l.getD 0 0, (List.range n).map fun k => cellAt (l.drop (1 + k * 32)), (List.range m).map fun j => listAtL (l.drop (1 + n * 32 + j * 4)) 3⟩
theorem drop_rows {α : Type} {f : α → List Int} {N : Nat} : ∀ (xs : List α) (r : List Int) (k : Nat), (∀ x, x ∈ xs → (f x).length = N) → k ≤ xs.length → (xs.flatMap f ++ r).drop (k * N) = (xs.drop k).flatMap f ++ r
  | xs, r, 0, _, _ => by simp
  | [], r, k + 1, _, h => by simp at h
  | x :: xs, r, k + 1, h, hk => by
    rw [List.flatMap_cons, List.append_assoc, Nat.succ_mul, Nat.add_comm, ← List.drop_drop, List.drop_left' (h x List.mem_cons_self), List.drop_succ_cons]
    exact drop_rows xs r k (fun y hy => h y (List.mem_cons_of_mem _ hy)) (by simpa using hk)
theorem rowL_len {V : Wrl} (hc : ∀ c, c ∈ V.cells → c.wf ∧ c.out.length ≤ 16) (hl : ∀ q, q ∈ V.lines → q.length ≤ 3) : (rowL V).length = 1 + V.cells.length * 32 + V.lines.length * 4 := by
  unfold rowL
  rw [List.length_cons, List.length_append, rows_len (n := 32) _ fun c h => cellRowL_len (hc c h).1 (hc c h).2, rows_len (n := 4) _ fun q h => padL_len (hl q h)]
  omega
theorem worldAt_row {V : Wrl} (hc : ∀ c, c ∈ V.cells → c.wf ∧ c.out.length ≤ 16) (hl : ∀ q, q ∈ V.lines → q.length ≤ 3) : worldAt V.cells.length V.lines.length (rowL V) = V := by
  have h1 : (rowL V).drop 1 = V.cells.flatMap cellRowL ++ V.lines.flatMap (padL 3) := rfl
  have hC : ∀ c, c ∈ V.cells → (cellRowL c).length = 32 := fun c h => cellRowL_len (hc c h).1 (hc c h).2
  have hL : ∀ q, q ∈ V.lines → (padL 3 q).length = 4 := fun q h => padL_len (hl q h)
  have e1 : ((List.range V.cells.length).map fun k => cellAt ((rowL V).drop (1 + k * 32))) = V.cells := by
    apply List.ext_getElem (by simp)
    intro k hk1 hk2
    simp only [List.getElem_map, List.getElem_range]
    rw [← List.drop_drop, h1, drop_rows V.cells _ k hC (by omega), List.drop_eq_getElem_cons hk2, List.flatMap_cons, List.append_assoc]
    exact cellAt_row (hc _ (List.getElem_mem hk2)).1 (hc _ (List.getElem_mem hk2)).2
  have e2 : ((List.range V.lines.length).map fun j => listAtL ((rowL V).drop (1 + V.cells.length * 32 + j * 4)) 3) = V.lines := by
    apply List.ext_getElem (by simp)
    intro k hk1 hk2
    simp only [List.getElem_map, List.getElem_range]
    have h2 := drop_rows (r := []) V.lines k hL (by omega)
    rw [List.append_nil, List.append_nil] at h2
    rw [← List.drop_drop, ← List.drop_drop, h1, drop_rows V.cells _ V.cells.length hC (Nat.le_refl _), List.drop_length, List.flatMap_nil, List.nil_append, h2, List.drop_eq_getElem_cons hk2, List.flatMap_cons]
    exact listAtL_pad (hl _ (List.getElem_mem hk2))
  unfold worldAt
  rw [e1, e2]
  rfl
/-- a row is lifted just if the world at its places is right, and is laid as the row -/
theorem liftOf_at {s : Sys} {l : List Int} (hln : l.length = 1 + s.parts.length * 32 + s.chans.length * 4) :
    liftOf s l = if chkWorld s (worldAt s.parts.length s.chans.length l) = 0 ∧ rowL (worldAt s.parts.length s.chans.length l) = l then some (worldAt s.parts.length s.chans.length l) else none := by
  have hwc : ∀ c, c ∈ (worldAt s.parts.length s.chans.length l).cells → c.wf ∧ c.out.length ≤ 16 := fun c h => by
    obtain ⟨k, -, rfl⟩ := List.mem_map.1 h
    exact ⟨cellAt_wf _, listAtL_len _ _⟩
  have hwl : ∀ q, q ∈ (worldAt s.parts.length s.chans.length l).lines → q.length ≤ 3 := fun q h => by
    obtain ⟨k, -, rfl⟩ := List.mem_map.1 h
    exact listAtL_len _ _
  have hcl : (worldAt s.parts.length s.chans.length l).cells.length = s.parts.length := by simp [worldAt]
  have hll : (worldAt s.parts.length s.chans.length l).lines.length = s.chans.length := by simp [worldAt]
  split
  · rename_i h
    have h3 := lift_row hwc hwl
    rw [hcl, hll, h.2] at h3
    unfold liftOf
    rw [h3, Option.bind_some, if_pos h.1]
  · rename_i h
    cases ho : liftOf s l with
    | none => rfl
    | some V =>
      unfold liftOf at ho
      cases hq : liftL s.parts.length s.chans.length l with
      | none => rw [hq] at ho; cases ho
      | some U =>
        rw [hq, Option.bind_some] at ho
        split at ho
        · rename_i hc
          cases ho
          obtain ⟨k1, k2, k3, k4, k5⟩ := lift_inv hq
          have h4 := worldAt_row k4 k5
          rw [k2, k3, ← k1] at h4
          rw [h4] at h
          exact absurd ⟨hc, k1.symm⟩ h
        · cases ho
theorem liftOf_short {s : Sys} {l : List Int} (hln : ¬ l.length = 1 + s.parts.length * 32 + s.chans.length * 4) : liftOf s l = none := by
  unfold liftOf
  cases hq : liftL s.parts.length s.chans.length l with
  | none => rfl
  | some U =>
    obtain ⟨k1, k2, k3, k4, k5⟩ := lift_inv hq
    have := rowL_len k4 k5
    rw [← k1, k2, k3] at this
    exact absurd this hln
end Go.Proofs.YtnpflhaggfabnaaGreat
