/- A world as one row of numbers, and back. Plain law: no program is named. -/
import Derived.Test.YtnpflhaggfabnaaGreatKernD
namespace Go.Proofs.YtnpflhaggfabnaaGreat
set_option linter.unusedVariables false
set_option linter.unusedSimpArgs false
set_option maxRecDepth 100000

def padL (size : Nat) (l : List Int) : List Int := (l.length : Int) :: (l ++ List.replicate (size - l.length) 0)
def cellRowL (c : Cel) : List Int := c.at_ :: (c.regs ++ (c.mem ++ ([c.read, c.end_] ++ padL 16 c.out)))
def rowL (w : Wrl) : List Int := w.tick :: (w.cells.flatMap cellRowL ++ w.lines.flatMap (padL 3))
def takeList (size : Nat) : List Int → Option (List Int × List Int)
  | [] => none
  | n :: r => if (0 ≤ n ∧ n ≤ size) ∧ size ≤ r.length ∧ ((r.take size).drop n.toNat).all (fun m => m == 0) = true then some (r.take n.toNat, r.drop size) else none
def takeCell (l : List Int) : Option (Cel × List Int) := if l.length < 15 then none else (takeList 16 (l.drop 15)).map fun q => (⟨l.getD 0 0, (l.drop 1).take 4, (l.drop 5).take 8, l.getD 13 0, q.1, l.getD 14 0⟩, q.2)
def takeMany {α : Type} (one : List Int → Option (α × List Int)) : Nat → List Int → Option (List α × List Int)
  | 0, l => some ([], l)
  | n + 1, l => (one l).bind fun q => (takeMany one n q.2).map fun p => (q.1 :: p.1, p.2)
def liftL (parts chans : Nat) : List Int → Option Wrl
  | [] => none
  | t :: r => (takeMany takeCell parts r).bind fun p => (takeMany (takeList 3) chans p.2).bind fun q => if q.2 = [] then some ⟨t, p.1, q.1⟩ else none
theorem padL_len {size : Nat} {l : List Int} (h : l.length ≤ size) : (padL size l).length = size + 1 := by
  simp [padL]
  omega
theorem takeList_pad {size : Nat} {l r : List Int} (h : l.length ≤ size) : takeList size (padL size l ++ r) = some (l, r) := by
  unfold padL takeList
  simp only [List.cons_append]
  have h1 : ((l ++ List.replicate (size - l.length) (0 : Int)) ++ r).take size = l ++ List.replicate (size - l.length) 0 := List.take_left' (by simp; omega)
  have h2 : ((l ++ List.replicate (size - l.length) (0 : Int)) ++ r).drop size = r := List.drop_left' (by simp; omega)
  have h3 : ((l ++ List.replicate (size - l.length) (0 : Int)) ++ r).take l.length = l := by rw [List.append_assoc]; exact List.take_left' rfl
  rw [if_pos]
  · rw [Int.toNat_natCast, h2, h3]
  · refine ⟨⟨by omega, by omega⟩, by simp; omega, ?_⟩
    rw [h1, Int.toNat_natCast, List.drop_left' rfl]
    simp
theorem takeList_inv {size : Nat} {l o r : List Int} (h : takeList size l = some (o, r)) : l = padL size o ++ r ∧ o.length ≤ size := by
  cases l with
  | nil => cases h
  | cons n t =>
    unfold takeList at h
    dsimp only at h
    split at h
    · rename_i hc
      obtain ⟨⟨h1, h2⟩, h3, h4⟩ := hc
      simp only [Option.some.injEq, Prod.mk.injEq] at h
      obtain ⟨rfl, rfl⟩ := h
      have hl : (t.take n.toNat).length = n.toNat := by rw [List.length_take]; omega
      refine ⟨?_, by omega⟩
      unfold padL
      rw [hl, Int.toNat_of_nonneg h1, List.cons_append]
      congr 1
      have h5 : (t.take size).drop n.toNat = List.replicate (size - n.toNat) 0 := by
        refine List.eq_replicate_iff.2 ⟨by rw [List.length_drop, List.length_take]; omega, fun m hm => ?_⟩
        simpa using List.all_eq_true.1 h4 m hm
      have h6 : t.take size = t.take n.toNat ++ List.replicate (size - n.toNat) 0 := by
        rw [← h5]
        have := (List.take_append_drop n.toNat (t.take size)).symm
        rwa [List.take_take, Nat.min_eq_left (by omega)] at this
      rw [← h6, List.take_append_drop]
    · cases h
theorem takeCell_row {c : Cel} {r : List Int} (hw : c.wf) (ho : c.out.length ≤ 16) : takeCell (cellRowL c ++ r) = some (c, r) := by
  obtain ⟨at_, rg, mm, rd, out, en⟩ := c
  obtain ⟨r0, r1, r2, r3, hr⟩ := len_four hw.1
  obtain ⟨m0, m1, m2, m3, m4, m5, m6, m7, hm⟩ := len_eight hw.2
  dsimp only at hr hm ho
  subst hr hm
  unfold takeCell cellRowL
  rw [if_neg (by simp)]
  have e : (((⟨at_, [r0, r1, r2, r3], [m0, m1, m2, m3, m4, m5, m6, m7], rd, out, en⟩ : Cel).at_ :: ([r0, r1, r2, r3] ++ ([m0, m1, m2, m3, m4, m5, m6, m7] ++ ([rd, en] ++ padL 16 out)))) ++ r).drop 15 = padL 16 out ++ r := rfl
  dsimp only at e ⊢
  rw [e, takeList_pad ho]
  rfl
theorem take_succ_drop {l : List Int} {k : Nat} (h : k < l.length) : l.drop k = l.getD k 0 :: l.drop (k + 1) := by
  rw [List.drop_eq_getElem_cons h, List.getD, List.getElem?_eq_getElem h]
  rfl
theorem takeCell_inv {l r : List Int} {c : Cel} (h : takeCell l = some (c, r)) : l = cellRowL c ++ r ∧ c.wf ∧ c.out.length ≤ 16 := by
  unfold takeCell at h
  split at h
  · cases h
  · rename_i hl
    cases hq : takeList 16 (l.drop 15) with
    | none => rw [hq] at h; cases h
    | some q =>
      rw [hq] at h
      simp only [Option.map_some, Option.some.injEq, Prod.mk.injEq] at h
      obtain ⟨rfl, rfl⟩ := h
      obtain ⟨h1, h2⟩ := takeList_inv (o := q.1) (r := q.2) hq
      refine ⟨?_, ⟨by simp; omega, by simp; omega⟩, h2⟩
      unfold cellRowL
      dsimp only
      have e1 : l = l.getD 0 0 :: l.drop 1 := by have := take_succ_drop (l := l) (k := 0) (by omega); simpa using this
      have e2 : l.drop 1 = (l.drop 1).take 4 ++ l.drop 5 := by
        have := (List.take_append_drop 4 (l.drop 1)).symm
        rwa [List.drop_drop] at this
      have e3 : l.drop 5 = (l.drop 5).take 8 ++ l.drop 13 := by
        have := (List.take_append_drop 8 (l.drop 5)).symm
        rwa [List.drop_drop] at this
      have e4 : l.drop 13 = [l.getD 13 0, l.getD 14 0] ++ l.drop 15 := by
        rw [take_succ_drop (by omega), take_succ_drop (k := 14) (by omega)]
        rfl
      calc l = l.getD 0 0 :: l.drop 1 := e1
        _ = l.getD 0 0 :: ((l.drop 1).take 4 ++ ((l.drop 5).take 8 ++ ([l.getD 13 0, l.getD 14 0] ++ (padL 16 q.1 ++ q.2)))) := by rw [← h1, ← e4, ← e3, ← e2]
        _ = _ := by simp
theorem takeMany_row {α : Type} {one : List Int → Option (α × List Int)} {enc : α → List Int} {ok : α → Prop} (h1 : ∀ a r, ok a → one (enc a ++ r) = some (a, r)) : ∀ (l : List α) (r : List Int), (∀ a, a ∈ l → ok a) → takeMany one l.length (l.flatMap enc ++ r) = some (l, r)
  | [], r, _ => rfl
  | a :: l, r, h => by
    rw [List.length_cons, takeMany, List.flatMap_cons, List.append_assoc, h1 a _ (h a List.mem_cons_self)]
    simp only [Option.bind_some]
    rw [takeMany_row h1 l r fun b hb => h b (List.mem_cons_of_mem _ hb)]
    rfl
theorem takeMany_inv {α : Type} {one : List Int → Option (α × List Int)} {enc : α → List Int} {ok : α → Prop} (h1 : ∀ l a r, one l = some (a, r) → l = enc a ++ r ∧ ok a) : ∀ (n : Nat) (l : List Int) (xs : List α) (r : List Int), takeMany one n l = some (xs, r) → l = xs.flatMap enc ++ r ∧ xs.length = n ∧ ∀ a, a ∈ xs → ok a
  | 0, l, xs, r, h => by
    cases h
    exact ⟨rfl, rfl, fun a ha => by cases ha⟩
  | n + 1, l, xs, r, h => by
    rw [takeMany] at h
    cases hq : one l with
    | none => rw [hq] at h; cases h
    | some q =>
      rw [hq] at h
      simp only [Option.bind_some] at h
      cases hp : takeMany one n q.2 with
      | none => rw [hp] at h; cases h
      | some p =>
        rw [hp] at h
        simp only [Option.map_some, Option.some.injEq, Prod.mk.injEq] at h
        obtain ⟨rfl, rfl⟩ := h
        obtain ⟨k1, k2⟩ := h1 l q.1 q.2 hq
        obtain ⟨k3, k4, k5⟩ := takeMany_inv h1 n q.2 p.1 p.2 hp
        refine ⟨by rw [List.flatMap_cons, List.append_assoc, ← k3]; exact k1, by simp [k4], fun b hb => ?_⟩
        rcases List.mem_cons.1 hb with rfl | hb
        · exact k2
        · exact k5 b hb
/-- what is laid is lifted as it was -/
theorem lift_row {w : Wrl} (hc : ∀ c, c ∈ w.cells → c.wf ∧ c.out.length ≤ 16) (hl : ∀ l, l ∈ w.lines → l.length ≤ 3) : liftL w.cells.length w.lines.length (rowL w) = some w := by
  unfold liftL rowL
  dsimp only
  rw [takeMany_row (ok := fun c => c.wf ∧ c.out.length ≤ 16) (fun a r h => takeCell_row h.1 h.2) w.cells _ hc]
  simp only [Option.bind_some]
  have := takeMany_row (ok := fun l : List Int => l.length ≤ 3) (fun a r h => takeList_pad h) w.lines [] hl
  rw [List.append_nil] at this
  rw [this]
  rfl
/-- and nothing else is -/
theorem lift_inv {n m : Nat} {l : List Int} {w : Wrl} (h : liftL n m l = some w) : l = rowL w ∧ w.cells.length = n ∧ w.lines.length = m ∧ (∀ c, c ∈ w.cells → c.wf ∧ c.out.length ≤ 16) ∧ ∀ l, l ∈ w.lines → l.length ≤ 3 := by
  cases l with
  | nil => cases h
  | cons t r =>
    unfold liftL at h
    dsimp only at h
    cases hp : takeMany takeCell n r with
    | none => rw [hp] at h; cases h
    | some p =>
      rw [hp] at h
      simp only [Option.bind_some] at h
      cases hq : takeMany (takeList 3) m p.2 with
      | none => rw [hq] at h; cases h
      | some q =>
        rw [hq] at h
        simp only [Option.bind_some] at h
        split at h
        · rename_i he
          cases h
          obtain ⟨a1, a2, a3⟩ := takeMany_inv (enc := cellRowL) (ok := fun c => c.wf ∧ c.out.length ≤ 16) (fun l a r h => by obtain ⟨x1, x2, x3⟩ := takeCell_inv h; exact ⟨x1, x2, x3⟩) n r p.1 p.2 hp
          obtain ⟨b1, b2, b3⟩ := takeMany_inv (enc := padL 3) (ok := fun l : List Int => l.length ≤ 3) (fun l a r h => takeList_inv h) m p.2 q.1 q.2 hq
          refine ⟨?_, a2, b2, a3, b3⟩
          unfold rowL
          rw [a1, b1, he, List.append_nil]
        · cases h
end Go.Proofs.YtnpflhaggfabnaaGreat
