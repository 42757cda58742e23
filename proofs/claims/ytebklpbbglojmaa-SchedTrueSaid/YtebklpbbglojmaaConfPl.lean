/- What is so of calmed systems, in plain words; Calm and SameSystems where the answer is known. -/
import Derived.Test.YtebklpbbglojmaaConfLaw
namespace Go.Proofs.Ytebklpbbglojmaa
set_option linter.unusedVariables false
set_option linter.unusedSimpArgs false
open Go.ChangeShapes Go.WideShapes Go.ChangeAt Go.RowKit
set_option maxRecDepth 100000

theorem firstCode_zero : ∀ {l : List Prt}, firstCode l = 0 ↔ ∀ p, p ∈ l → chkCode p.code = 0
  | [] => by simp [firstCode]
  | q :: r => by
    unfold firstCode
    constructor
    · intro h p hp
      split at h
      · rcases List.mem_cons.1 hp with rfl | hp
        · assumption
        · exact firstCode_zero.1 h p hp
      · exact absurd h (by assumption)
    · intro h
      rw [if_pos (h q List.mem_cons_self)]
      exact firstCode_zero.2 fun p hp => h p (List.mem_cons_of_mem _ hp)
theorem getD_set {α : Type} {l : List α} {n k : Nat} {c d : α} (hk : k < l.length) : (l.set n c).getD k d = if n = k then c else l.getD k d := by
  simp only [List.getD, List.getElem?_set]
  split
  · rename_i h
    subst h
    rw [if_pos hk]
    rfl
  · rfl
/-- a part put in the place of another one, in a right system: is it right? -/
theorem chkSys_put {s : Sys} {n : Nat} {c : Prt} (h : chkSys s = 0) (hc : chkCode c.code = 0) (hi : c.inp.length ≤ 12) (hn : c.code.all (insOk s.chans n) = true) : chkSys ⟨s.parts.set n c, s.chans, s.slots⟩ = 0 := by
  obtain ⟨h1, h2, h3, h4, h5, h6⟩ := chkSys_zero h
  have hlen : (s.parts.set n c).length = s.parts.length := by simp
  refine chkSys_0 ?_ ?_ h3 (by simpa only [hlen] using h4) (by simpa only [hlen] using h5) ?_
  · simp only [sizesOk, hlen, Bool.and_eq_true] at h1 ⊢
    refine ⟨h1.1, List.all_eq_true.2 fun p hp => ?_⟩
    rcases List.mem_or_eq_of_mem_set hp with h7 | rfl
    · exact List.all_eq_true.1 h1.2 p h7
    · exact decide_eq_true hi
  · refine firstCode_zero.2 fun p hp => ?_
    rcases List.mem_or_eq_of_mem_set hp with h7 | rfl
    · exact firstCode_zero.1 h2 p h7
    · exact hc
  · refine (namesFrom_iff _ _ _).2 fun k hk => ?_
    simp only [hlen] at hk
    rw [getD_set hk]
    split
    · rename_i h7
      subst h7
      simpa using hn
    · exact (namesFrom_iff _ _ _).1 h6 k hk
theorem chkSys_calm {s : Sys} {n : Nat} (h : chkSys s = 0) : chkSys (calmSys s n) = 0 := chkSys_put h (by kernel_rfl) (by decide) (by
  simp only [calmP, List.all_cons, List.all_nil, Bool.and_true]
  rfl)
theorem there_calm {s : Sys} {n : Nat} {p : Int} (h : thereErr s p = 0) : thereErr (calmSys s n) p = 0 := by
  obtain ⟨h1, h2⟩ := there_zero h
  exact there_0 (chkSys_calm h1) (by simpa [calmSys] using h2)
theorem calm_calm {s : Sys} {n : Nat} : calmSys (calmSys s n) n = calmSys s n := by simp [calmSys]
theorem calm_comm {s : Sys} {n m : Nat} : calmSys (calmSys s n) m = calmSys (calmSys s m) n := by
  unfold calmSys
  dsimp only
  by_cases h : n = m
  · subst h; rfl
  · rw [List.set_comm _ _ h]
theorem same_true {x y : SysD} {w : World} (hx : x.At w) (hy : y.At w) (h : x.sys = y.sys) : Calls Try.prog 37 #[x.val, y.val] w fun e w' => e = .returned (.bool true) ∧ Below w.heap.size w w' := by
  have := sameSystems_any hx hy
  rwa [decide_eq_true h] at this
theorem calm_ok {x : SysD} {s : Sys} {w : World} {p : Int} (hx : x.At w) (h : x.sys = s) (h0 : thereErr s p = 0) : Calls Try.prog 31 #[x.val, .int .i64 p] w (SysErr w (calmSys s p.toNat) 0) := by
  subst h
  have := confCalm_any hx p
  rwa [h0, calmOr_ok h0] at this
theorem calm_no {x : SysD} {s : Sys} {w : World} {p E : Int} (hx : x.At w) (h : x.sys = s) (hE : thereErr s p = E) (h0 : E ≠ 0) : Calls Try.prog 31 #[x.val, .int .i64 p] w (SysErr w Sys.zero E) := by
  subst h hE
  have := confCalm_any hx p
  rwa [calmOr_no h0] at this
end Go.Proofs.Ytebklpbbglojmaa
