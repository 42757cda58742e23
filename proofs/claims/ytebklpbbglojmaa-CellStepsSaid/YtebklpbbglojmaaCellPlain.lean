/- Plain laws of a cell's step: what comes is right, what was told stays told, what has not come in yet changes nothing. -/
import Derived.Test.YtebklpbbglojmaaCellOpen
namespace Go.Proofs.Ytebklpbbglojmaa
set_option linter.unusedVariables false
set_option linter.unusedSimpArgs false
open Go.ChangeShapes Go.WideShapes Go.ChangeAt Go.RowKit
set_option maxRecDepth 100000

theorem chkIns_op {i : Ins} (h : chkIns i = 0) : (1 ≤ i.op ∧ i.op ≤ 15) ∧ (i.op = 8 ∨ i.op = 9 → 0 ≤ i.n ∧ i.n < 20) ∧ (i.op = 12 ∨ i.op = 13 → 0 ≤ i.n ∧ i.n < 6) := by
  unfold chkIns chkI at h
  by_cases h1 : ¬ (1 ≤ i.op ∧ i.op ≤ 15)
  · rw [if_pos h1] at h; cases h
  · rw [if_neg h1] at h
    by_cases h2 : (hasA i.op && !regOk i.a || hasB i.op && !regOk i.b) = true
    · rw [if_pos h2] at h; cases h
    · rw [if_neg h2] at h
      by_cases h3 : numOk i.op i.n = false
      · rw [if_pos h3] at h; cases h
      · have h4 : numOk i.op i.n = true := by simpa using h3
        refine ⟨by simpa using h1, fun h8 => ?_, fun h12 => ?_⟩
        · unfold numOk at h4
          rw [if_pos h8] at h4
          simpa using h4
        · unfold numOk at h4
          rw [if_neg (by omega), if_pos h12] at h4
          simpa using h4
/-- what a step leaves of a cell, beside what it had -/
structure Goes (c d : Cel) (n : Nat) : Prop where
  fine : cellFine d = true
  read : d.read ≤ n
  told : d.out.take c.out.length = c.out
  len : c.out.length ≤ d.out.length
  lo : c.read ≤ d.read
  hi : d.read ≤ c.read + 1
theorem doOf_goes {i : Ins} {c : Cel} {inp : List Int} {x : Cel × Wnt} (hi : chkIns i = 0) (hd : doOf i c inp = some x) (hf : cellFine c = true) (hat : c.at_ < 20) (hrd : c.read ≤ inp.length) (hin : inp.length ≤ 12) : Goes c x.1 inp.length := by
  obtain ⟨hop, hj, -⟩ := chkIns_op hi
  have hf' : 0 ≤ c.at_ ∧ c.at_ ≤ 20 ∧ 0 ≤ c.read ∧ c.read ≤ 12 ∧ 0 ≤ c.end_ ∧ c.end_ ≤ 2 ∧ c.out.length ≤ 16 := by simpa [cellFine] using hf
  unfold doOf at hd
  dsimp only at hd
  split at hd
  all_goals (try split at hd)
  all_goals first | (cases hd; done) | (simp only [Option.some.injEq] at hd; subst hd)
  all_goals refine ⟨?_, ?_, ?_, ?_, ?_, ?_⟩
  all_goals simp only [cellFine, decide_eq_true_eq]
  all_goals first
    | omega
    | (simp; done)
    | (split <;> first | omega | (simp; done) | (simp; omega))
    | (repeat' split) <;> first | omega | (simp; done) | (simp; omega)
theorem stepErr_zero {p : Prt} {c : Cel} (h0 : stepErr p c = 0) : chkCode p.code = 0 ∧ p.inp.length ≤ 12 ∧ cellFine c = true ∧ c.read ≤ p.inp.length := by
  unfold stepErr at h0
  split at h0
  · exact absurd h0 (by assumption)
  · split at h0
    · cases h0
    · split at h0
      · rename_i h1 h2 h3
        exact ⟨by simpa using h1, by omega, h3.1, h3.2⟩
      · cases h0
theorem stepOf_goes {p : Prt} {c : Cel} (h0 : stepErr p c = 0) : Goes c (stepOf p c).1 p.inp.length ∧ (c.end_ ≠ 0 → stepOf p c = (c, Wnt.zero)) := by
  obtain ⟨hc, hin, hf, hr⟩ := stepErr_zero h0
  obtain ⟨⟨hl1, hl2⟩, hall⟩ := chkCode_all hc
  have hf' : 0 ≤ c.at_ ∧ c.at_ ≤ 20 ∧ 0 ≤ c.read ∧ c.read ≤ 12 ∧ 0 ≤ c.end_ ∧ c.end_ ≤ 2 ∧ c.out.length ≤ 16 := by simpa [cellFine] using hf
  have self : Goes c c p.inp.length := ⟨hf, hr, by simp, by omega, by omega, by omega⟩
  have fault : Goes c { c with end_ := 2 } p.inp.length := ⟨by simp [cellFine]; omega, hr, by simp, by simp, by simp, by simp; omega⟩
  refine ⟨?_, fun he => by unfold stepOf; rw [if_pos he]⟩
  unfold stepOf
  split
  · exact self
  · split
    · exact fault
    · rename_i i hi
      have hlt := (List.getElem?_eq_some_iff.1 hi).1
      split
      · exact fault
      · rename_i x hx
        exact doOf_goes (hall i (List.mem_of_getElem? hi)) hx hf (by omega) hr (by omega)
/-- what has not come in yet changes nothing -/
theorem doOf_more {i : Ins} {c : Cel} {inp more : List Int} (h0 : 0 ≤ c.read) (h : c.read < inp.length) : doOf i c (inp ++ more) = doOf i c inp := by
  have h1 : c.read < (inp ++ more).length := by simp; omega
  have h2 : (inp ++ more).getD c.read.toNat 0 = inp.getD c.read.toNat 0 := by
    simp only [List.getD_eq_getElem?_getD]
    rw [List.getElem?_append_left (by omega)]
  unfold doOf
  dsimp only
  rw [if_pos h, if_pos h1, h2]
theorem stepOf_more {p : Prt} {c : Cel} {n : Int} (h0 : stepErr p c = 0) (h1 : p.inp.length ≠ 12) (h2 : (p.inp.length : Int) ≠ c.read) : stepErr ⟨p.code, p.inp ++ [n]⟩ c = 0 ∧ stepOf ⟨p.code, p.inp ++ [n]⟩ c = stepOf p c := by
  obtain ⟨hc, hin, hf, hr⟩ := stepErr_zero h0
  have hf' : 0 ≤ c.at_ ∧ c.at_ ≤ 20 ∧ 0 ≤ c.read ∧ c.read ≤ 12 ∧ 0 ≤ c.end_ ∧ c.end_ ≤ 2 ∧ c.out.length ≤ 16 := by simpa [cellFine] using hf
  constructor
  · unfold stepErr
    rw [if_neg (fun h => h hc), if_neg (by simp; omega), if_pos ⟨hf, by simp; omega⟩]
  · unfold stepOf
    simp only [doOf_more hf'.2.2.1 (show c.read < p.inp.length by omega)]

/-- a step that gives this cell, this want, this error -/
theorem stepTo {p : Prt} {c d : Cel} {k : Wnt} {E : Int} {cv iv ov : Value} {w : World} (hc : Code_ w cv p.code) (hi : Ints w iv p.inp) (ho : Ints w ov c.out) (hwf : c.wf) (h0 : stepErr p c = E) (hd : E = 0 → stepOf p c = (d, k)) (hz : E ≠ 0 → d = Cel.zero ∧ k = Wnt.zero) :
    Calls Try.prog 21 #[.agg #[cv, iv], celV c ov] w fun e w' => ∃ A n, e = .returned (.tuple #[celV d (.slice A d.out.length n), wntV k, .int .i64 E]) ∧ OwnRes w w' (fun u => Ints u (.slice A d.out.length n) d.out) ∧ Below w.heap.size w w' := by
  have := cellStep_any p c cv iv ov w hwf ho hc hi
  rw [h0] at this
  have key : StepBack w d k E = (if E = 0 then StepBack w (stepOf p c).1 (stepOf p c).2 0 else StepBack w Cel.zero Wnt.zero E) := by
    by_cases hE : E = 0
    · rw [if_pos hE, hd hE, hE]
    · rw [if_neg hE, (hz hE).1, (hz hE).2]
  rw [← key] at this
  refine this.mono fun e w' ⟨ov', he, _, hown, hb⟩ => ?_
  obtain ⟨A, n, rfl⟩ := hown.form rfl
  exact ⟨A, n, he, OwnRes.ints hown, hb⟩
theorem stepRTo {p : Prt} {c d : Cel} {k : Wnt} {cv iv ov : Value} {w : World} (hc : Code_ w cv p.code) (hi : Ints w iv p.inp) (ho : Ints w ov c.out) (hwf : c.wf) (h0 : stepErr p c = 0) (hd : stepOf p c = (d, k)) :
    Calls Try.prog 23 #[.agg #[cv, iv], celV c ov] w fun e w' => ∃ A n, e = .returned (.tuple #[celV d (.slice A d.out.length n), wntV k]) ∧ OwnRes w w' (fun u => Ints u (.slice A d.out.length n) d.out) ∧ Below w.heap.size w w' := by
  have hE : chkCode p.code = 0 ∧ cellFine c = true ∧ c.read ≤ p.inp.length := by
    unfold stepErr at h0
    split at h0
    · exact absurd h0 (by assumption)
    · split at h0
      · cases h0
      · split at h0
        · rename_i h1 _ h2
          exact ⟨by simpa using h1, h2.1, h2.2⟩
        · cases h0
  have := stepR_any p c cv iv ov w hwf ho hc hi hE.1 hE.2.1 hE.2.2
  rw [hd] at this
  refine this.mono fun e w' ⟨ov', he, _, hown, hb⟩ => ?_
  obtain ⟨A, n, rfl⟩ := hown.form rfl
  exact ⟨A, n, he, OwnRes.ints hown, hb⟩
end Go.Proofs.Ytebklpbbglojmaa
