/- The engine, part four: what a law's arguments hold, read off their types once and for all. -/
import Derived.Test.YtebklpbbglojmaaEngE
import Derived.Test.YtebklpbbglojmaaLift
import Derived.OpenShut
namespace Go.Proofs.Ytebklpbbglojmaa
set_option linter.unusedVariables false
set_option linter.unusedSimpArgs false
open Go.ChangeShapes Go.WideShapes Go.ChangeAt Go.RowKit

section
variable {H : Type} {enc : TypeId × Value → H} {P : Program} {w : World} {base : Nat} {spare : Nat → Bool} {held : Bool}
theorem trodAll_five {t0 t1 t2 t3 t4 : TypeId} {args : Array Value} {ds : List (DataW H)} {ps : List MemPlace} (h : DataW.TrodAll enc P w base spare held [t0, t1, t2, t3, t4] args.toList ds ps) :
    ∃ v0 v1 v2 v3 v4 d0 d1 d2 d3 d4 p0 p1 p2 p3 p4, args = #[v0, v1, v2, v3, v4] ∧ ds = [d0, d1, d2, d3, d4] ∧ ps = p0 ++ p1 ++ p2 ++ p3 ++ p4 ∧ DataW.Trod enc P w base spare held t0 v0 d0 p0 ∧ DataW.Trod enc P w base spare held t1 v1 d1 p1 ∧ DataW.Trod enc P w base spare held t2 v2 d2 p2 ∧ DataW.Trod enc P w base spare held t3 v3 d3 p3 ∧ DataW.Trod enc P w base spare held t4 v4 d4 p4 := by
  obtain ⟨v0, r0, d0, s0, p0, q0, ha, rfl, rfl, h0, k0⟩ := trodAll_cons h
  obtain ⟨v1, r1, d1, s1, p1, q1, rfl, rfl, rfl, h1, k1⟩ := trodAll_cons k0
  obtain ⟨v2, r2, d2, s2, p2, q2, rfl, rfl, rfl, h2, k2⟩ := trodAll_cons k1
  obtain ⟨v3, r3, d3, s3, p3, q3, rfl, rfl, rfl, h3, k3⟩ := trodAll_cons k2
  obtain ⟨v4, r4, d4, s4, p4, q4, rfl, rfl, rfl, h4, k4⟩ := trodAll_cons k3
  obtain ⟨rfl, rfl, rfl⟩ := trodAll_nil k4
  exact ⟨v0, v1, v2, v3, v4, d0, d1, d2, d3, d4, p0, p1, p2, p3, p4, by cases args; simp_all, rfl, by simp, h0, h1, h2, h3, h4⟩
theorem trodAll_six {t0 t1 t2 t3 t4 t5 : TypeId} {args : Array Value} {ds : List (DataW H)} {ps : List MemPlace} (h : DataW.TrodAll enc P w base spare held [t0, t1, t2, t3, t4, t5] args.toList ds ps) :
    ∃ v0 v1 v2 v3 v4 v5 d0 d1 d2 d3 d4 d5 p0 p1 p2 p3 p4 p5, args = #[v0, v1, v2, v3, v4, v5] ∧ ds = [d0, d1, d2, d3, d4, d5] ∧ ps = p0 ++ p1 ++ p2 ++ p3 ++ p4 ++ p5 ∧ DataW.Trod enc P w base spare held t0 v0 d0 p0 ∧ DataW.Trod enc P w base spare held t1 v1 d1 p1 ∧ DataW.Trod enc P w base spare held t2 v2 d2 p2 ∧ DataW.Trod enc P w base spare held t3 v3 d3 p3 ∧ DataW.Trod enc P w base spare held t4 v4 d4 p4 ∧ DataW.Trod enc P w base spare held t5 v5 d5 p5 := by
  obtain ⟨v0, r0, d0, s0, p0, q0, ha, rfl, rfl, h0, k0⟩ := trodAll_cons h
  obtain ⟨v1, r1, d1, s1, p1, q1, rfl, rfl, rfl, h1, k1⟩ := trodAll_cons k0
  obtain ⟨v2, r2, d2, s2, p2, q2, rfl, rfl, rfl, h2, k2⟩ := trodAll_cons k1
  obtain ⟨v3, r3, d3, s3, p3, q3, rfl, rfl, rfl, h3, k3⟩ := trodAll_cons k2
  obtain ⟨v4, r4, d4, s4, p4, q4, rfl, rfl, rfl, h4, k4⟩ := trodAll_cons k3
  obtain ⟨v5, r5, d5, s5, p5, q5, rfl, rfl, rfl, h5, k5⟩ := trodAll_cons k4
  obtain ⟨rfl, rfl, rfl⟩ := trodAll_nil k5
  exact ⟨v0, v1, v2, v3, v4, v5, d0, d1, d2, d3, d4, d5, p0, p1, p2, p3, p4, p5, by cases args; simp_all, rfl, by simp, h0, h1, h2, h3, h4, h5⟩
theorem trodAll_seven {t0 t1 t2 t3 t4 t5 t6 : TypeId} {args : Array Value} {ds : List (DataW H)} {ps : List MemPlace} (h : DataW.TrodAll enc P w base spare held [t0, t1, t2, t3, t4, t5, t6] args.toList ds ps) :
    ∃ v0 v1 v2 v3 v4 v5 v6 d0 d1 d2 d3 d4 d5 d6 p0 p1 p2 p3 p4 p5 p6, args = #[v0, v1, v2, v3, v4, v5, v6] ∧ ds = [d0, d1, d2, d3, d4, d5, d6] ∧ ps = p0 ++ p1 ++ p2 ++ p3 ++ p4 ++ p5 ++ p6 ∧ DataW.Trod enc P w base spare held t0 v0 d0 p0 ∧ DataW.Trod enc P w base spare held t1 v1 d1 p1 ∧ DataW.Trod enc P w base spare held t2 v2 d2 p2 ∧ DataW.Trod enc P w base spare held t3 v3 d3 p3 ∧ DataW.Trod enc P w base spare held t4 v4 d4 p4 ∧ DataW.Trod enc P w base spare held t5 v5 d5 p5 ∧ DataW.Trod enc P w base spare held t6 v6 d6 p6 := by
  obtain ⟨v0, r0, d0, s0, p0, q0, ha, rfl, rfl, h0, k0⟩ := trodAll_cons h
  obtain ⟨v1, r1, d1, s1, p1, q1, rfl, rfl, rfl, h1, k1⟩ := trodAll_cons k0
  obtain ⟨v2, r2, d2, s2, p2, q2, rfl, rfl, rfl, h2, k2⟩ := trodAll_cons k1
  obtain ⟨v3, r3, d3, s3, p3, q3, rfl, rfl, rfl, h3, k3⟩ := trodAll_cons k2
  obtain ⟨v4, r4, d4, s4, p4, q4, rfl, rfl, rfl, h4, k4⟩ := trodAll_cons k3
  obtain ⟨v5, r5, d5, s5, p5, q5, rfl, rfl, rfl, h5, k5⟩ := trodAll_cons k4
  obtain ⟨v6, r6, d6, s6, p6, q6, rfl, rfl, rfl, h6, k6⟩ := trodAll_cons k5
  obtain ⟨rfl, rfl, rfl⟩ := trodAll_nil k6
  exact ⟨v0, v1, v2, v3, v4, v5, v6, d0, d1, d2, d3, d4, d5, d6, p0, p1, p2, p3, p4, p5, p6, by cases args; simp_all, rfl, by simp, h0, h1, h2, h3, h4, h5, h6⟩
end

/-- the cells, as a value of the type, read to this depth -/
def Rd (P : Program) (w : World) : Nat → TypeId → List Value → Prop
  | 0, _, _ => True
  | d + 1, t, cs => match P.underlying t with
    | some (.int k) => ∃ n, cs = [.int k n] ∧ (Lit.int k n).wf = true
    | some .bool => ∃ b, cs = [.bool b]
    | some .string => ∃ s : ByteArray, cs = [.string s] ∧ s.size ≤ maxLen
    | some (.struct fs) => cs.length = P.cellsOf t ∧ ∀ (i : Nat) (f : Field), fs[i]? = some f → Rd P w d f.type ((cs.drop f.offset).take (P.cellsOf f.type))
    | some (.array n e) => cs.length = P.cellsOf t ∧ ∀ i, i < n → Rd P w d e ((cs.drop (i * P.cellsOf e)).take (P.cellsOf e))
    | some (.slice e) => ∃ (A : Option Addr) (n c : Nat) (f : Nat → List Value), cs = [.slice A n c] ∧ n ≤ c ∧ c ≤ maxLen ∧ RF w A n (P.cellsOf e) f ∧ ∀ i, i < n → Rd P w d e (f i)
    | _ => True
theorem rd_of_trod {H : Type} {enc : TypeId × Value → H} {P : Program} {w : World} {base : Nat} {spare : Nat → Bool} {held : Bool} : ∀ (d fuel : Nat) (t : TypeId) (cs : List Value) (x : DataW H × List MemPlace),
    DataW.trod enc P w base spare held fuel t cs = some x → Rd P w d t cs
  | 0, _, _, _, _, _ => trivial
  | d + 1, fuel, t, cs, x, h => by
    unfold Rd
    cases hu : P.underlying t with
    | none => trivial
    | some k =>
      cases k with
      | int k =>
        cases fuel with
        | zero => simp [DataW.trod] at h
        | succ n =>
          unfold DataW.trod at h
          rw [hu] at h
          dsimp only
          split at h <;> simp_all
      | bool =>
        cases fuel with
        | zero => simp [DataW.trod] at h
        | succ n =>
          unfold DataW.trod at h
          rw [hu] at h
          dsimp only
          split at h <;> simp_all
      | string =>
        cases fuel with
        | zero => simp [DataW.trod] at h
        | succ n =>
          unfold DataW.trod at h
          rw [hu] at h
          dsimp only
          split at h <;> simp_all
      | struct fs =>
        obtain ⟨xs, n, _, _, hl, hlen, hg⟩ := DataW.trod_struct hu h
        refine ⟨hl, fun i f hf => ?_⟩
        have := hg i f hf
        have hi : i < xs.length := by rw [hlen]; exact (Array.getElem?_eq_some_iff.1 hf).1
        rw [List.getElem?_eq_getElem hi] at this
        exact rd_of_trod d _ _ _ _ this
      | array n e =>
        obtain ⟨xs, m, _, _, hl, hlen, hg⟩ := DataW.trod_array hu h
        refine ⟨hl, fun i hi => ?_⟩
        have := hg i hi
        rw [List.getElem?_eq_getElem (by omega)] at this
        exact rd_of_trod d _ _ _ _ this
      | slice e =>
        rcases DataW.trod_slice hu h with ⟨rfl, _⟩ | ⟨a, len, cap, elems, rest, n, _, rfl, _, hb, hl, hm, hlen, hel, _⟩
        · exact ⟨none, 0, 0, fun _ => [], rfl, by omega, by simp, RF.zero, fun i hi => absurd hi (by omega)⟩
        · have each : ∀ i, ∃ cs', i < len → (w.cells? base (a.add (i * P.cellsOf e)) (P.cellsOf e) = some cs' ∧ Rd P w d e cs') := fun i => by
            by_cases hi : i < len
            · have := hel i hi
              rw [List.getElem?_eq_getElem (by omega), Option.bind_eq_some_iff] at this
              obtain ⟨cs', h1, h2⟩ := this
              exact ⟨cs', fun _ => ⟨h1, rd_of_trod d _ _ _ _ h2⟩⟩
            · exact ⟨[], fun h => absurd h hi⟩
          refine ⟨some a, len, cap, fun i => Classical.choose (each i), rfl, hl, hm, fun _ => ⟨rfl, fun i hi o v hv => ?_⟩, fun i hi => (Classical.choose_spec (each i) hi).2⟩
          have hc := World.cells?_some (Classical.choose_spec (each i) hi).1
          have ho : o < P.cellsOf e := Nat.lt_of_lt_of_eq (List.getElem?_eq_some_iff.1 hv).1 hc.2.1
          have := hc.2.2 o ho
          show w.cell? (a.add (i * P.cellsOf e + o)) = some v
          rw [← add_of_add, this, hv]
      | _ => trivial
theorem rd_of {H : Type} {enc : TypeId × Value → H} {P : Program} {w : World} {base : Nat} {spare : Nat → Bool} {held : Bool} {t : TypeId} {v : Value} {dd : DataW H} {p : List MemPlace} (d : Nat) (h : DataW.Trod enc P w base spare held t v dd p) : Rd P w d t v.cells.toList := by
  obtain ⟨fuel, hf⟩ := h
  exact rd_of_trod d fuel t _ _ hf
section
variable {P : Program} {w : World} {d : Nat} {t : TypeId} {cs : List Value}
theorem Rd.int {k : IntKind} (hu : P.underlying t = some (.int k)) (h : Rd P w (d + 1) t cs) : ∃ n, cs = [.int k n] ∧ (Lit.int k n).wf = true := by unfold Rd at h; rwa [hu] at h
theorem Rd.bool (hu : P.underlying t = some .bool) (h : Rd P w (d + 1) t cs) : ∃ b, cs = [.bool b] := by unfold Rd at h; rwa [hu] at h
theorem Rd.string (hu : P.underlying t = some .string) (h : Rd P w (d + 1) t cs) : ∃ s : ByteArray, cs = [.string s] ∧ s.size ≤ maxLen := by unfold Rd at h; rwa [hu] at h
theorem Rd.struct {fs : Array Field} (hu : P.underlying t = some (.struct fs)) (h : Rd P w (d + 1) t cs) : cs.length = P.cellsOf t ∧ ∀ (i : Nat) (f : Field), fs[i]? = some f → Rd P w d f.type ((cs.drop f.offset).take (P.cellsOf f.type)) := by unfold Rd at h; rwa [hu] at h
theorem Rd.array {n : Nat} {e : TypeId} (hu : P.underlying t = some (.array n e)) (h : Rd P w (d + 1) t cs) : cs.length = P.cellsOf t ∧ ∀ i, i < n → Rd P w d e ((cs.drop (i * P.cellsOf e)).take (P.cellsOf e)) := by unfold Rd at h; rwa [hu] at h
theorem Rd.slice {e : TypeId} (hu : P.underlying t = some (.slice e)) (h : Rd P w (d + 1) t cs) : ∃ (A : Option Addr) (n c : Nat) (f : Nat → List Value), cs = [.slice A n c] ∧ n ≤ c ∧ c ≤ maxLen ∧ RF w A n (P.cellsOf e) f ∧ ∀ i, i < n → Rd P w d e (f i) := by unfold Rd at h; rwa [hu] at h
theorem Rd.fld {fs : Array Field} (hu : P.underlying t = some (.struct fs)) (h : Rd P w (d + 1) t cs) (i : Nat) {f : Field} {o z : Nat} {T : TypeId} {cs' : List Value} (hf : fs[i]? = some f) (ho : f.offset = o) (hT : f.type = T) (hz : P.cellsOf T = z) (hcs : (cs.drop o).take z = cs') : Rd P w d T cs' := by
  subst ho hT hz hcs
  exact (h.struct hu).2 i f hf
/-- a struct of ints, or an array of them: its cells are ints -/
theorem Rd.ints_of_fields {fs : Array Field} (hu : P.underlying t = some (.struct fs)) (h : Rd P w (d + 2) t cs) (hf : flatInts P 0 fs.toList = true) (hc : P.cellsOf t = fs.size) (h1 : (fs.toList.all fun f => Nat.beq (P.cellsOf f.type) 1) = true) : ∃ l : List Int, cs = l.map (.int .i64) ∧ l.length = fs.size := by
  obtain ⟨hl, hall⟩ := h.struct hu
  have key : ∀ (r : List Field) (k : Nat), flatInts P k r = true → ∀ f ∈ r, ∃ j, f.offset = k + j ∧ r[j]? = some f ∧ P.underlying f.type = some (.int .i64) := by
    intro r
    induction r with
    | nil => intro k _ f hf; cases hf
    | cons g r ih =>
      intro k hk f hf
      simp only [flatInts, Bool.and_eq_true] at hk
      rcases List.mem_cons.1 hf with rfl | hf
      · refine ⟨0, by simpa using Nat.eq_of_beq_eq_true hk.2.2.1, rfl, ?_⟩
        have := hk.2.1
        split at this
        · assumption
        · cases this
      · obtain ⟨j, h1, h2, h3⟩ := ih (k + 1) hk.2.2.2 f hf
        exact ⟨j + 1, by omega, by simpa using h2, h3⟩
  have off : ∀ (r : List Field) (k i : Nat) (f : Field), flatInts P k r = true → r[i]? = some f → f.offset = k + i ∧ P.underlying f.type = some (.int .i64) := by
    intro r
    induction r with
    | nil => intro k i f _ hi; simp at hi
    | cons g r ih =>
      intro k i f hk hi
      simp only [flatInts, Bool.and_eq_true] at hk
      cases i with
      | zero =>
        simp only [List.getElem?_cons_zero, Option.some.injEq] at hi
        subst hi
        refine ⟨by simpa using Nat.eq_of_beq_eq_true hk.2.2.1, ?_⟩
        have := hk.2.1
        split at this
        · assumption
        · cases this
      | succ i =>
        have := ih (k + 1) i f hk.2.2.2 (by simpa using hi)
        exact ⟨by omega, this.2⟩
  have each : ∀ i, i < cs.length → ∃ n, cs[i]? = some (.int .i64 n) := fun i hi => by
    have hi' : i < fs.size := by omega
    have hg : fs[i]? = some fs[i] := Array.getElem?_eq_getElem hi'
    obtain ⟨ho, hui⟩ := off fs.toList 0 i fs[i] hf (by rw [Array.getElem?_toList]; exact hg)
    obtain ⟨n, hn, _⟩ := (hall i _ hg).int hui
    refine ⟨n, ?_⟩
    have h1i : P.cellsOf fs[i].type = 1 := Nat.eq_of_beq_eq_true (List.all_eq_true.1 h1 _ (Array.mem_toList_iff.2 (Array.getElem_mem hi')))
    rw [h1i, ho, Nat.zero_add] at hn
    have : ((cs.drop i).take 1)[0]? = some (.int .i64 n) := by rw [hn]; rfl
    simpa [List.getElem?_take, List.getElem?_drop] using this
  have hex : ∀ (r : List Value), (∀ i, i < r.length → ∃ n, r[i]? = some (.int .i64 n)) → ∃ l : List Int, r = l.map (.int .i64) := by
    intro r
    induction r with
    | nil => intro _; exact ⟨[], rfl⟩
    | cons v r ih =>
      intro hr
      obtain ⟨n, hn⟩ := hr 0 (by simp)
      obtain ⟨l, rfl⟩ := ih fun i hi => by have := hr (i + 1) (by simpa using hi); simpa using this
      simp only [List.getElem?_cons_zero, Option.some.injEq] at hn
      exact ⟨n :: l, by rw [hn]; rfl⟩
  obtain ⟨l, rfl⟩ := hex cs each
  exact ⟨l, rfl, by simpa [hc] using hl⟩
theorem Rd.ints_of_array {n : Nat} {e : TypeId} (hu : P.underlying t = some (.array n e)) (he : P.underlying e = some (.int .i64)) (hce : P.cellsOf e = 1) (hc : P.cellsOf t = n) (h : Rd P w (d + 2) t cs) : ∃ l : List Int, cs = l.map (.int .i64) ∧ l.length = n := by
  obtain ⟨hl, hall⟩ := h.array hu
  have hex : ∀ (r : List Value), (∀ i, i < r.length → ∃ n, r[i]? = some (.int .i64 n)) → ∃ l : List Int, r = l.map (.int .i64) := by
    intro r
    induction r with
    | nil => intro _; exact ⟨[], rfl⟩
    | cons v r ih =>
      intro hr
      obtain ⟨n, hn⟩ := hr 0 (by simp)
      obtain ⟨l, rfl⟩ := ih fun i hi => by have := hr (i + 1) (by simpa using hi); simpa using this
      simp only [List.getElem?_cons_zero, Option.some.injEq] at hn
      exact ⟨n :: l, by rw [hn]; rfl⟩
  obtain ⟨l, rfl⟩ := hex cs fun i hi => by
    obtain ⟨m, hm, _⟩ := (hall i (by omega)).int he
    refine ⟨m, ?_⟩
    rw [hce, Nat.mul_one] at hm
    have : ((cs.drop i).take 1)[0]? = some (.int .i64 m) := by rw [hm]; rfl
    simpa [List.getElem?_take, List.getElem?_drop] using this
  exact ⟨l, rfl, by simpa [hc] using hl⟩
/-- a slice of ints -/
theorem Rd.intsS {e : TypeId} (hu : P.underlying t = some (.slice e)) (he : P.underlying e = some (.int .i64)) (hce : P.cellsOf e = 1) (h : Rd P w (d + 2) t cs) : ∃ v l, cs = [v] ∧ Ints w v l := by
  obtain ⟨A, n, c, f, rfl, hn, hm, hR, hall⟩ := h.slice hu
  rw [hce] at hR
  have hex : ∀ i, ∃ m, i < n → f i = [.int .i64 m] := fun i => by
    by_cases hi : i < n
    · obtain ⟨m, hm, _⟩ := (hall i hi).int he
      exact ⟨m, fun _ => hm⟩
    · exact ⟨0, fun h => absurd h hi⟩
  refine ⟨_, (List.range n).map fun i => Classical.choose (hex i), rfl, A, c, by simp, by simpa using hn, hm, by simp, fun h0 => ?_⟩
  have h0' : 0 < n := by simpa using h0
  refine ⟨adr A, (hR h0').1, fun j u hj => ?_⟩
  have hj' : j < n := by have := (List.getElem?_eq_some_iff.1 hj).1; simpa using this
  have := (hR h0').2 j hj' 0 (.int .i64 (Classical.choose (hex j))) ((congrArg (fun x : List Value => x[0]?) (Classical.choose_spec (hex j) hj')).trans rfl)
  simp only [Nat.mul_one, Nat.add_zero] at this
  rw [this, ← hj]
  simp [hj']
/-- a slice of flat structs of ints -/
theorem Rd.flatS {α : Type} {enc : α → List Value} {size : Nat} {e : TypeId} (hu : P.underlying t = some (.slice e)) (hce : P.cellsOf e = size) (hs : ∀ a, (enc a).length = size) (hd : ∀ r, Rd P w d e r → ∃ a, r = enc a) (h : Rd P w (d + 1) t cs) : ∃ v l, cs = [v] ∧ Flat enc size w v l := by
  obtain ⟨A, n, c, f, rfl, hn, hm, hR, hall⟩ := h.slice hu
  rw [hce] at hR
  rcases Nat.eq_zero_or_pos n with rfl | hpos
  · exact ⟨_, [], rfl, A, c, rfl, by simp, hm, by simp, fun h => by simp at h⟩
  obtain ⟨a0, _⟩ := hd _ (hall 0 hpos)
  have hex : ∀ i, ∃ a, i < n → f i = enc a := fun i => by
    by_cases hi : i < n
    · obtain ⟨a, ha⟩ := hd _ (hall i hi)
      exact ⟨a, fun _ => ha⟩
    · exact ⟨a0, fun h => absurd h hi⟩
  have hlen : ((List.range n).map fun i => Classical.choose (hex i)).length = n := by simp
  refine ⟨_, (List.range n).map fun i => Classical.choose (hex i), rfl, A, c, by simp, by simpa using hn, hm, ?_, fun _ => ⟨adr A, (hR hpos).1, fun j u hj => ?_⟩⟩
  · have : ∀ l : List α, (l.flatMap enc).length = l.length * size := by
      intro l
      induction l with
      | nil => simp
      | cons x r ih => rw [List.flatMap_cons, List.length_append, hs, ih, List.length_cons, Nat.succ_mul]; omega
    rw [this]
  · have hz : 0 < size := by
      rcases Nat.eq_zero_or_pos size with h0 | h0
      · subst h0
        have : ∀ l : List α, l.flatMap enc = [] := by
          intro l
          induction l with
          | nil => rfl
          | cons x r ih => rw [List.flatMap_cons, ih, List.eq_nil_of_length_eq_zero (hs x)]; rfl
        rw [this] at hj
        simp at hj
      · exact h0
    have hj0 : j < ((List.range n).map fun i => Classical.choose (hex i)).length * size := by
      have h1 := (List.getElem?_eq_some_iff.1 hj).1
      have : ∀ l : List α, (l.flatMap enc).length = l.length * size := by
        intro l
        induction l with
        | nil => simp
        | cons x r ih => rw [List.flatMap_cons, List.length_append, hs, ih, List.length_cons, Nat.succ_mul]; omega
      rwa [this] at h1
    rw [hlen] at hj0
    have hq : j / size < n := Nat.div_lt_of_lt_mul (by rwa [Nat.mul_comm])
    have hr : j % size < size := Nat.mod_lt _ hz
    have hdm : j / size * size + j % size = j := Nat.div_add_mod' j size
    rw [← hdm, flat_get hs (j / size) (j % size) (by rw [hlen]; exact hq) hr] at hj
    rw [← hdm]
    refine (hR hpos).2 (j / size) hq (j % size) u ?_
    rw [Classical.choose_spec (hex (j / size)) hq]
    simpa using hj
end
end Go.Proofs.Ytebklpbbglojmaa
