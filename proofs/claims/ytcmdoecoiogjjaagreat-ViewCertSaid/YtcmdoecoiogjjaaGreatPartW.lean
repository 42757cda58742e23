/- What an input's weight says of the lengths of a part among the arguments. -/
import Derived.SizedLaws
import Derived.Test.YtcmdoecoiogjjaaGreatConfD1
namespace Go.Proofs.YtcmdoecoiogjjaaGreat
set_option linter.unusedVariables false
set_option linter.unusedSimpArgs false
open Go.ChangeShapes Go.WideShapes Go.ChangeAt Go.RowKit
set_option maxRecDepth 100000

section
variable {H : Type} {enc : TypeId × Value → H} {w : World} {base base' : Nat} {r : Reach} {spare : Nat → Bool} {held : Bool} {v : Value} {d : DataW H} {p : List MemPlace}
theorem slice_weight {P : Program} {t e : TypeId} (hu : P.underlying t = some (.slice e)) {fuel : Nat} {cs : List Value} {x : DataW H × List MemPlace} (h : DataW.trod enc P w base spare held fuel t cs = some x) {A : Option Addr} {n c : Nat} (hcs : cs = [.slice A n c])
    (hw : (x.1.weights P t).all (· ≤ reachBytes) = true) : n * P.bytesOf e ≤ reachBytes := by
  rcases DataW.trod_slice hu h with ⟨rfl, _⟩ | ⟨a, len, cap, elems, rest, m, _, rfl, rfl, _, _, _, hlen, _⟩
  · simp only [List.cons.injEq, Value.slice.injEq, and_true] at hcs
    rw [← hcs.2.1, Nat.zero_mul]
    exact Nat.zero_le _
  · simp only [List.cons.injEq, Value.slice.injEq, and_true] at hcs
    simp only [DataW.weights, hu, List.all_cons, Bool.and_eq_true, decide_eq_true_eq, List.length_map] at hw
    refine Nat.le_trans (Nat.mul_le_mul_right _ ?_) hw.1
    omega
theorem partW_open (hv : Value.okWide Tryz.prog w r base' 49 v) (h : DataW.Trod enc Tryz.prog w base spare held 49 v d p) : ∃ q : PP, v = .agg (encP q).toArray ∧ q.At w ∧
    ((d.weights Tryz.prog 49).all (· ≤ reachBytes) = true → q.1.code.length * 32 ≤ 140737488355328 ∧ q.1.inp.length * 8 ≤ 140737488355328) := by
  obtain ⟨cv, iv, pt, rfl, h1, h2⟩ := part_open hv h
  obtain ⟨Ac, cc, rfl, _, _, _⟩ := RF.of_flat Ins.cells_len I0 h1
  obtain ⟨Ai, ci, rfl, _, _, _⟩ := RF.of_ints h2
  refine ⟨(pt, ⟨Ac, cc, Ai, ci⟩), rfl, ⟨h1, h2⟩, fun hw => ?_⟩
  obtain ⟨fuel, hf⟩ := h
  obtain ⟨xs, n, _, hx, _, hlen, hg⟩ := DataW.trod_struct Tryz.underlying49 hf
  have hd : d = .agg (xs.map (·.1)) := congrArg Prod.fst hx
  subst hd
  have hl2 : xs.length = 2 := hlen
  match xs, hl2 with
  | [a, b], _ =>
    have g0 := hg 0 _ rfl
    have g1 := hg 1 _ rfl
    rw [DataW.weights, Tryz.underlying49] at hw
    change (DataW.weightsEach Tryz.prog [47, 40] [a.1, b.1]).all (· ≤ reachBytes) = true at hw
    simp only [DataW.weightsEach, List.all_append, Bool.and_eq_true] at hw
    have b0 := slice_weight Tryz.underlying47 g0 (A := Ac) (n := pt.code.length) (c := cc) (by kernel_rfl) hw.1
    have b1 := slice_weight Tryz.underlying40 g1 (A := Ai) (n := pt.inp.length) (c := ci) (by kernel_rfl) hw.2.1
    have e0 : Tryz.prog.bytesOf 51 = 32 := by kernel_rfl
    have e1 : Tryz.prog.bytesOf 3 = 8 := by kernel_rfl
    rw [e0] at b0
    rw [e1] at b1
    unfold reachBytes at b0 b1
    show pt.code.length * 32 ≤ _ ∧ pt.inp.length * 8 ≤ _
    omega
end
end Go.Proofs.YtcmdoecoiogjjaaGreat
