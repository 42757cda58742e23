/- The law IsaChecks answers true for every input, where the library's package variables lie as the text lays them: the tied card. -/
import Derived.Test.YtfkngjglnhfdcaaDoorIsaBg
import Derived.Test.YtfkngjglnhfdcaaDoorLaidW
import Derived.Test.YtfkngjglnhfdcaaDoorCards
import Derived.Test.YtfkngjglnhfdcaaDoorTie
import Derived.WalkKit
namespace Go.Proofs.YtfkngjglnhfdcaaDoor
set_option linter.unusedVariables false
set_option linter.unusedSimpArgs false
open Go.ChangeShapes Go.WideShapes Go.ChangeAt Go.RowKit
set_option maxRecDepth 100000

set_option maxRecDepth 100000 in
theorem isaChecks_contract (H : Type) (enc : TypeId × Value → H) (W : World) (base : Nat) (args : Array Value) (ds gs : List (DataW H)) (before : List MemPlace)
    (hval : ∀ (j : Nat) t v, Tryd.f3.params[j]? = some t → args[j]? = some v → Value.okWide Tryd.prog W .any base t v)
    (hW : DataW.Whole enc Tryd.prog Tryd.f3.params.toList Rows.isaChecksSpec.vars false W args.toList ds gs before) (hL0 : laidMetH Tryd.prog laidL W) :
    Calls Tryd.prog 3 args W fun e W' => ∃ v, e = .returned v ∧ Rows.isaChecksSpec.post enc Tryd.prog Tryd.f3 false true false false W args v W' := by
  have hL := lay_of_laid hL0
  have hW' := hW
  obtain ⟨p, q, hA0, hV, rfl, hfz, hnd⟩ := hW
  have hA : DataW.TrodAll enc Tryd.prog W 0 (fun _ => true) true Tryd.f3.params.toList args.toList ds p := hA0
  rw [Tryd.params3] at hA hval
  obtain ⟨v0, d0, rfl, rfl, h0⟩ := trodAll_one hA
  obtain ⟨i, rfl, hi⟩ := ins_open (hval 0 23 v0 rfl rfl) h0
  refine (isaChecks_run i hi hL).mono fun e W' ⟨he, hb⟩ => ?_
  subst he
  exact ⟨_, rfl, law_post Tryd.laidOut hW' hb rfl (by kernel_rfl) Tryd.underlying4 (by kernel_rfl) rfl⟩

theorem isaChecks_reads (os : Os) {H : Type} (enc : TypeId × Value → H) : ∃ places, DataW.whole enc Tryd.prog ((laidWorld os).forCall (fun _ _ => 0) ⟨#[], #[.agg #[.int .i64 0, .int .i64 0, .int .i64 0, .int .i64 0]], []⟩).memory Tryd.f3.params.toList Rows.isaChecksSpec.vars false #[.agg #[.int .i64 0, .int .i64 0, .int .i64 0, .int .i64 0]].toList 8 = some ([.agg [.lit (.int .i64 0), .lit (.int .i64 0), .lit (.int .i64 0), .lit (.int .i64 0)]], [], places) :=
  ⟨[], by kernel_rfl⟩
set_option maxRecDepth 100000 in
theorem isaChecks_lifted (os : Os) (started : os.Started) (H : Type) (enc : TypeId × Value → H) (F0 : Stop.Interp) :
    ReturnsInHanded {} Tryd.checked os 3 .any ((OpenSpec.ofChange Rows.isaChecksSpec).preRow enc Tryd.prog Tryd.f3 Rows.isaChecksRow.domain false Rows.isaChecksRow.laid) (((OpenSpec.ofChange Rows.isaChecksSpec).at F0).post enc Tryd.prog Tryd.f3 false true false false) := by
  obtain ⟨places, hx⟩ := isaChecks_reads os enc
  refine returnsInHanded_of_row (C := Tryd.checked) (s := (OpenSpec.ofChange Rows.isaChecksSpec)) Tryd.own started (by kernel_rfl) Tryd.func3
    (witness_row_atRef (enc := enc) (C := Tryd.checked) false (laidWorld os) #[.agg #[.int .i64 0, .int .i64 0, .int .i64 0, .int .i64 0]] rfl (by kernel_rfl) (by kernel_rfl) (by kernel_rfl)
      (OpenSpec.preRow_of_cond 8 hx (by kernel_rfl) (fun k hk => by cases hk; skip) (by kernel_rfl) (laid_met os _))) ?_
  intro W base args ds gs before hval hW _ hcond _ hL _ _
  have hgs : gs = [] := by
    obtain ⟨p, q, _, hV, _⟩ := hW
    cases gs with
    | nil => rfl
    | cons _ _ => exact hV.elim
  subst hgs
  try rw [List.append_nil] at hcond
  exact isaChecks_contract H enc W base args ds [] before hval hW hL 

theorem isaChecks_said : Rows.IsaChecksSaid :=
  OpenClaim.holds_of_cond 3 Tryd.f3 rfl rfl rfl rfl rfl rfl rfl ⟨rfl, rfl, rfl, rfl, rfl⟩ rfl rfl rfl rfl rfl (by kernel_rfl) Tryd.func3 (by kernel_rfl)
    (of_decide_eq_true (by kernel_rfl)) (by unfold Func.isWrapper; first | (rw [if_pos (by decide +kernel)]; kernel_rfl) | (rw [if_neg (by decide +kernel)]; exact ⟨rfl, rfl⟩))
    (fun os started H enc _ F0 => by rw [OpenClaim.pre_eq_preRow]; exact isaChecks_lifted os started H enc F0)

theorem isaChecks_plain (f : FuncId) (fn : Func) (hf : Tryd.pinned.checked.prog.funcNamed "lychgate/lychgatelaw.IsaChecks" = some f) (hfn : Tryd.pinned.checked.prog.funcs[f]? = some fn) :
    true = Tryd.pinned.checked.prog.looks [] ∧ ∀ (j : Nat) t, fn.params[j]? = some t → Tryd.pinned.checked.prog.wantsStandIn t = false := by
  obtain rfl : f = 3 := Option.some.inj ((show Tryd.prog.funcNamed "lychgate/lychgatelaw.IsaChecks" = some 3 by kernel_rfl).symm.trans hf) |>.symm
  obtain rfl : fn = Tryd.f3 := (Option.some.inj (Tryd.func3.symm.trans hfn)).symm
  refine ⟨by kernel_rfl, fun j t ht => ?_⟩
  rw [Tryd.params3] at ht
  have ht2 : t = 23 := by simpa using Array.mem_of_getElem? ht
  rcases ht2 with rfl <;> first | exact (show Tryd.prog.wantsStandIn 23 = false by kernel_rfl)

/-- THE CARD -/
theorem isaChecks_holds : Rows.IsaChecksCardSaid :=
  Claim7.holds_tied_plain_at .later [] _ _ _ _ isaChecks_said (fun _ h => by cases h) (by kernel_rfl) (fun _ h => by cases h) isaChecks_row_tie rfl ⟨rfl, rfl⟩ (by kernel_rfl) rfl isaChecks_plain (by kernel_rfl)
end Go.Proofs.YtfkngjglnhfdcaaDoor
