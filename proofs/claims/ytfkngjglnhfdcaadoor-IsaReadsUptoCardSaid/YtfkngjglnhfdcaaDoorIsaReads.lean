/- The law IsaReads answers true for every string of at most 1,048,575 letters, where the library's package variables lie as the text lays them: the tied card of its second form. -/
import Derived.Test.YtfkngjglnhfdcaaDoorIsaRg
import Derived.Test.YtfkngjglnhfdcaaDoorLaidW
import Derived.Test.YtfkngjglnhfdcaaDoorCards
import Derived.Test.YtfkngjglnhfdcaaDoorTie
import Derived.WalkKit
namespace Go.Proofs.YtfkngjglnhfdcaaDoor
set_option linter.unusedVariables false
set_option linter.unusedSimpArgs false
open Go.ChangeShapes Go.WideShapes Go.ChangeAt Go.RowKit

set_option maxRecDepth 100000

theorem bulk_str {H : Type} {l : List UInt8} (h : Rows.uptoBulkAll [DataW.lit (H := H) (.string l)] ≤ 1048576) : l.length ≤ 1048576 := by
  simp only [Rows.uptoBulkAll, Rows.uptoBulk] at h
  omega
theorem ins_val {o p q r : Int} {i : Ins} (h : i = ⟨o, p, q, r⟩) : o = i.op ∧ p = i.a ∧ q = i.b ∧ r = i.n := by subst h; exact ⟨rfl, rfl, rfl, rfl⟩
set_option maxHeartbeats 4000000 in
theorem isaReads_run (l : List UInt8) (hl : l.length ≤ 1048576) {w : World} (hL : Lay w) : Calls Tryd.prog 4 #[.string (bstr l)] w fun e w' => e = .returned (.bool true) ∧ Below w.heap.size w w' := by
  refine enter Tryd.func4 rfl Tryd.ntmps4 rfl fun a hF => ?_
  have hW := Wd.start w NoB
  refine c_sr <| pv hF hW (y_assign hF rfl) fun a hF => l_nil <| t_n <| c_sr <| pv hF hW (y_move hF rfl) fun a hF => ?_; refine pe (e_call hF rfl rfl en_11 (by rfl) rfl rfl (read_one l (by omega) (hL.wd hW)) ?_); rintro e w1 ⟨i, x, rfl, hb, hr⟩; replace hW := hW.kept hb; clear hb; refine ⟨_, rfl, fun a hF => ?_⟩; refine pv hF hW (y_move hF rfl) fun a hF => pv hF hW (y_extract hF rfl rfl) fun a hF => pv hF hW (y_extract hF rfl rfl) fun a hF => ?_; refine pe (e_alloc hF hW ze_23 rfl rfl rfl ?_); intro b1 a wc hF hW; refine pe (e_storeAll rfl hF hW rfl rfl 0 rfl rfl rfl (by kernel_rfl) sz_23 ?_); intro wc hW; refine pv hF hW (y_assign hF rfl) fun a hF => l_nil ?_; replace hF := hF.ks [0, 2, 3, 4] rfl; refine t_n <| c_sr <| pv hF hW (y_move hF rfl) fun a hF => ?_; refine pe (e_call hF rfl rfl en_12 (by rfl) rfl rfl (from_one l (by omega) _) ?_); rintro e w1 ⟨j, y, rfl, hb, hs⟩
  replace hW := hW.kept hb; obtain ⟨rfl, rfl⟩ := hr.same hs
  refine ⟨_, rfl, fun a hF => ?_⟩; refine pv hF hW (y_move hF rfl) fun a hF => pv hF hW (y_extract hF rfl rfl) fun a hF => pv hF hW (y_extract hF rfl rfl) fun a hF => ?_; refine Fr.splitB hF ?_ ?_
  · intro h2 hF; refine pe (e_alloc hF hW ze_23 rfl rfl rfl ?_); intro b3 a wc hF hW; refine pe (e_storeAll rfl hF hW rfl rfl 0 rfl rfl rfl (by kernel_rfl) sz_23 ?_); intro wc hW; refine pv hF hW (y_assign hF rfl) fun a hF => l_nil ?_; replace hF := hF.ks [0, 2, 3, 4, 5, 6] rfl; refine t_n <| c_sr <| pv hF hW (y_assign hF rfl) fun a hF => l_nil <| t_n <| c_s <| c_sr <| pv hF hW (y_move hF rfl) fun a hF => pv hF hW (y_not hF rfl) fun a hF => ?_; replace hF := hF.ff; refine l_nil ?_; replace hF := hF.ks [0, 2, 3, 4, 5, 6, 7, 19] rfl; refine t_n <| c_f hF rfl <| wp_skip <| t_n <| c_sr ?_; refine pe (e_call hF rfl rfl en_9 (by rfl) rfl rfl (isaBegun_any (hL.wd hW)) ?_); rintro e w1 ⟨rfl, hb⟩; replace hW := hW.kept hb; clear hb; refine ⟨_, rfl, fun a hF => ?_⟩; refine pv hF hW (y_move hF rfl) fun a hF => pvg hF hW (y_move hF rfl) (ws hF rfl rfl) fun a hF => pvg hF hW (y_move hF rfl) (ws hF rfl rfl) fun a hF => pvg hF hW (y_eql hF rfl rfl) (ws hF rfl rfl) fun a hF => ?_; refine Fr.splitD hF ?_ ?_
    · intro h4 hF; refine pv hF hW (y_pick hF rfl rfl) fun a hF => pv hF hW (y_move hF rfl) fun a hF => pvg hF hW (y_loadAll hF rfl 1 rfl Tryd.underlying23 rfl sz_23) (ws hF rfl rfl) fun a hF => pvg hF hW (y_loadAll hF rfl 0 rfl Tryd.underlying23 rfl sz_23) (ws hF rfl rfl) fun a hF => pvg hF hW (y_bin hF rfl rfl (fun w => eqt_23 _ _ _ _ _ _ _ _ _ _ w)) (ws hF rfl rfl) fun a hF => ?_; refine Fr.splitD hF ?_ ?_
      · intro h5 hF; refine pv hF hW (y_pick hF rfl rfl) fun a hF => ?_; replace hF := hF.drop 2; refine pv hF hW (y_assign hF rfl) fun a hF => l_nil ?_; replace hF := hF.ks [0, 2, 3, 4, 5, 6, 7, 19] rfl; refine t_n <| wp_ret <| ret1 Tryd.results4 hF (rv_t hF rfl) ?_
        exact ⟨rfl, hW.below⟩
      · intro h5 hF; exfalso
        exact h5 ⟨rfl, rfl, rfl, rfl⟩
    · intro h4 hF; exfalso
      first | exact h4 (if_pos (by assumption)) | exact h4 (if_neg (by simp_all))
  · intro h2 hF; refine pe (e_alloc hF hW ze_23 rfl rfl rfl ?_); intro b6 a wc hF hW; refine pe (e_storeAll rfl hF hW rfl rfl 0 rfl rfl rfl (by kernel_rfl) sz_23 ?_); intro wc hW; refine pv hF hW (y_assign hF rfl) fun a hF => l_nil ?_; replace hF := hF.ks [0, 2, 3, 4, 5, 6] rfl; refine t_n <| c_sr <| pv hF hW (y_assign hF rfl) fun a hF => l_nil <| t_n <| c_s <| c_sr <| pv hF hW (y_move hF rfl) fun a hF => pv hF hW (y_not hF rfl) fun a hF => ?_; replace hF := hF.tt; refine l_nil ?_; replace hF := hF.ks [0, 2, 3, 4, 5, 6, 7, 19] rfl; refine t_n <| c_t hF rfl <| c_r ?_; replace hF := hF.drop 7; refine pv hF hW (y_assign hF rfl) fun a hF => l_nil <| t_n <| c_sr ?_; refine pe (e_call hF rfl rfl en_9 (by rfl) rfl rfl (isaBegun_any (hL.wd hW)) ?_); rintro e w1 ⟨rfl, hb⟩; replace hW := hW.kept hb; clear hb; refine ⟨_, rfl, fun a hF => ?_⟩; refine pv hF hW (y_move hF rfl) fun a hF => pvg hF hW (y_move hF rfl) (ws hF rfl rfl) fun a hF => pvg hF hW (y_move hF rfl) (ws hF rfl rfl) fun a hF => pvg hF hW (y_eql hF rfl rfl) (ws hF rfl rfl) fun a hF => ?_; refine Fr.splitD hF ?_ ?_
    · intro h7 hF; refine pv hF hW (y_pick hF rfl rfl) fun a hF => pv hF hW (y_move hF rfl) fun a hF => pvg hF hW (y_loadAll hF rfl 1 rfl Tryd.underlying23 rfl sz_23) (ws hF rfl rfl) fun a hF => pvg hF hW (y_loadAll hF rfl 0 rfl Tryd.underlying23 rfl sz_23) (ws hF rfl rfl) fun a hF => pvg hF hW (y_bin hF rfl rfl (fun w => eqt_23 _ _ _ _ _ _ _ _ _ _ w)) (ws hF rfl rfl) fun a hF => ?_; refine Fr.splitD hF ?_ ?_
      · intro h8 hF; refine pv hF hW (y_pick hF rfl rfl) fun a hF => ?_; replace hF := hF.drop 2; refine pv hF hW (y_assign hF rfl) fun a hF => l_nil ?_; replace hF := hF.ks [0, 2, 3, 4, 5, 6, 7, 19] rfl; refine t_n <| wp_ret <| ret1 Tryd.results4 hF (rv_t hF rfl) ?_
        exact ⟨rfl, hW.below⟩
      · intro h8 hF; exfalso
        exact h8 ⟨rfl, rfl, rfl, rfl⟩
    · intro h7 hF; exfalso
      first | exact h7 (if_pos (by assumption)) | exact h7 (if_neg (by simp_all))

set_option maxRecDepth 100000 in
theorem isaReads_contract (H : Type) (enc : TypeId × Value → H) (W : World) (base : Nat) (args : Array Value) (ds gs : List (DataW H)) (before : List MemPlace)
    (hval : ∀ (j : Nat) t v, Tryd.f4.params[j]? = some t → args[j]? = some v → Value.okWide Tryd.prog W .any base t v)
    (hW : DataW.Whole enc Tryd.prog Tryd.f4.params.toList Rows.isaReadsSpec.vars false W args.toList ds gs before) (hL0 : laidMetH Tryd.prog laidL W) (hbk : Rows.uptoBulkAll ds ≤ 1048576) :
    Calls Tryd.prog 4 args W fun e W' => ∃ v, e = .returned v ∧ Rows.isaReadsSpec.post enc Tryd.prog Tryd.f4 false true false false W args v W' := by
  have hL := lay_of_laid hL0
  have hW' := hW
  obtain ⟨p, q, hA0, hV, rfl, hfz, hnd⟩ := hW
  have hA : DataW.TrodAll enc Tryd.prog W 0 (fun _ => true) true Tryd.f4.params.toList args.toList ds p := hA0
  rw [Tryd.params4] at hA hval
  obtain ⟨v0, d0, rfl, rfl, h0⟩ := trodAll_one hA
  obtain ⟨l, rfl, rfl⟩ := str_open (hval 0 9 v0 rfl rfl) h0
  refine (isaReads_run l (bulk_str hbk) hL).mono fun e W' ⟨he, hb⟩ => ?_
  subst he
  exact ⟨_, rfl, law_post Tryd.laidOut hW' hb rfl (by kernel_rfl) Tryd.underlying4 (by kernel_rfl) rfl⟩

theorem isaReads_reads (os : Os) {H : Type} (enc : TypeId × Value → H) : ∃ places, DataW.whole enc Tryd.prog ((laidWorld os).forCall (fun _ _ => 0) ⟨#[], #[.string ⟨#[]⟩], []⟩).memory Tryd.f4.params.toList Rows.isaReadsSpec.vars false #[.string ⟨#[]⟩].toList 8 = some ([.lit (.string [])], [], places) :=
  ⟨[], by kernel_rfl⟩
set_option maxRecDepth 100000 in
theorem isaReads_lifted (os : Os) (started : os.Started) (H : Type) (enc : TypeId × Value → H) (F0 : Stop.Interp) :
    ReturnsInHanded {} Tryd.checked os 4 .any ((Rows.OpenSpec.upto Rows.isaReadsSpec).preRow enc Tryd.prog Tryd.f4 Rows.isaReadsUptoRow.domain false Rows.isaReadsUptoRow.laid) (((Rows.OpenSpec.upto Rows.isaReadsSpec).at F0).post enc Tryd.prog Tryd.f4 false true false false) := by
  obtain ⟨places, hx⟩ := isaReads_reads os enc
  refine returnsInHanded_of_row (C := Tryd.checked) (s := (Rows.OpenSpec.upto Rows.isaReadsSpec)) Tryd.own started (by kernel_rfl) Tryd.func4
    (witness_row_atRef (enc := enc) (C := Tryd.checked) false (laidWorld os) #[.string ⟨#[]⟩] rfl (by kernel_rfl) (by kernel_rfl) (by kernel_rfl)
      (OpenSpec.preRow_of_cond 8 hx (by kernel_rfl) (fun k hk => by cases hk; kernel_rfl) (by kernel_rfl) (laid_met os _))) ?_
  intro W base args ds gs before hval hW _ hcond _ hL _ _
  have hgs : gs = [] := by
    obtain ⟨p, q, _, hV, _⟩ := hW
    cases gs with
    | nil => rfl
    | cons _ _ => exact hV.elim
  subst hgs
  try rw [List.append_nil] at hcond
  exact isaReads_contract H enc W base args ds [] before hval hW hL (of_decide_eq_true (hcond _ rfl))

theorem isaReads_said : Rows.IsaReadsUptoSaid :=
  OpenClaim.holds_of_cond 4 Tryd.f4 rfl rfl rfl rfl rfl rfl rfl ⟨rfl, rfl, rfl, rfl, rfl⟩ rfl rfl rfl rfl rfl (by kernel_rfl) Tryd.func4 (by kernel_rfl)
    (of_decide_eq_true (by kernel_rfl)) (by unfold Func.isWrapper; first | (rw [if_pos (by decide +kernel)]; kernel_rfl) | (rw [if_neg (by decide +kernel)]; exact ⟨rfl, rfl⟩))
    (fun os started H enc _ F0 => by rw [OpenClaim.pre_eq_preRow]; exact isaReads_lifted os started H enc F0)

theorem isaReads_plain (f : FuncId) (fn : Func) (hf : Tryd.pinned.checked.prog.funcNamed "lychgate/lychgatelaw.IsaReads" = some f) (hfn : Tryd.pinned.checked.prog.funcs[f]? = some fn) :
    true = Tryd.pinned.checked.prog.looks [] ∧ ∀ (j : Nat) t, fn.params[j]? = some t → Tryd.pinned.checked.prog.wantsStandIn t = false := by
  obtain rfl : f = 4 := Option.some.inj ((show Tryd.prog.funcNamed "lychgate/lychgatelaw.IsaReads" = some 4 by kernel_rfl).symm.trans hf) |>.symm
  obtain rfl : fn = Tryd.f4 := (Option.some.inj (Tryd.func4.symm.trans hfn)).symm
  refine ⟨by kernel_rfl, fun j t ht => ?_⟩
  rw [Tryd.params4] at ht
  have ht2 : t = 9 := by simpa using Array.mem_of_getElem? ht
  rcases ht2 with rfl <;> first | exact (show Tryd.prog.wantsStandIn 9 = false by kernel_rfl)

/-- THE CARD -/
theorem isaReads_holds : Rows.IsaReadsUptoCardSaid :=
  Claim7.holds_tied_plain_at .later [] _ _ _ _ isaReads_said (fun _ h => by cases h) (by kernel_rfl) (fun _ h => by cases h) isaReadsUpto_row_tie rfl ⟨rfl, rfl⟩ (by kernel_rfl) rfl isaReads_plain (by kernel_rfl)
end Go.Proofs.YtfkngjglnhfdcaaDoor
