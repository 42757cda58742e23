/- The law IsaBack answers true for every instruction and every string, of at most 1,048,576 values and letters together, where the library's package variables lie as the text lays them: the tied card of its second form. -/
import Derived.Test.YtfkngjglnhfdcaaDoorIsaRg
import Derived.Test.YtfkngjglnhfdcaaDoorLaidW
import Derived.Test.YtfkngjglnhfdcaaDoorCards
import Derived.Test.YtfkngjglnhfdcaaDoorTie
import Derived.WalkKit
namespace Go.Proofs.YtfkngjglnhfdcaaDoor
set_option linter.unusedVariables false
set_option linter.unusedSimpArgs false
open Go.ChangeShapes Go.WideShapes Go.ChangeAt Go.RowKit

set_option maxRecDepth 100000

theorem bulk_str2 {H : Type} {d : DataW H} {l : List UInt8} (h : Rows.uptoBulkAll [d, DataW.lit (H := H) (.string l)] ≤ 1048576) : l.length ≤ 1048576 := by
  simp only [Rows.uptoBulkAll, Rows.uptoBulk] at h
  omega
theorem show_ok {i : Ins} (hc : chkIns i = 0) (hi : i.In) {w : World} (hL : Lay w) : Calls Tryd.prog 6 #[i.val] w fun e w' => e = .returned (.tuple #[.string (bstr (txtI i)), .int .i64 0]) ∧ Below w.heap.size w w' := by
  have h := isaShow_any i hi hL
  rw [hc, if_pos rfl] at h
  exact h
set_option maxHeartbeats 4000000 in
theorem isaBack_run (i : Ins) (hi : i.In) (l : List UInt8) (hl : l.length ≤ 1048576) {w : World} (hL : Lay w) : Calls Tryd.prog 5 #[i.val, .string (bstr l)] w fun e w' => e = .returned (.bool true) ∧ Below w.heap.size w w' := by
  refine enter Tryd.func5 rfl Tryd.ntmps5 rfl fun a hF => ?_
  have hW := Wd.start w NoB
  refine c_sr ?_; refine pe (e_box hF hW rfl rfl rfl rfl ?_); intro b1 a wc hF hW; refine pv hF hW (y_assign hF rfl) fun a hF => l_nil <| t_n <| c_sr <| pv hF hW (y_loadAll hF rfl 0 rfl Tryd.underlying23 rfl sz_23) fun a hF => ?_; refine pe (e_call hF rfl rfl en_6 (by rfl) rfl rfl (isaShow_any i hi (hL.wd hW)) ?_); rintro e w1 ⟨rfl, hb⟩; replace hW := hW.kept hb; clear hb; refine ⟨_, rfl, fun a hF => ?_⟩; refine pv hF hW (y_move hF rfl) fun a hF => pv hF hW (y_extract hF rfl rfl) fun a hF => pv hF hW (y_extract hF rfl rfl) fun a hF => pv hF hW (y_assign hF rfl) fun a hF => pv hF hW (y_assign hF rfl) fun a hF => l_nil ?_; replace hF := hF.ks [0, 1, 2, 4, 5, 6] rfl; refine t_n <| c_s <| c_sr <| pv hF hW (y_move hF rfl) fun a hF => pv hF hW (y_eql hF rfl rfl) fun a hF => ?_; refine Fr.splitD hF ?_ ?_
  · intro h2 hF; refine l_nil ?_; replace hF := hF.ks [0, 1, 2, 4, 5, 6, 19] rfl; refine t_n <| c_t hF rfl ?_
    have hc : chkIns i = 0 := (by assumption)
    refine c_sr <| pv hF hW (y_move hF rfl) fun a hF => ?_; replace hF := Fr.cast (v' := .string (bstr (txtI i))) (by show Value.string (bstr (if chkIns i = 0 then txtI i else [])) = Value.string (bstr (txtI i)); rw [if_pos hc]) hF; refine pe (e_call hF rfl rfl en_11 (by rfl) rfl rfl (read_txt hc hi (hL.wd hW)) ?_); rintro e w1 ⟨rfl, hb⟩; replace hW := hW.kept hb; clear hb; refine ⟨_, rfl, fun a hF => ?_⟩; refine pv hF hW (y_move hF rfl) fun a hF => pv hF hW (y_extract hF rfl rfl) fun a hF => pv hF hW (y_extract hF rfl rfl) fun a hF => ?_; refine pe (e_alloc hF hW ze_23 rfl rfl rfl ?_); intro b3 a wc hF hW; refine pe (e_storeAll rfl hF hW rfl rfl 0 rfl rfl rfl (by kernel_rfl) sz_23 ?_); intro wc hW; refine pv hF hW (y_assign hF rfl) fun a hF => l_nil ?_; replace hF := hF.ks [0, 1, 2, 4, 5, 6, 7, 8, 19] rfl; refine t_n <| c_sr <| pv hF hW (y_move hF rfl) fun a hF => pv hF hW (y_neq hF rfl rfl) fun a hF => ?_; replace hF := hF.ff; refine pv hF hW (y_move hF rfl) fun a hF => ?_; replace hF := hF.ff; refine pvg hF hW (y_loadAll hF rfl 0 rfl Tryd.underlying23 rfl sz_23) (ws hF rfl rfl) fun a hF => pvg hF hW (y_loadAll hF rfl 1 rfl Tryd.underlying23 rfl sz_23) (ws hF rfl rfl) fun a hF => pvg hF hW (y_bin hF rfl rfl (fun w => net_23 _ _ _ _ _ _ _ _ _ _ w)) (ws hF rfl rfl) fun a hF => ?_; refine Fr.splitD hF ?_ ?_
    · intro h4 hF; exfalso
      exact h4 ⟨rfl, rfl, rfl, rfl⟩
    · intro h4 hF; refine pv hF hW (y_pick hF rfl rfl) fun a hF => l_nil ?_; replace hF := hF.ks [0, 1, 2, 4, 5, 6, 7, 8, 19, 31] rfl; refine t_n <| c_f hF rfl <| wp_skip <| t_n <| c_sr <| pv hF hW (y_move hF rfl) fun a hF => ?_; refine pe (e_call hF rfl rfl en_11 (by rfl) rfl rfl (read_one l (by omega) (hL.wd hW)) ?_); rintro e w1 ⟨j, x, rfl, hb, hr⟩; replace hW := hW.kept hb; clear hb; refine ⟨_, rfl, fun a hF => ?_⟩; refine pv hF hW (y_move hF rfl) fun a hF => pv hF hW (y_extract hF rfl rfl) fun a hF => pv hF hW (y_extract hF rfl rfl) fun a hF => ?_; refine pe (e_alloc hF hW ze_23 rfl rfl rfl ?_); intro b5 a wc hF hW; refine pe (e_storeAll rfl hF hW rfl rfl 0 rfl rfl rfl (by kernel_rfl) sz_23 ?_); intro wc hW; refine pv hF hW (y_assign hF rfl) fun a hF => l_nil ?_; replace hF := hF.ks [0, 1, 2, 4, 5, 6, 7, 8, 9, 10, 19, 31] rfl; refine t_n <| c_s <| c_sr <| pv hF hW (y_move hF rfl) fun a hF => pv hF hW (y_neq hF rfl rfl) fun a hF => ?_; refine Fr.splitD hF ?_ ?_
      · intro h6 hF; refine l_nil ?_; replace hF := hF.ks [0, 1, 2, 4, 5, 6, 7, 8, 9, 10, 19, 31, 38] rfl; refine t_n <| c_t hF rfl <| c_sr ?_; refine pe (e_call hF rfl rfl en_9 (by rfl) rfl rfl (isaBegun_any (hL.wd hW)) ?_); rintro e w1 ⟨rfl, hb⟩; replace hW := hW.kept hb; clear hb; refine ⟨_, rfl, fun a hF => ?_⟩; replace hF := hF.drop 4; refine pv hF hW (y_assign hF rfl) fun a hF => l_nil ?_; replace hF := hF.ks [0, 1, 2, 4, 5, 6, 7, 8, 9, 10, 19, 31, 38] rfl; refine t_n <| wp_ret <| t_r <| ret1 Tryd.results5 hF (rv_t hF rfl) ?_
        exact ⟨rfl, hW.below⟩
      · intro h6 hF; refine l_nil ?_; replace hF := hF.ks [0, 1, 2, 4, 5, 6, 7, 8, 9, 10, 19, 31, 38] rfl; refine t_n <| c_f hF rfl <| wp_skip <| t_n ?_
        have hs := rd_ok hr (by assumption)
        refine c_sr <| pv hF hW (y_loadAll hF rfl 0 rfl Tryd.underlying23 rfl sz_23) fun a hF => ?_; refine pe (e_call hF rfl rfl en_6 (by rfl) rfl rfl (show_ok hs.1 hs.2.1 (hL.wd hW)) ?_); rintro e w1 ⟨rfl, hb⟩; replace hW := hW.kept hb; clear hb; refine ⟨_, rfl, fun a hF => ?_⟩; refine pv hF hW (y_move hF rfl) fun a hF => pv hF hW (y_extract hF rfl rfl) fun a hF => pv hF hW (y_extract hF rfl rfl) fun a hF => pv hF hW (y_assign hF rfl) fun a hF => pv hF hW (y_assign hF rfl) fun a hF => l_nil ?_; replace hF := hF.ks [0, 1, 2, 4, 5, 6, 7, 8, 9, 10, 11, 12, 19, 31, 38] rfl; refine t_n <| c_sr ?_; refine pe (e_call hF rfl rfl en_9 (by rfl) rfl rfl (isaBegun_any (hL.wd hW)) ?_); rintro e w1 ⟨rfl, hb⟩; replace hW := hW.kept hb; clear hb; refine ⟨_, rfl, fun a hF => ?_⟩; refine pv hF hW (y_move hF rfl) fun a hF => pvg hF hW (y_move hF rfl) (ws hF rfl rfl) fun a hF => pvg hF hW (y_eql hF rfl rfl) (ws hF rfl rfl) fun a hF => ?_; replace hF := hF.tt; refine pv hF hW (y_pick hF rfl rfl) fun a hF => ?_; replace hF := hF.tt; refine pv hF hW (y_move hF rfl) fun a hF => ?_; replace hF := hF.tt; refine pvg hF hW (y_move hF rfl) (ws hF rfl rfl) fun a hF => pvg hF hW (y_move hF rfl) (ws hF rfl rfl) fun a hF => pvg hF hW (y_eqB hF rfl rfl) (ws hF rfl rfl) fun a hF => ?_; refine Fr.splitD hF ?_ ?_
        · intro h7 hF; refine pv hF hW (y_pick hF rfl rfl) fun a hF => ?_; replace hF := hF.drop 4; refine pv hF hW (y_assign hF rfl) fun a hF => l_nil ?_; replace hF := hF.ks [0, 1, 2, 4, 5, 6, 7, 8, 9, 10, 11, 12, 19, 31, 38] rfl; refine t_n <| wp_ret <| ret1 Tryd.results5 hF (rv_t hF rfl) ?_
          exact ⟨rfl, hW.below⟩
        · intro h7 hF; exfalso
          exact h7 hs.2.2
  · intro h2 hF; refine l_nil ?_; replace hF := hF.ks [0, 1, 2, 4, 5, 6, 19] rfl; refine t_n <| c_f hF rfl <| wp_skip <| t_n <| c_sr <| pv hF hW (y_move hF rfl) fun a hF => ?_; refine pe (e_call hF rfl rfl en_11 (by rfl) rfl rfl (read_one l (by omega) (hL.wd hW)) ?_); rintro e w1 ⟨j, x, rfl, hb, hr⟩; replace hW := hW.kept hb; clear hb; refine ⟨_, rfl, fun a hF => ?_⟩; refine pv hF hW (y_move hF rfl) fun a hF => pv hF hW (y_extract hF rfl rfl) fun a hF => pv hF hW (y_extract hF rfl rfl) fun a hF => ?_; refine pe (e_alloc hF hW ze_23 rfl rfl rfl ?_); intro b8 a wc hF hW; refine pe (e_storeAll rfl hF hW rfl rfl 0 rfl rfl rfl (by kernel_rfl) sz_23 ?_); intro wc hW; refine pv hF hW (y_assign hF rfl) fun a hF => l_nil ?_; replace hF := hF.ks [0, 1, 2, 4, 5, 6, 9, 10, 19] rfl; refine t_n <| c_s <| c_sr <| pv hF hW (y_move hF rfl) fun a hF => pv hF hW (y_neq hF rfl rfl) fun a hF => ?_; refine Fr.splitD hF ?_ ?_
    · intro h9 hF; refine l_nil ?_; replace hF := hF.ks [0, 1, 2, 4, 5, 6, 9, 10, 19, 38] rfl; refine t_n <| c_t hF rfl <| c_sr ?_; refine pe (e_call hF rfl rfl en_9 (by rfl) rfl rfl (isaBegun_any (hL.wd hW)) ?_); rintro e w1 ⟨rfl, hb⟩; replace hW := hW.kept hb; clear hb; refine ⟨_, rfl, fun a hF => ?_⟩; replace hF := hF.drop 4; refine pv hF hW (y_assign hF rfl) fun a hF => l_nil ?_; replace hF := hF.ks [0, 1, 2, 4, 5, 6, 9, 10, 19, 38] rfl; refine t_n <| wp_ret <| t_r <| ret1 Tryd.results5 hF (rv_t hF rfl) ?_
      exact ⟨rfl, hW.below⟩
    · intro h9 hF; refine l_nil ?_; replace hF := hF.ks [0, 1, 2, 4, 5, 6, 9, 10, 19, 38] rfl; refine t_n <| c_f hF rfl <| wp_skip <| t_n ?_
      have hs := rd_ok hr (by assumption)
      refine c_sr <| pv hF hW (y_loadAll hF rfl 0 rfl Tryd.underlying23 rfl sz_23) fun a hF => ?_; refine pe (e_call hF rfl rfl en_6 (by rfl) rfl rfl (show_ok hs.1 hs.2.1 (hL.wd hW)) ?_); rintro e w1 ⟨rfl, hb⟩; replace hW := hW.kept hb; clear hb; refine ⟨_, rfl, fun a hF => ?_⟩; refine pv hF hW (y_move hF rfl) fun a hF => pv hF hW (y_extract hF rfl rfl) fun a hF => pv hF hW (y_extract hF rfl rfl) fun a hF => pv hF hW (y_assign hF rfl) fun a hF => pv hF hW (y_assign hF rfl) fun a hF => l_nil ?_; replace hF := hF.ks [0, 1, 2, 4, 5, 6, 9, 10, 11, 12, 19, 38] rfl; refine t_n <| c_sr ?_; refine pe (e_call hF rfl rfl en_9 (by rfl) rfl rfl (isaBegun_any (hL.wd hW)) ?_); rintro e w1 ⟨rfl, hb⟩; replace hW := hW.kept hb; clear hb; refine ⟨_, rfl, fun a hF => ?_⟩; refine pv hF hW (y_move hF rfl) fun a hF => pvg hF hW (y_move hF rfl) (ws hF rfl rfl) fun a hF => pvg hF hW (y_eql hF rfl rfl) (ws hF rfl rfl) fun a hF => ?_; replace hF := hF.tt; refine pv hF hW (y_pick hF rfl rfl) fun a hF => ?_; replace hF := hF.tt; refine pv hF hW (y_move hF rfl) fun a hF => ?_; replace hF := hF.tt; refine pvg hF hW (y_move hF rfl) (ws hF rfl rfl) fun a hF => pvg hF hW (y_move hF rfl) (ws hF rfl rfl) fun a hF => pvg hF hW (y_eqB hF rfl rfl) (ws hF rfl rfl) fun a hF => ?_; refine Fr.splitD hF ?_ ?_
      · intro h10 hF; refine pv hF hW (y_pick hF rfl rfl) fun a hF => ?_; replace hF := hF.drop 4; refine pv hF hW (y_assign hF rfl) fun a hF => l_nil ?_; replace hF := hF.ks [0, 1, 2, 4, 5, 6, 9, 10, 11, 12, 19, 38] rfl; refine t_n <| wp_ret <| ret1 Tryd.results5 hF (rv_t hF rfl) ?_
        exact ⟨rfl, hW.below⟩
      · intro h10 hF; exfalso
        exact h10 hs.2.2

set_option maxRecDepth 100000 in
theorem isaBack_contract (H : Type) (enc : TypeId × Value → H) (W : World) (base : Nat) (args : Array Value) (ds gs : List (DataW H)) (before : List MemPlace)
    (hval : ∀ (j : Nat) t v, Tryd.f5.params[j]? = some t → args[j]? = some v → Value.okWide Tryd.prog W .any base t v)
    (hW : DataW.Whole enc Tryd.prog Tryd.f5.params.toList Rows.isaBackSpec.vars false W args.toList ds gs before) (hL0 : laidMetH Tryd.prog laidL W) (hbk : Rows.uptoBulkAll ds ≤ 1048576) :
    Calls Tryd.prog 5 args W fun e W' => ∃ v, e = .returned v ∧ Rows.isaBackSpec.post enc Tryd.prog Tryd.f5 false true false false W args v W' := by
  have hL := lay_of_laid hL0
  have hW' := hW
  obtain ⟨p, q, hA0, hV, rfl, hfz, hnd⟩ := hW
  have hA : DataW.TrodAll enc Tryd.prog W 0 (fun _ => true) true Tryd.f5.params.toList args.toList ds p := hA0
  rw [Tryd.params5] at hA hval
  obtain ⟨v0, v1, d0, d1, p0, p1, rfl, rfl, rfl, h0, h1⟩ := trodAll_two hA
  obtain ⟨i, rfl, hi⟩ := ins_open (hval 0 23 v0 rfl rfl) h0
  obtain ⟨l, rfl, rfl⟩ := str_open (hval 1 9 v1 rfl rfl) h1
  refine (isaBack_run i hi l (bulk_str2 hbk) hL).mono fun e W' ⟨he, hb⟩ => ?_
  subst he
  exact ⟨_, rfl, law_post Tryd.laidOut hW' hb rfl (by kernel_rfl) Tryd.underlying4 (by kernel_rfl) rfl⟩

theorem isaBack_reads (os : Os) {H : Type} (enc : TypeId × Value → H) : ∃ places, DataW.whole enc Tryd.prog ((laidWorld os).forCall (fun _ _ => 0) ⟨#[], #[.agg #[.int .i64 0, .int .i64 0, .int .i64 0, .int .i64 0], .string ⟨#[]⟩], []⟩).memory Tryd.f5.params.toList Rows.isaBackSpec.vars false #[.agg #[.int .i64 0, .int .i64 0, .int .i64 0, .int .i64 0], .string ⟨#[]⟩].toList 8 = some ([.agg [.lit (.int .i64 0), .lit (.int .i64 0), .lit (.int .i64 0), .lit (.int .i64 0)], .lit (.string [])], [], places) :=
  ⟨[], by kernel_rfl⟩
set_option maxRecDepth 100000 in
theorem isaBack_lifted (os : Os) (started : os.Started) (H : Type) (enc : TypeId × Value → H) (F0 : Stop.Interp) :
    ReturnsInHanded {} Tryd.checked os 5 .any ((Rows.OpenSpec.upto Rows.isaBackSpec).preRow enc Tryd.prog Tryd.f5 Rows.isaBackUptoRow.domain false Rows.isaBackUptoRow.laid) (((Rows.OpenSpec.upto Rows.isaBackSpec).at F0).post enc Tryd.prog Tryd.f5 false true false false) := by
  obtain ⟨places, hx⟩ := isaBack_reads os enc
  refine returnsInHanded_of_row (C := Tryd.checked) (s := (Rows.OpenSpec.upto Rows.isaBackSpec)) Tryd.own started (by kernel_rfl) Tryd.func5
    (witness_row_atRef (enc := enc) (C := Tryd.checked) false (laidWorld os) #[.agg #[.int .i64 0, .int .i64 0, .int .i64 0, .int .i64 0], .string ⟨#[]⟩] rfl (by kernel_rfl) (by kernel_rfl) (by kernel_rfl)
      (OpenSpec.preRow_of_cond 8 hx (by kernel_rfl) (fun k hk => by cases hk; kernel_rfl) (by kernel_rfl) (laid_met os _))) ?_
  intro W base args ds gs before hval hW _ hcond _ hL _ _
  have hgs : gs = [] := by
    obtain ⟨p, q, _, hV, _⟩ := hW
    cases gs with
    | nil => rfl
    | cons _ _ => exact hV.elim
  subst hgs
  try rw [List.append_nil] at hcond
  exact isaBack_contract H enc W base args ds [] before hval hW hL (of_decide_eq_true (hcond _ rfl))

theorem isaBack_said : Rows.IsaBackUptoSaid :=
  OpenClaim.holds_of_cond 5 Tryd.f5 rfl rfl rfl rfl rfl rfl rfl ⟨rfl, rfl, rfl, rfl, rfl⟩ rfl rfl rfl rfl rfl (by kernel_rfl) Tryd.func5 (by kernel_rfl)
    (of_decide_eq_true (by kernel_rfl)) (by unfold Func.isWrapper; first | (rw [if_pos (by decide +kernel)]; kernel_rfl) | (rw [if_neg (by decide +kernel)]; exact ⟨rfl, rfl⟩))
    (fun os started H enc _ F0 => by rw [OpenClaim.pre_eq_preRow]; exact isaBack_lifted os started H enc F0)

theorem isaBack_plain (f : FuncId) (fn : Func) (hf : Tryd.pinned.checked.prog.funcNamed "lychgate/lychgatelaw.IsaBack" = some f) (hfn : Tryd.pinned.checked.prog.funcs[f]? = some fn) :
    true = Tryd.pinned.checked.prog.looks [] ∧ ∀ (j : Nat) t, fn.params[j]? = some t → Tryd.pinned.checked.prog.wantsStandIn t = false := by
  obtain rfl : f = 5 := Option.some.inj ((show Tryd.prog.funcNamed "lychgate/lychgatelaw.IsaBack" = some 5 by kernel_rfl).symm.trans hf) |>.symm
  obtain rfl : fn = Tryd.f5 := (Option.some.inj (Tryd.func5.symm.trans hfn)).symm
  refine ⟨by kernel_rfl, fun j t ht => ?_⟩
  rw [Tryd.params5] at ht
  have ht2 : t = 23 ∨ t = 9 := by simpa using Array.mem_of_getElem? ht
  rcases ht2 with rfl | rfl <;> first | exact (show Tryd.prog.wantsStandIn 23 = false by kernel_rfl) | exact (show Tryd.prog.wantsStandIn 9 = false by kernel_rfl)

/-- THE CARD -/
theorem isaBack_holds : Rows.IsaBackUptoCardSaid :=
  Claim7.holds_tied_plain_at .later [] _ _ _ _ isaBack_said (fun _ h => by cases h) (by kernel_rfl) (fun _ h => by cases h) isaBackUpto_row_tie rfl ⟨rfl, rfl⟩ (by kernel_rfl) rfl isaBack_plain (by kernel_rfl)
end Go.Proofs.YtfkngjglnhfdcaaDoor
