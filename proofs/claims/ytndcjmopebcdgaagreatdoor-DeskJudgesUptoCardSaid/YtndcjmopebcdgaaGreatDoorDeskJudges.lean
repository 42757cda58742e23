/- The law DeskJudges answers true for every input of a bulk below the second form's bound, where the library's package variables lie as the text lays them. -/
import Derived.Test.YtndcjmopebcdgaaGreatDoorDkA
import Derived.Test.YtndcjmopebcdgaaGreatDoorDkS
import Derived.Test.YtndcjmopebcdgaaGreatDoorLaidW
import Derived.Test.YtndcjmopebcdgaaGreatDoorCards
import Derived.Test.YtndcjmopebcdgaaGreatDoorTie
import Derived.WalkKit
namespace Go.Proofs.YtndcjmopebcdgaaGreatDoor
set_option linter.unusedVariables false
set_option linter.unusedSimpArgs false
open Go.ChangeShapes Go.WideShapes Go.ChangeAt Go.RowKit

set_option maxRecDepth 100000

theorem bulk_2 {H : Type} {d d' : DataW H} {l : List UInt8} (h : Rows.uptoBulkAll [d, DataW.lit (H := H) (.string l), d'] ≤ 1048576) : l.length ≤ 1048576 := by
  simp only [Rows.uptoBulkAll, Rows.uptoBulk] at h
  omega
theorem rules_eq {s : List UInt8} {P Q : List Edg} {E : Int} {ok : Bool} (h : RulesIs s P E) (k : RulesR s Q ok) : P = Q ∧ (ok = true → E = 0) ∧ (ok = false → E = 1) := by
  rcases h with ⟨rfl, h⟩ | ⟨rfl, rfl, h⟩ <;> rcases k with ⟨rfl, k⟩ | ⟨rfl, rfl, k⟩
  · exact ⟨h.unique k, fun _ => rfl, fun h => by cases h⟩
  · exact absurd h (k _)
  · exact absurd k (h _)
  · exact ⟨rfl, fun h => (by cases h), fun _ => rfl⟩
theorem deskJudges_run (l s : List UInt8) (n : Int) (hs : s.length ≤ 1048576) {w : World} (hL : Lay w) : Calls Tryz.prog 3 #[.string (bstr l), .string (bstr s), .int .i64 n] w fun e w' => e = .returned (.bool true) ∧ Below w.heap.size w w' := by
  refine enter Tryz.func3 rfl Tryz.ntmps3 rfl fun a hF => ?_
  have hW := Wd.start w NoB
  refine c_sr <| pq 1 hF rfl fun a hF => lts <| pq 3 hF rfl fun a hF => ?_; refine pe (e_callA hF rfl rfl en_5 Rl (judge_any l s n hs (hL.wd hW)) ?_); rintro e w1 ⟨T, E, rfl, hJ, hb⟩; replace hW := hW.kept hb; refine ⟨_, rfl, fun a hF => ?_⟩; refine pq 5 hF rfl fun a hF => lts <| pq 3 hF rfl fun a hF => ?_; refine pe (e_callA hF rfl rfl en_6 Rl (judged_any l s n hs _) ?_); rintro e w1 ⟨T', E', rfl, hK, hb⟩
  replace hW := hW.kept hb; obtain ⟨rfl, rfl⟩ := hJ.uniq hK
  refine ⟨_, rfl, fun a hF => ?_⟩; refine pq 5 hF rfl fun a hF => l_nil ?_; replace hF := hF.ks [0, 1, 2, 6, 7, 8, 9, 10] rfl; refine t_n <| c_sr <| pq 1 hF rfl fun a hF => ?_; refine pe (e_callA hF rfl rfl en_7 Rl (deskRules_any s hs (hL.wd hW)) ?_); rintro e w1 ⟨P, A, c, E3, rfl, hP, hb, hr⟩; replace hW := hW.gotR hb hr; refine ⟨_, rfl, fun a hF => ?_⟩; refine pq 3 hF rfl fun a hF => pe <| e_alloc hF hW ze_27 rfl rfl rfl fun b1 a wc hF hW => pe <| e_storeAll rfl hF hW rfl rfl 0 rfl rfl rfl Kr sz_27 fun wc hW => pq 1 hF rfl fun a hF => lts <| pq 1 hF rfl fun a hF => ?_; refine pe (e_callA hF rfl rfl en_8 Rl (rulesOf_any s hs _) ?_); rintro e w1 ⟨Q, B, d, ok, rfl, hQ, hb, hr⟩
  replace hW := hW.gotR hb hr; obtain ⟨rfl, hE1, hE0⟩ := rules_eq hP hQ
  refine ⟨_, rfl, fun a hF => ?_⟩; refine pq 3 hF rfl fun a hF => ?_; refine Fr.splitB hF (fun h2 hF => ?_) (fun h2 hF => ?_); refine pe <| e_alloc hF hW ze_27 rfl rfl rfl fun b3 a wc hF hW => pe <| e_storeAll rfl hF hW rfl rfl 0 rfl rfl rfl Kr sz_27 fun wc hW => pq 1 hF rfl fun a hF => lts <| pq 1 hF rfl fun a hF => l_nil <| t_n <| c_s <| c_sr <| pq 2 hF rfl fun a hF => l_nil <| t_n <| c_f hF rfl <| wp_skip <| t_n <| c_sr <| pe <| e_callK hF hW rfl rfl en_9 Rl (deskBegun_any (hL.wd hW)) fun a w1 hW hF => pq 3 hF rfl fun a hF => pvg hF hW (y_eqB hF rfl rfl) (ws hF rfl rfl) fun a hF => ?_; refine Fr.splitD hF (fun h4 hF => ?_) (fun h4 hF => ?_); refine pq 5 hF rfl fun a hF => ?_; refine Fr.splitD hF (fun h5 hF => ?_) (fun h5 hF => ?_); refine pq 2 hF rfl fun a hF => pvg hF hW (y_loadAll hF rfl 2 rfl Tryz.underlying27 rfl sz_27) (ws hF rfl rfl) fun a hF => pvg hF hW (y_loadAll hF rfl 0 rfl Tryz.underlying27 rfl sz_27) (ws hF rfl rfl) fun a hF => ?_; refine pe (e_callK hF hW rfl rfl en_10 Rl (samePols (hW.res 3 rfl) (hW.res 1 rfl)) ?_) (ws hF rfl rfl); intro a w1 hW hF; refine pq 5 hF rfl fun a hF => ?_; refine Fr.splitD hF (fun h6 hF => ?_) (fun h6 hF => ?_); refine pq 2 hF rfl fun a hF => l_nil ?_; replace hF := hF.ks [0, 1, 2, 6, 7, 8, 9, 10, 11, 12, 13, 14, 15, 41] rfl; refine t_n <| wp_ret <| ret1 Tryz.results3 hF (rv_t hF rfl) ?_
  exact ⟨rfl, hW.below⟩
  exfalso
  first | exact h6 (hE1 Am) | exact h6 (hE0 Am)
  exfalso
  exact h5 rfl
  exfalso
  exact h4 rfl
  refine pe <| e_alloc hF hW ze_27 rfl rfl rfl fun b7 a wc hF hW => pe <| e_storeAll rfl hF hW rfl rfl 0 rfl rfl rfl Kr sz_27 fun wc hW => pq 1 hF rfl fun a hF => lts <| pq 1 hF rfl fun a hF => l_nil <| t_n <| c_s <| c_sr <| pq 2 hF rfl fun a hF => l_nil <| t_n <| c_t hF rfl <| c_r <| pq 1 hF rfl fun a hF => lts <| pe <| e_callK hF hW rfl rfl en_9 Rl (deskBegun_any (hL.wd hW)) fun a w1 hW hF => pq 3 hF rfl fun a hF => pvg hF hW (y_eqB hF rfl rfl) (ws hF rfl rfl) fun a hF => ?_; refine Fr.splitD hF (fun h8 hF => ?_) (fun h8 hF => ?_); refine pq 5 hF rfl fun a hF => ?_; refine Fr.splitD hF (fun h9 hF => ?_) (fun h9 hF => ?_); refine pq 2 hF rfl fun a hF => pvg hF hW (y_loadAll hF rfl 2 rfl Tryz.underlying27 rfl sz_27) (ws hF rfl rfl) fun a hF => pvg hF hW (y_loadAll hF rfl 0 rfl Tryz.underlying27 rfl sz_27) (ws hF rfl rfl) fun a hF => ?_; refine pe (e_callK hF hW rfl rfl en_10 Rl (samePols (hW.res 3 rfl) (hW.res 1 rfl)) ?_) (ws hF rfl rfl); intro a w1 hW hF; refine pq 5 hF rfl fun a hF => ?_; refine Fr.splitD hF (fun h10 hF => ?_) (fun h10 hF => ?_); refine pq 2 hF rfl fun a hF => l_nil ?_; replace hF := hF.ks [0, 1, 2, 6, 7, 8, 9, 10, 11, 12, 13, 14, 15, 41] rfl; refine t_n <| wp_ret <| ret1 Tryz.results3 hF (rv_t hF rfl) ?_
  exact ⟨rfl, hW.below⟩
  exfalso
  first | exact h10 (hE1 Am) | exact h10 (hE0 Am)
  exfalso
  exact h9 rfl
  exfalso
  exact h8 rfl

set_option maxRecDepth 100000 in
theorem deskJudges_contract (H : Type) (enc : TypeId × Value → H) (W : World) (base : Nat) (args : Array Value) (ds gs : List (DataW H)) (before : List MemPlace)
    (hval : ∀ (j : Nat) t v, Tryz.f3.params[j]? = some t → args[j]? = some v → Value.okWide Tryz.prog W .any base t v)
    (hW : DataW.Whole enc Tryz.prog Tryz.f3.params.toList Rows.deskJudgesSpec.vars false W args.toList ds gs before) (hL0 : laidMetH Tryz.prog laidL W) (hbk : Rows.uptoBulkAll ds ≤ 1048576) :
    Calls Tryz.prog 3 args W fun e W' => ∃ v, e = .returned v ∧ Rows.deskJudgesSpec.post enc Tryz.prog Tryz.f3 false true false false W args v W' := by
  have hL := lay_of_laid hL0
  have hW' := hW
  obtain ⟨p, q, hA0, hV, rfl, hfz, hnd⟩ := hW
  have hA : DataW.TrodAll enc Tryz.prog W 0 (fun _ => true) true Tryz.f3.params.toList args.toList ds p := hA0
  rw [Tryz.params3] at hA hval
  obtain ⟨v0, v1, v2, d0, d1, d2, p0, p1, p2, rfl, rfl, rfl, h0, h1, h2⟩ := trodAll_three hA
  obtain ⟨l, rfl, rfl⟩ := str_open (hval 0 9 v0 rfl rfl) h0
  obtain ⟨s, rfl, rfl⟩ := str_open (hval 1 9 v1 rfl rfl) h1
  obtain ⟨n, rfl, rfl, rfl, wk2⟩ := open_int Tryz.underlying3 (hval 2 3 v2 rfl rfl) h2
  refine (deskJudges_run l s n (bulk_2 hbk) hL).mono fun e W' ⟨he, hb⟩ => ?_
  subst he
  exact ⟨_, rfl, law_post Tryz.laidOut hW' hb rfl Kr Tryz.underlying4 Kr rfl⟩

theorem deskJudges_reads (os : Os) {H : Type} (enc : TypeId × Value → H) : ∃ places, DataW.whole enc Tryz.prog ((laidWorld os).forCall (fun _ _ => 0) ⟨#[], #[.string ⟨#[]⟩, .string ⟨#[]⟩, .int .i64 0], []⟩).memory Tryz.f3.params.toList Rows.deskJudgesSpec.vars false #[.string ⟨#[]⟩, .string ⟨#[]⟩, .int .i64 0].toList 8 = some ([.lit (.string []), .lit (.string []), .lit (.int .i64 0)], [], places) :=
  ⟨[], by kernel_rfl⟩
set_option maxRecDepth 100000 in
theorem deskJudges_lifted (os : Os) (started : os.Started) (H : Type) (enc : TypeId × Value → H) (F0 : Stop.Interp) :
    ReturnsInHanded {} Tryz.checked os 3 .any ((Rows.OpenSpec.upto Rows.deskJudgesSpec).preRow enc Tryz.prog Tryz.f3 Rows.deskJudgesUptoRow.domain false Rows.deskJudgesUptoRow.laid) (((Rows.OpenSpec.upto Rows.deskJudgesSpec).at F0).post enc Tryz.prog Tryz.f3 false true false false) := by
  obtain ⟨places, hx⟩ := deskJudges_reads os enc
  refine returnsInHanded_of_row (C := Tryz.checked) (s := (Rows.OpenSpec.upto Rows.deskJudgesSpec)) Tryz.own started Kr Tryz.func3
    (witness_row_atRef (enc := enc) (C := Tryz.checked) false (laidWorld os) #[.string ⟨#[]⟩, .string ⟨#[]⟩, .int .i64 0] rfl Kr Kr Kr
      (OpenSpec.preRow_of_cond 8 hx Kr (fun k hk => by cases hk; kernel_rfl) Kr (laid_met os _))) ?_
  intro W base args ds gs before hval hW _ hcond _ hL _ _
  have hgs : gs = [] := by
    obtain ⟨p, q, _, hV, _⟩ := hW
    cases gs with
    | nil => rfl
    | cons _ _ => exact hV.elim
  subst hgs
  try rw [List.append_nil] at hcond
  exact deskJudges_contract H enc W base args ds [] before hval hW hL (of_decide_eq_true (hcond _ rfl))

theorem deskJudges_said : Rows.DeskJudgesUptoSaid :=
  OpenClaim.holds_of_cond 3 Tryz.f3 rfl rfl rfl rfl rfl rfl rfl ⟨rfl, rfl, rfl, rfl, rfl⟩ rfl rfl rfl rfl rfl Kr Tryz.func3 Kr
    (of_decide_eq_true Kr) (by unfold Func.isWrapper; first | (rw [if_pos (by decide +kernel)]; kernel_rfl) | (rw [if_neg (by decide +kernel)]; exact ⟨rfl, rfl⟩))
    (fun os started H enc _ F0 => by rw [OpenClaim.pre_eq_preRow]; exact deskJudges_lifted os started H enc F0)

theorem deskJudges_plain (f : FuncId) (fn : Func) (hf : Tryz.pinned.checked.prog.funcNamed "lychgate/lychgatelaw.DeskJudges" = some f) (hfn : Tryz.pinned.checked.prog.funcs[f]? = some fn) :
    true = Tryz.pinned.checked.prog.looks [] ∧ ∀ (j : Nat) t, fn.params[j]? = some t → Tryz.pinned.checked.prog.wantsStandIn t = false := by
  obtain rfl : f = 3 := Option.some.inj ((show Tryz.prog.funcNamed "lychgate/lychgatelaw.DeskJudges" = some 3 by kernel_rfl).symm.trans hf) |>.symm
  obtain rfl : fn = Tryz.f3 := (Option.some.inj (Tryz.func3.symm.trans hfn)).symm
  refine ⟨by kernel_rfl, fun j t ht => ?_⟩
  rw [Tryz.params3] at ht
  have ht2 : t = 9 ∨ t = 9 ∨ t = 3 := by simpa using Array.mem_of_getElem? ht
  rcases ht2 with rfl | rfl | rfl <;> first | exact (show Tryz.prog.wantsStandIn 9 = false by kernel_rfl) | exact (show Tryz.prog.wantsStandIn 9 = false by kernel_rfl) | exact (show Tryz.prog.wantsStandIn 3 = false by kernel_rfl)

/-- THE CARD -/
theorem deskJudges_holds : Rows.DeskJudgesUptoCardSaid :=
  Claim7.holds_tied_plain_at .later [] _ _ _ _ deskJudges_said (fun _ h => by cases h) Kr (fun _ h => by cases h) deskJudgesUpto_row_tie rfl ⟨rfl, rfl⟩ Kr rfl deskJudges_plain Kr
end Go.Proofs.YtndcjmopebcdgaaGreatDoor
