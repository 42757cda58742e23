/- The law CertVerifies answers true for every input. -/
import Derived.Test.YtlkkdpoioedacaaCertH
namespace Go.Proofs.Ytlkkdpoioedacaa
set_option linter.unusedVariables false
set_option linter.unusedSimpArgs false
open Go.ChangeShapes Go.WideShapes Go.ChangeAt Go.RowKit

set_option maxRecDepth 100000

set_option maxHeartbeats 4000000 in
theorem certVerifies_run (x : SysD) (P : List Edg) (A : Option Addr) (c : Nat) (qs : List IR) (B : Option Addr) (d : Nat) (w : World) (hx : x.At w) (hm : May_ w A c P) (hs : Sets_ w B d qs) :
    Calls Try.prog 7 #[x.val, .agg #[.slice A P.length c], .agg #[.slice B qs.length d]] w fun e w' => e = .returned (.bool true) ∧ Below w.heap.size w w' := by
  have hve := fun w1 (hb : Below w.heap.size w w1) => certVerify_any (hx.below hb) (Flat.below hm hb) hm.len (hs.below hb)
  have hcp := fun w1 (hb : Below w.heap.size w w1) => checkPolicy_any (hx.below hb) (Flat.below hm hb) hm.len
  by_cases h0 : certErr x.sys P = 0
  · obtain ⟨hk, -⟩ := certErr_zero h0
    have hvr := fun w1 (hb : Below w.heap.size w w1) => verifyOf_any (hx.below hb) hk (Flat.below hm hb) hm.len (hs.below hb)
    rw [h0] at hve hcp
    rw [refVer_eq] at hvr
    generalize verB x.parts.length P (edgesTo x.chans x.parts.length x.parts.length) (qs.map IR.l) = V at *
    rw [show (decide ((0 : Int) = 0)) = true from rfl, Bool.true_and] at hve
    rw [x.val_eq] at *
    refine enter Try.func7 rfl Try.ntmps7 rfl fun a hF => ?_
    have hW := Wd.start w NoB
    refine c_sr ?_; refine pe (e_box hF hW rfl rfl rfl rfl ?_); intro b1 a wc hF hW; refine pe (e_box hF hW rfl rfl rfl rfl ?_); intro b2 a wc hF hW; refine pe (e_box hF hW rfl rfl rfl rfl ?_); intro b3 a wc hF hW; refine pv hF hW (y_assign hF rfl) fun a hF => l_nil <| t_n <| c_sr <| pv hF hW (y_loadAll hF rfl 2 rfl Try.underlying26 rfl sz_26) fun a hF => pv hF hW (y_loadAll hF rfl 1 rfl Try.underlying52 rfl sz_52) fun a hF => pv hF hW (y_loadAll hF rfl 0 rfl Try.underlying55 rfl sz_55) fun a hF => ?_; refine pe (e_call hF rfl rfl en_30 (by rfl) rfl rfl (hve _ hW.below) ?_); rintro e w1 ⟨rfl, hb⟩; replace hW := hW.kept hb; clear hb; refine ⟨_, rfl, fun a hF => ?_⟩; refine pv hF hW (y_move hF rfl) fun a hF => pv hF hW (y_extract hF rfl rfl) fun a hF => pv hF hW (y_extract hF rfl rfl) fun a hF => pv hF hW (y_assign hF rfl) fun a hF => pv hF hW (y_assign hF rfl) fun a hF => l_nil ?_; replace hF := hF.ks [0, 1, 2, 3, 4, 5, 6, 7, 8] rfl; refine t_n <| c_sr <| pv hF hW (y_loadAll hF rfl 2 rfl Try.underlying26 rfl sz_26) fun a hF => pv hF hW (y_loadAll hF rfl 1 rfl Try.underlying52 rfl sz_52) fun a hF => ?_; refine pe (e_call hF rfl rfl en_25 (by rfl) rfl rfl (hcp _ hW.below) ?_); rintro e w1 ⟨rfl, hb⟩; replace hW := hW.kept hb; clear hb; refine ⟨_, rfl, fun a hF => ?_⟩; refine pv hF hW (y_assign hF rfl) fun a hF => l_nil ?_; replace hF := hF.ks [0, 1, 2, 3, 4, 5, 6, 7, 8, 9] rfl; refine t_n <| c_sr ?_; refine pe (e_call hF rfl rfl en_27 (by rfl) rfl rfl (certBegun_any _) ?_); rintro e w1 ⟨rfl, hb⟩; replace hW := hW.kept hb; clear hb; refine ⟨_, rfl, fun a hF => ?_⟩; refine pv hF hW (y_move hF rfl) fun a hF => pvg hF hW (y_move hF rfl) (ws hF rfl rfl) fun a hF => pvg hF hW (y_move hF rfl) (ws hF rfl rfl) fun a hF => pvg hF hW (y_eql hF rfl rfl) (ws hF rfl rfl) fun a hF => ?_; replace hF := hF.tt; refine pv hF hW (y_pick hF rfl rfl) fun a hF => ?_; replace hF := hF.tt; refine pv hF hW (y_move hF rfl) fun a hF => ?_; replace hF := hF.tt; refine pvg hF hW (y_move hF rfl) (ws hF rfl rfl) fun a hF => pvg hF hW (y_move hF rfl) (ws hF rfl rfl) fun a hF => pvg hF hW (y_eql hF rfl rfl) (ws hF rfl rfl) fun a hF => ?_; replace hF := hF.tt; refine pvg hF hW (y_move hF rfl) (ws hF rfl rfl) fun a hF => ?_; replace hF := hF.tt; refine pvg hF hW (y_loadAll hF rfl 2 rfl Try.underlying26 rfl sz_26) (ws hF rfl rfl) fun a hF => pvg hF hW (y_loadAll hF rfl 1 rfl Try.underlying52 rfl sz_52) (ws hF rfl rfl) fun a hF => pvg hF hW (y_loadAll hF rfl 0 rfl Try.underlying55 rfl sz_55) (ws hF rfl rfl) fun a hF => ?_; refine pe (e_call hF rfl rfl en_31 (by rfl) rfl rfl (hvr _ hW.below) ?_) (ws hF rfl rfl); rintro e w1 ⟨rfl, hb⟩; replace hW := hW.kept hb; clear hb; refine ⟨_, rfl, fun a hF => ?_⟩
    refine pvg hF hW (y_pick hF rfl rfl) (ws hF rfl rfl) fun a hF => pvg hF hW (y_eqb hF rfl rfl Try.underlying4) (ws hF rfl rfl) fun a hF => ?_; replace hF := Fr.cast (v' := .bool true) (by simp) hF; refine pv hF hW (y_pick hF rfl rfl) fun a hF => ?_; replace hF := hF.drop 6; refine pv hF hW (y_assign hF rfl) fun a hF => l_nil ?_; replace hF := hF.ks [0, 1, 2, 3, 4, 5, 6, 7, 8, 9] rfl; refine t_n <| wp_ret <| ret1 Try.results7 hF (rv_t hF rfl) ?_
    exact ⟨rfl, hW.below⟩
  · rw [decide_eq_false h0] at hve
    generalize certErr x.sys P = E at *
    rw [x.val_eq] at *
    refine enter Try.func7 rfl Try.ntmps7 rfl fun a hF => ?_
    have hW := Wd.start w NoB
    refine c_sr ?_; refine pe (e_box hF hW rfl rfl rfl rfl ?_); intro b1 a wc hF hW; refine pe (e_box hF hW rfl rfl rfl rfl ?_); intro b2 a wc hF hW; refine pe (e_box hF hW rfl rfl rfl rfl ?_); intro b3 a wc hF hW; refine pv hF hW (y_assign hF rfl) fun a hF => l_nil <| t_n <| c_sr <| pv hF hW (y_loadAll hF rfl 2 rfl Try.underlying26 rfl sz_26) fun a hF => pv hF hW (y_loadAll hF rfl 1 rfl Try.underlying52 rfl sz_52) fun a hF => pv hF hW (y_loadAll hF rfl 0 rfl Try.underlying55 rfl sz_55) fun a hF => ?_; refine pe (e_call hF rfl rfl en_30 (by rfl) rfl rfl (hve _ hW.below) ?_); rintro e w1 ⟨rfl, hb⟩; replace hW := hW.kept hb; clear hb; refine ⟨_, rfl, fun a hF => ?_⟩; refine pv hF hW (y_move hF rfl) fun a hF => pv hF hW (y_extract hF rfl rfl) fun a hF => pv hF hW (y_extract hF rfl rfl) fun a hF => pv hF hW (y_assign hF rfl) fun a hF => pv hF hW (y_assign hF rfl) fun a hF => l_nil ?_; replace hF := hF.ks [0, 1, 2, 3, 4, 5, 6, 7, 8] rfl; refine t_n <| c_sr <| pv hF hW (y_loadAll hF rfl 2 rfl Try.underlying26 rfl sz_26) fun a hF => pv hF hW (y_loadAll hF rfl 1 rfl Try.underlying52 rfl sz_52) fun a hF => ?_; refine pe (e_call hF rfl rfl en_25 (by rfl) rfl rfl (hcp _ hW.below) ?_); rintro e w1 ⟨rfl, hb⟩; replace hW := hW.kept hb; clear hb; refine ⟨_, rfl, fun a hF => ?_⟩; refine pv hF hW (y_assign hF rfl) fun a hF => l_nil ?_; replace hF := hF.ks [0, 1, 2, 3, 4, 5, 6, 7, 8, 9] rfl; refine t_n <| c_sr ?_; refine pe (e_call hF rfl rfl en_27 (by rfl) rfl rfl (certBegun_any _) ?_); rintro e w1 ⟨rfl, hb⟩; replace hW := hW.kept hb; clear hb; refine ⟨_, rfl, fun a hF => ?_⟩; refine pv hF hW (y_move hF rfl) fun a hF => pvg hF hW (y_move hF rfl) (ws hF rfl rfl) fun a hF => pvg hF hW (y_move hF rfl) (ws hF rfl rfl) fun a hF => pvg hF hW (y_eql hF rfl rfl) (ws hF rfl rfl) fun a hF => ?_; refine Fr.splitD hF ?_ ?_
    · intro h4 hF; refine pv hF hW (y_pick hF rfl rfl) fun a hF => pv hF hW (y_move hF rfl) fun a hF => pvg hF hW (y_move hF rfl) (ws hF rfl rfl) fun a hF => pvg hF hW (y_move hF rfl) (ws hF rfl rfl) fun a hF => pvg hF hW (y_eql hF rfl rfl) (ws hF rfl rfl) fun a hF => ?_; refine Fr.splitD hF ?_ ?_
      · intro h5 hF; exfalso
        exact h0 h5
      · intro h5 hF; refine pvg hF hW (y_move hF rfl) (ws hF rfl rfl) fun a hF => pk hF (wn hF rfl rfl rfl) fun a hF => pk hF (wn hF rfl rfl rfl) fun a hF => pk hF (wn hF rfl rfl rfl) fun a hF => pk hF (wn hF rfl rfl rfl) fun a hF => pvg hF hW (y_pick hF rfl rfl) (ws hF rfl rfl) fun a hF => pvg hF hW (y_eqb hF rfl rfl Try.underlying4) (ws hF rfl rfl) fun a hF => ?_; replace hF := hF.tt; refine pv hF hW (y_pick hF rfl rfl) fun a hF => ?_; replace hF := hF.tt; replace hF := hF.drop 6; refine pv hF hW (y_assign hF rfl) fun a hF => ?_; replace hF := hF.tt; refine l_nil ?_; replace hF := hF.ks [0, 1, 2, 3, 4, 5, 6, 7, 8, 9] rfl; refine t_n <| wp_ret <| ret1 Try.results7 hF (rv_t hF rfl) ?_
        exact ⟨rfl, hW.below⟩
    · intro h4 hF; exfalso
      exact h4 rfl

set_option maxRecDepth 100000 in
theorem certVerifies_contract (H : Type) (enc : TypeId × Value → H) (W : World) (base : Nat) (args : Array Value) (ds gs : List (DataW H)) (before : List MemPlace)
    (hval : ∀ (j : Nat) t v, Try.f7.params[j]? = some t → args[j]? = some v → Value.okWide Try.prog W .any base t v)
    (hW : DataW.Whole enc Try.prog Try.f7.params.toList Rows.certVerifiesSpec.vars false W args.toList ds gs before) :
    Calls Try.prog 7 args W fun e W' => ∃ v, e = .returned v ∧ Rows.certVerifiesSpec.post enc Try.prog Try.f7 false true false false W args v W' := by
  have hW' := hW
  obtain ⟨p, q, hA0, hV, rfl, hfz, hnd⟩ := hW
  have hA : DataW.TrodAll enc Try.prog W 0 (fun _ => true) true Try.f7.params.toList args.toList ds p := hA0
  rw [Try.params7] at hA hval
  obtain ⟨v0, v1, v2, d0, d1, d2, p0, p1, p2, rfl, rfl, rfl, h0, h1, h2⟩ := trodAll_three hA
  obtain ⟨x, rfl, hx⟩ := sys_open (hval 0 26 v0 rfl rfl) h0
  obtain ⟨P, A, c, rfl, hm⟩ := pol_open (hval 1 52 v1 rfl rfl) h1
  obtain ⟨qs, B, d, rfl, hs⟩ := crt_open (hval 2 55 v2 rfl rfl) h2
  refine (certVerifies_run x P A c qs B d W hx hm hs).mono fun e W' ⟨he, hb⟩ => ?_
  subst he
  exact ⟨_, rfl, law_post Try.laidOut hW' hb rfl (by kernel_rfl) Try.underlying4 (by kernel_rfl) rfl⟩

set_option maxRecDepth 100000 in
theorem certVerifies_lifted (os : Os) (started : os.Started) (H : Type) (enc : TypeId × Value → H) :
    ReturnsInHanded {} Try.checked os 7 .any (Rows.certVerifiesSpec.pre6 enc Try.prog Try.f7 Rows.certVerifiesRow.domain false) (Rows.certVerifiesSpec.post enc Try.prog Try.f7 false true false false) := by
  refine returnsInHanded_of_change (C := Try.checked) Try.own started (by kernel_rfl) Try.func7
    (ChangeSpec.witness6 (enc := enc) (C := Try.checked) false ⟨#[], #[.agg #[.slice none 0 0, .slice none 0 0, .slice none 0 0], .agg #[.slice none 0 0], .agg #[.slice none 0 0]], []⟩ 8 (by kernel_rfl) (by kernel_rfl) (by kernel_rfl) (by kernel_rfl)) ?_
  intro W base args ds gs before hval hW _ _
  exact certVerifies_contract H enc W base args ds gs before hval hW

theorem certVerifies_holds : Rows.CertVerifiesSaid :=
  OpenClaim.holds_of_wide 7 Try.f7 rfl rfl rfl rfl rfl rfl rfl ⟨rfl, rfl, rfl, rfl, rfl⟩ rfl rfl rfl rfl rfl (by kernel_rfl) Try.func7 (by kernel_rfl)
    (of_decide_eq_true (by kernel_rfl)) (by unfold Func.isWrapper; first | (rw [if_pos (by decide +kernel)]; kernel_rfl) | (rw [if_neg (by decide +kernel)]; exact ⟨rfl, rfl⟩))
    (fun os started H enc _ => certVerifies_lifted os started H enc)
end Go.Proofs.Ytlkkdpoioedacaa
