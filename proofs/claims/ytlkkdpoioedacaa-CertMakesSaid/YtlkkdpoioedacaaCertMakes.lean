/- The law CertMakes answers true for every input. -/
import Derived.Test.YtlkkdpoioedacaaCertH
namespace Go.Proofs.Ytlkkdpoioedacaa
set_option linter.unusedVariables false
set_option linter.unusedSimpArgs false
open Go.ChangeShapes Go.WideShapes Go.ChangeAt Go.RowKit

set_option maxRecDepth 100000

theorem same_certs {qs rs : List IR} {A B : Option Addr} {c d : Nat} {w : World} (h : Sets_ w A c qs) (k : Sets_ w B d rs) (he : qs.map IR.l = rs.map IR.l) :
    Calls Try.prog 29 #[.agg #[.slice A qs.length c], .agg #[.slice B rs.length d]] w fun e w' => e = .returned (.bool true) ∧ Below w.heap.size w w' := by
  have := sameCerts_any h k
  rwa [decide_eq_true he] at this
set_option maxHeartbeats 4000000 in
theorem certMakes_run (x : SysD) (P : List Edg) (A : Option Addr) (c : Nat) (w : World) (hx : x.At w) (hm : May_ w A c P) :
    Calls Try.prog 6 #[x.val, .agg #[.slice A P.length c]] w fun e w' => e = .returned (.bool true) ∧ Below w.heap.size w w' := by
  have hce := fun w1 (hb : Below w.heap.size w w1) => certify_any (hx.below hb) (Flat.below hm hb) hm.len
  have hck := fun w1 (hb : Below w.heap.size w w1) => certChk_any (hx.below hb) (Flat.below hm hb) hm.len
  have hcp := fun w1 (hb : Below w.heap.size w w1) => checkPolicy_any (hx.below hb) (Flat.below hm hb) hm.len
  unfold CertBack at hce
  by_cases h0 : certErr x.sys P = 0
  · obtain ⟨hk, -⟩ := certErr_zero h0
    have hcr := fun w1 (hb : Below w.heap.size w w1) => certifyOf_any (hx.below hb) hk (Flat.below hm hb) hm.len
    rw [h0] at hce hcp hck
    rw [x.val_eq] at *
    refine enter Try.func6 rfl Try.ntmps6 rfl fun a hF => ?_
    have hW := Wd.start w NoB
    refine c_sr ?_; refine pe (e_box hF hW rfl rfl rfl rfl ?_); intro b1 a wc hF hW; refine pe (e_box hF hW rfl rfl rfl rfl ?_); intro b2 a wc hF hW; refine pv hF hW (y_assign hF rfl) fun a hF => l_nil <| t_n <| c_sr <| pv hF hW (y_loadAll hF rfl 1 rfl Try.underlying26 rfl sz_26) fun a hF => pv hF hW (y_loadAll hF rfl 0 rfl Try.underlying52 rfl sz_52) fun a hF => ?_; refine pe (e_call hF rfl rfl en_24 (by rfl) rfl rfl (hce _ hW.below) ?_); rintro e w1 ⟨qs, B, d, L, A1, c1, is, rfl, hI, -, hb, hr⟩; replace hW := hW.gotR hb hr; refine ⟨_, rfl, fun a hF => ?_⟩; refine pv hF hW (y_move hF rfl) fun a hF => pv hF hW (y_extract hF rfl rfl) fun a hF => pv hF hW (y_extract hF rfl rfl) fun a hF => pv hF hW (y_extract hF rfl rfl) fun a hF => pv hF hW (y_extract hF rfl rfl) fun a hF => ?_; refine pe (e_alloc hF hW ze_55 rfl rfl rfl ?_); intro b3 a wc hF hW; refine pe (e_storeAll rfl hF hW rfl rfl 0 rfl rfl rfl (by kernel_rfl) sz_55 ?_); intro wc hW; refine pv hF hW (y_assign hF rfl) fun a hF => pv hF hW (y_assign hF rfl) fun a hF => pv hF hW (y_assign hF rfl) fun a hF => l_nil ?_; replace hF := hF.ks [0, 1, 2, 3, 4, 5, 6, 7, 8] rfl; refine t_n <| c_sr <| pv hF hW (y_loadAll hF rfl 3 rfl Try.underlying26 rfl sz_26) fun a hF => pv hF hW (y_loadAll hF rfl 2 rfl Try.underlying52 rfl sz_52) fun a hF => ?_; refine pe (e_call hF rfl rfl en_25 (by rfl) rfl rfl (hcp _ hW.below) ?_); rintro e w1 ⟨rfl, hb⟩; replace hW := hW.kept hb; clear hb; refine ⟨_, rfl, fun a hF => ?_⟩; refine pv hF hW (y_assign hF rfl) fun a hF => l_nil ?_; replace hF := hF.ks [0, 1, 2, 3, 4, 5, 6, 7, 8, 9] rfl; refine t_n <| c_sr ?_; refine pe (e_alloc hF hW ze_55 rfl rfl rfl ?_); intro b4 a wc hF hW; refine l_nil <| t_n <| c_sr <| pv hF hW (y_assign hF rfl) fun a hF => l_nil <| t_n <| c_sr <| pv hF hW (y_assign hF rfl) fun a hF => l_nil <| t_n <| c_s <| c_sr <| pv hF hW (y_move hF rfl) fun a hF => pv hF hW (y_eql hF rfl rfl) fun a hF => ?_; replace hF := hF.tt; refine l_nil ?_; replace hF := hF.ks [0, 1, 2, 3, 4, 5, 6, 7, 8, 9, 10, 11, 12, 25] rfl; refine t_n <| c_t hF rfl <| c_r <| pv hF hW (y_loadAll hF rfl 4 rfl Try.underlying26 rfl sz_26) fun a hF => pv hF hW (y_loadAll hF rfl 3 rfl Try.underlying52 rfl sz_52) fun a hF => ?_; refine pe (e_call hF rfl rfl en_26 (by rfl) rfl rfl (hcr _ hW.below) ?_); rintro e w1 ⟨rs, B2, d2, L2, A2, c2, is2, rfl, hI2, hb, hr⟩; replace hW := hW.gotR hb hr; refine ⟨_, rfl, fun a hF => ?_⟩
    obtain ⟨ei, eL, eS⟩ := (hI rfl).uniq hI2
    refine pv hF hW (y_move hF rfl) fun a hF => pv hF hW (y_extract hF rfl rfl) fun a hF => pv hF hW (y_extract hF rfl rfl) fun a hF => pv hF hW (y_extract hF rfl rfl) fun a hF => ?_; refine pe (e_storeAll rfl hF hW rfl rfl 1 rfl rfl rfl (by kernel_rfl) sz_55 ?_); intro wc hW; replace hF := hF.drop 11; refine pv hF hW (y_assign hF rfl) fun a hF => ?_; replace hF := hF.drop 12; refine pv hF hW (y_assign hF rfl) fun a hF => l_nil ?_; replace hF := hF.ks [0, 1, 2, 3, 4, 5, 6, 7, 8, 9, 10, 11, 12, 25] rfl; refine t_n <| c_sr ?_; refine pe (e_call hF rfl rfl en_27 (by rfl) rfl rfl (certBegun_any _) ?_); rintro e w1 ⟨rfl, hb⟩; replace hW := hW.kept hb; clear hb; refine ⟨_, rfl, fun a hF => ?_⟩; refine pv hF hW (y_move hF rfl) fun a hF => pvg hF hW (y_loadAll hF rfl 5 rfl Try.underlying26 rfl sz_26) (ws hF rfl rfl) fun a hF => pvg hF hW (y_loadAll hF rfl 4 rfl Try.underlying52 rfl sz_52) (ws hF rfl rfl) fun a hF => ?_; refine pe (e_call hF rfl rfl en_28 (by rfl) rfl rfl (hck _ hW.below) ?_) (ws hF rfl rfl); rintro e w1 ⟨rfl, hb⟩; replace hW := hW.kept hb; clear hb; refine ⟨_, rfl, fun a hF => ?_⟩; refine pvg hF hW (y_move hF rfl) (ws hF rfl rfl) fun a hF => pvg hF hW (y_eql hF rfl rfl) (ws hF rfl rfl) fun a hF => ?_; replace hF := hF.tt; refine pv hF hW (y_pick hF rfl rfl) fun a hF => ?_; replace hF := hF.tt; refine pv hF hW (y_move hF rfl) fun a hF => ?_; replace hF := hF.tt; refine pvg hF hW (y_move hF rfl) (ws hF rfl rfl) fun a hF => pvg hF hW (y_move hF rfl) (ws hF rfl rfl) fun a hF => pvg hF hW (y_eql hF rfl rfl) (ws hF rfl rfl) fun a hF => ?_; replace hF := hF.tt; refine pv hF hW (y_pick hF rfl rfl) fun a hF => ?_; replace hF := hF.tt; refine pv hF hW (y_move hF rfl) fun a hF => ?_; replace hF := hF.tt; refine pvg hF hW (y_move hF rfl) (ws hF rfl rfl) fun a hF => pvg hF hW (y_move hF rfl) (ws hF rfl rfl) fun a hF => pvg hF hW (y_eqb hF rfl rfl Try.underlying4) (ws hF rfl rfl) fun a hF => ?_; replace hF := Fr.cast (v' := .bool true) (by rw [ei]; simp) hF; refine pv hF hW (y_pick hF rfl rfl) fun a hF => pv hF hW (y_move hF rfl) fun a hF => pvg hF hW (y_move hF rfl) (ws hF rfl rfl) fun a hF => pvg hF hW (y_move hF rfl) (ws hF rfl rfl) fun a hF => ?_; refine pe (e_call hF rfl rfl en_22 (by rfl) rfl rfl (same_ints (hW.res 3 rfl).2 (hW.res 0 rfl).2 eL) ?_) (ws hF rfl rfl); rintro e w1 ⟨rfl, hb⟩; replace hW := hW.kept hb; clear hb; refine ⟨_, rfl, fun a hF => ?_⟩; refine pv hF hW (y_pick hF rfl rfl) fun a hF => pv hF hW (y_move hF rfl) fun a hF => pvg hF hW (y_loadAll hF rfl 2 rfl Try.underlying55 rfl sz_55) (ws hF rfl rfl) fun a hF => pvg hF hW (y_loadAll hF rfl 1 rfl Try.underlying55 rfl sz_55) (ws hF rfl rfl) fun a hF => ?_
    refine pe (e_call hF rfl rfl en_29 (by rfl) rfl rfl (same_certs (hW.res 3 rfl).1 (hW.res 0 rfl).1 eS) ?_) (ws hF rfl rfl); rintro e w1 ⟨rfl, hb⟩; replace hW := hW.kept hb; clear hb; refine ⟨_, rfl, fun a hF => ?_⟩; refine pv hF hW (y_pick hF rfl rfl) fun a hF => ?_; replace hF := hF.drop 4; refine pv hF hW (y_assign hF rfl) fun a hF => l_nil ?_; replace hF := hF.ks [0, 1, 2, 3, 4, 5, 6, 7, 8, 9, 10, 11, 12, 25] rfl; refine t_n <| wp_ret <| ret1 Try.results6 hF (rv_t hF rfl) ?_
    exact ⟨rfl, hW.below⟩
  · generalize certErr x.sys P = E at *
    rw [x.val_eq] at *
    refine enter Try.func6 rfl Try.ntmps6 rfl fun a hF => ?_
    have hW := Wd.start w NoB
    refine c_sr ?_; refine pe (e_box hF hW rfl rfl rfl rfl ?_); intro b1 a wc hF hW; refine pe (e_box hF hW rfl rfl rfl rfl ?_); intro b2 a wc hF hW; refine pv hF hW (y_assign hF rfl) fun a hF => l_nil <| t_n <| c_sr <| pv hF hW (y_loadAll hF rfl 1 rfl Try.underlying26 rfl sz_26) fun a hF => pv hF hW (y_loadAll hF rfl 0 rfl Try.underlying52 rfl sz_52) fun a hF => ?_; refine pe (e_call hF rfl rfl en_24 (by rfl) rfl rfl (hce _ hW.below) ?_); rintro e w1 ⟨qs, B, d, L, A1, c1, is, rfl, -, hI, hb, hr⟩; replace hW := hW.gotR hb hr; refine ⟨_, rfl, fun a hF => ?_⟩
    obtain ⟨ei, eL, eS⟩ := hI h0; replace hF := Fr.cast (v' := .tuple #[.agg #[.slice B qs.length d], .slice A1 L.length c1, .bool false, .int .i64 E]) (by rw [ei]) hF
    refine pv hF hW (y_move hF rfl) fun a hF => pv hF hW (y_extract hF rfl rfl) fun a hF => pv hF hW (y_extract hF rfl rfl) fun a hF => pv hF hW (y_extract hF rfl rfl) fun a hF => pv hF hW (y_extract hF rfl rfl) fun a hF => ?_; refine pe (e_alloc hF hW ze_55 rfl rfl rfl ?_); intro b3 a wc hF hW; refine pe (e_storeAll rfl hF hW rfl rfl 0 rfl rfl rfl (by kernel_rfl) sz_55 ?_); intro wc hW; refine pv hF hW (y_assign hF rfl) fun a hF => pv hF hW (y_assign hF rfl) fun a hF => pv hF hW (y_assign hF rfl) fun a hF => l_nil ?_; replace hF := hF.ks [0, 1, 2, 3, 4, 5, 6, 7, 8] rfl; refine t_n <| c_sr <| pv hF hW (y_loadAll hF rfl 3 rfl Try.underlying26 rfl sz_26) fun a hF => pv hF hW (y_loadAll hF rfl 2 rfl Try.underlying52 rfl sz_52) fun a hF => ?_; refine pe (e_call hF rfl rfl en_25 (by rfl) rfl rfl (hcp _ hW.below) ?_); rintro e w1 ⟨rfl, hb⟩; replace hW := hW.kept hb; clear hb; refine ⟨_, rfl, fun a hF => ?_⟩; refine pv hF hW (y_assign hF rfl) fun a hF => l_nil ?_; replace hF := hF.ks [0, 1, 2, 3, 4, 5, 6, 7, 8, 9] rfl; refine t_n <| c_sr ?_; refine pe (e_alloc hF hW ze_55 rfl rfl rfl ?_); intro b4 a wc hF hW; refine l_nil <| t_n <| c_sr <| pv hF hW (y_assign hF rfl) fun a hF => l_nil <| t_n <| c_sr <| pv hF hW (y_assign hF rfl) fun a hF => l_nil <| t_n <| c_s <| c_sr <| pv hF hW (y_move hF rfl) fun a hF => pv hF hW (y_eql hF rfl rfl) fun a hF => ?_; refine Fr.splitD hF ?_ ?_
    · intro h5 hF; exfalso
      exact h0 h5
    · intro h5 hF; refine l_nil ?_; replace hF := hF.ks [0, 1, 2, 3, 4, 5, 6, 7, 8, 9, 10, 11, 12, 25] rfl; refine t_n <| c_f hF rfl <| wp_skip <| t_n <| c_sr ?_; refine pe (e_call hF rfl rfl en_27 (by rfl) rfl rfl (certBegun_any _) ?_); rintro e w1 ⟨rfl, hb⟩; replace hW := hW.kept hb; clear hb; refine ⟨_, rfl, fun a hF => ?_⟩; refine pv hF hW (y_move hF rfl) fun a hF => pvg hF hW (y_loadAll hF rfl 4 rfl Try.underlying26 rfl sz_26) (ws hF rfl rfl) fun a hF => pvg hF hW (y_loadAll hF rfl 3 rfl Try.underlying52 rfl sz_52) (ws hF rfl rfl) fun a hF => ?_; refine pe (e_call hF rfl rfl en_28 (by rfl) rfl rfl (hck _ hW.below) ?_) (ws hF rfl rfl); rintro e w1 ⟨rfl, hb⟩; replace hW := hW.kept hb; clear hb; refine ⟨_, rfl, fun a hF => ?_⟩; refine pvg hF hW (y_move hF rfl) (ws hF rfl rfl) fun a hF => pvg hF hW (y_eql hF rfl rfl) (ws hF rfl rfl) fun a hF => ?_; refine Fr.splitD hF ?_ ?_
      · intro h6 hF; refine pv hF hW (y_pick hF rfl rfl) fun a hF => pv hF hW (y_move hF rfl) fun a hF => pvg hF hW (y_move hF rfl) (ws hF rfl rfl) fun a hF => pvg hF hW (y_move hF rfl) (ws hF rfl rfl) fun a hF => pvg hF hW (y_eql hF rfl rfl) (ws hF rfl rfl) fun a hF => ?_; refine Fr.splitD hF ?_ ?_
        · intro h7 hF; refine pv hF hW (y_pick hF rfl rfl) fun a hF => pv hF hW (y_move hF rfl) fun a hF => pvg hF hW (y_move hF rfl) (ws hF rfl rfl) fun a hF => pvg hF hW (y_move hF rfl) (ws hF rfl rfl) fun a hF => pvg hF hW (y_eqb hF rfl rfl Try.underlying4) (ws hF rfl rfl) fun a hF => ?_; replace hF := hF.tt; refine pv hF hW (y_pick hF rfl rfl) fun a hF => ?_; replace hF := hF.tt; refine pv hF hW (y_move hF rfl) fun a hF => ?_; replace hF := hF.tt; refine pvg hF hW (y_move hF rfl) (ws hF rfl rfl) fun a hF => pvg hF hW (y_move hF rfl) (ws hF rfl rfl) fun a hF => ?_; refine pe (e_call hF rfl rfl en_22 (by rfl) rfl rfl (same_ints (hW.res 2 rfl).2 Ints.nil_ eL) ?_) (ws hF rfl rfl); rintro e w1 ⟨rfl, hb⟩; replace hW := hW.kept hb; clear hb; refine ⟨_, rfl, fun a hF => ?_⟩; refine pv hF hW (y_pick hF rfl rfl) fun a hF => pv hF hW (y_move hF rfl) fun a hF => pvg hF hW (y_loadAll hF rfl 1 rfl Try.underlying55 rfl sz_55) (ws hF rfl rfl) fun a hF => pvg hF hW (y_loadAll hF rfl 0 rfl Try.underlying55 rfl sz_55) (ws hF rfl rfl) fun a hF => ?_; refine pe (e_call hF rfl rfl en_29 (by rfl) rfl rfl (same_certs (rs := []) (hW.res 2 rfl).1 (sets_nil _) (by rw [eS])) ?_) (ws hF rfl rfl); rintro e w1 ⟨rfl, hb⟩; replace hW := hW.kept hb; clear hb; refine ⟨_, rfl, fun a hF => ?_⟩; refine pv hF hW (y_pick hF rfl rfl) fun a hF => ?_; replace hF := hF.drop 4; refine pv hF hW (y_assign hF rfl) fun a hF => l_nil ?_; replace hF := hF.ks [0, 1, 2, 3, 4, 5, 6, 7, 8, 9, 10, 11, 12, 25] rfl; refine t_n <| wp_ret <| ret1 Try.results6 hF (rv_t hF rfl) ?_
          exact ⟨rfl, hW.below⟩
        · intro h7 hF; exfalso
          exact h7 rfl
      · intro h6 hF; exfalso
        exact h6 rfl

set_option maxRecDepth 100000 in
theorem certMakes_contract (H : Type) (enc : TypeId × Value → H) (W : World) (base : Nat) (args : Array Value) (ds gs : List (DataW H)) (before : List MemPlace)
    (hval : ∀ (j : Nat) t v, Try.f6.params[j]? = some t → args[j]? = some v → Value.okWide Try.prog W .any base t v)
    (hW : DataW.Whole enc Try.prog Try.f6.params.toList Rows.certMakesSpec.vars false W args.toList ds gs before) :
    Calls Try.prog 6 args W fun e W' => ∃ v, e = .returned v ∧ Rows.certMakesSpec.post enc Try.prog Try.f6 false true false false W args v W' := by
  have hW' := hW
  obtain ⟨p, q, hA0, hV, rfl, hfz, hnd⟩ := hW
  have hA : DataW.TrodAll enc Try.prog W 0 (fun _ => true) true Try.f6.params.toList args.toList ds p := hA0
  rw [Try.params6] at hA hval
  obtain ⟨v0, v1, d0, d1, p0, p1, rfl, rfl, rfl, h0, h1⟩ := trodAll_two hA
  obtain ⟨x, rfl, hx⟩ := sys_open (hval 0 26 v0 rfl rfl) h0
  obtain ⟨P, A, c, rfl, hm⟩ := pol_open (hval 1 52 v1 rfl rfl) h1
  refine (certMakes_run x P A c W hx hm).mono fun e W' ⟨he, hb⟩ => ?_
  subst he
  exact ⟨_, rfl, law_post Try.laidOut hW' hb rfl (by kernel_rfl) Try.underlying4 (by kernel_rfl) rfl⟩

set_option maxRecDepth 100000 in
theorem certMakes_lifted (os : Os) (started : os.Started) (H : Type) (enc : TypeId × Value → H) :
    ReturnsInHanded {} Try.checked os 6 .any (Rows.certMakesSpec.pre6 enc Try.prog Try.f6 Rows.certMakesRow.domain false) (Rows.certMakesSpec.post enc Try.prog Try.f6 false true false false) := by
  refine returnsInHanded_of_change (C := Try.checked) Try.own started (by kernel_rfl) Try.func6
    (ChangeSpec.witness6 (enc := enc) (C := Try.checked) false ⟨#[], #[.agg #[.slice none 0 0, .slice none 0 0, .slice none 0 0], .agg #[.slice none 0 0]], []⟩ 8 (by kernel_rfl) (by kernel_rfl) (by kernel_rfl) (by kernel_rfl)) ?_
  intro W base args ds gs before hval hW _ _
  exact certMakes_contract H enc W base args ds gs before hval hW

theorem certMakes_holds : Rows.CertMakesSaid :=
  OpenClaim.holds_of_wide 6 Try.f6 rfl rfl rfl rfl rfl rfl rfl ⟨rfl, rfl, rfl, rfl, rfl⟩ rfl rfl rfl rfl rfl (by kernel_rfl) Try.func6 (by kernel_rfl)
    (of_decide_eq_true (by kernel_rfl)) (by unfold Func.isWrapper; first | (rw [if_pos (by decide +kernel)]; kernel_rfl) | (rw [if_neg (by decide +kernel)]; exact ⟨rfl, rfl⟩))
    (fun os started H enc _ => certMakes_lifted os started H enc)
end Go.Proofs.Ytlkkdpoioedacaa
