/- The law ViewAlone answers true for every input. -/
import Derived.Test.YtoecpblabajlmaaViewD
namespace Go.Proofs.Ytoecpblabajlmaa
set_option linter.unusedVariables false
set_option linter.unusedSimpArgs false
open Go.ChangeShapes Go.WideShapes Go.ChangeAt Go.RowKit

set_option maxRecDepth 100000

set_option maxHeartbeats 4000000 in
theorem viewAlone_run (x : SysD) (part n : Int) (w : World) (hx : x.At w) :
    Calls Try.prog 7 #[x.val, .int .i64 part, .int .i64 n] w fun e w' => e = .returned (.bool true) ∧ Below w.heap.size w w' := by
  have hpu := fun w1 (hb : Below w.heap.size w w1) => viewPurge_any (hx.below hb) part
  by_cases h0 : thereErr x.sys part = 0 ∧ 0 ≤ n ∧ n ≤ 300
  · obtain ⟨h0, hn0, hn1⟩ := h0
    obtain ⟨hk, hpp⟩ := there_zero h0
    obtain ⟨hp0, hp1⟩ := part_len hpp
    obtain ⟨p, rfl⟩ := Int.eq_ofNat_of_zero_le hp0
    obtain ⟨k, rfl⟩ := Int.eq_ofNat_of_zero_le hn0
    have hkl : k ≤ 300 := by omega
    have hpl : p < x.parts.length := by omega
    have hps : p < x.sys.parts.length := by simpa [SysD.sys] using hpl
    rw [show purgeOr x.sys p = purged x.sys p from (if_pos h0).trans (by rw [Int.toNat_natCast]), h0] at hpu
    have hV := purged_view hk hps hkl
    have hs1 := fun w1 (hb : Below w.heap.size w w1) => seen_ok (hx.below hb) hk hpl hkl
    have hs2 := fun (y : SysD) (hys : y.sys = purged x.sys p) w1 (hy : y.At w1) => seen_ok hy (by rw [hys]; exact purged_chk hk) (p := p) (by rw [sys_len hys]; simpa [purged] using hps) hkl
    clear h0 hpp
    rw [x.val_eq] at *
    refine enter Try.func7 rfl Try.ntmps7 rfl fun a hF => ?_
    have hW := Wd.start w NoB
    refine c_sr ?_; refine pe (e_box hF hW rfl rfl rfl rfl ?_); intro b1 a wc hF hW; refine pv hF hW (y_assign hF rfl) fun a hF => l_nil <| t_n <| c_sr <| pv hF hW (y_loadAll hF rfl 0 rfl Try.underlying26 rfl sz_26) fun a hF => pv hF hW (y_move hF rfl) fun a hF => ?_; refine pe (e_call hF rfl rfl en_24 (by rfl) rfl rfl (hpu _ hW.below) ?_); rintro e w1 ⟨y, rfl, hys, hb, hr⟩; replace hW := hW.gotR hb hr; refine ⟨_, rfl, fun a hF => ?_⟩; replace hF := Fr.cast (v' := .tuple #[.agg #[.slice y.pa y.parts.length y.pc, .slice y.ha y.chans.length y.hc, .slice y.sa y.slots.length y.sc], .int .i64 0]) rfl hF; refine pv hF hW (y_move hF rfl) fun a hF => pv hF hW (y_extract hF rfl rfl) fun a hF => pv hF hW (y_extract hF rfl rfl) fun a hF => ?_; refine pe (e_alloc hF hW ze_26 rfl rfl rfl ?_); intro b2 a wc hF hW; refine pe (e_storeAll rfl hF hW rfl rfl 0 rfl rfl rfl (by kernel_rfl) sz_26 ?_); intro wc hW; refine pv hF hW (y_assign hF rfl) fun a hF => l_nil ?_; replace hF := hF.ks [0, 1, 2, 3, 6, 7, 8] rfl; refine t_n <| c_s <| c_sr <| pv hF hW (y_move hF rfl) fun a hF => pv hF hW (y_neq hF rfl rfl) fun a hF => ?_; replace hF := hF.ff; refine pv hF hW (y_move hF rfl) fun a hF => ?_; replace hF := hF.ff; refine pvg hF hW (y_move hF rfl) (ws hF rfl rfl) fun a hF => pvg hF hW (y_lss hF rfl rfl) (ws hF rfl rfl) fun a hF => ?_; refine Fr.splitD hF ?_ ?_
    · intro h3 hF; exfalso
      omega
    · intro h3 hF; refine pv hF hW (y_pick hF rfl rfl) fun a hF => pv hF hW (y_move hF rfl) fun a hF => pvg hF hW (y_move hF rfl) (ws hF rfl rfl) fun a hF => pvg hF hW (y_gtr hF rfl rfl) (ws hF rfl rfl) fun a hF => ?_; refine Fr.splitD hF ?_ ?_
      · intro h4 hF; exfalso
        omega
      · intro h4 hF; refine pv hF hW (y_pick hF rfl rfl) fun a hF => l_nil ?_; replace hF := hF.ks [0, 1, 2, 3, 6, 7, 8, 28] rfl; refine t_n <| c_f hF rfl <| wp_skip <| t_n <| c_sr <| pv hF hW (y_loadAll hF rfl 2 rfl Try.underlying26 rfl sz_26) fun a hF => pv hF hW (y_move hF rfl) fun a hF => pv hF hW (y_move hF rfl) fun a hF => ?_; refine pe (e_call hF rfl rfl en_26 (by rfl) rfl rfl (hs1 _ hW.below) ?_); rintro e w1 ⟨v, rfl, hva, hb, hr2⟩; replace hW := hW.gotR hb hr2
        obtain ⟨⟨⟨atA, rgA, mmA, rdA, outA, enA⟩, wfA, qaA, qkA⟩, LA, laA, lcA⟩ := v
        obtain ⟨raA, rbA, rcA, reA, hrA⟩ := len_four wfA.1
        obtain ⟨maA, mbA, mcA, mdA, meA, mfA, mgA, mhA, hmA⟩ := len_eight wfA.2
        dsimp only at hrA hmA
        subst hrA hmA; refine ⟨_, rfl, fun a hF => ?_⟩; replace hF := Fr.cast (v' := .tuple #[.agg #[.int .i64 atA, .int .i64 raA, .int .i64 rbA, .int .i64 rcA, .int .i64 reA, .int .i64 maA, .int .i64 mbA, .int .i64 mcA, .int .i64 mdA, .int .i64 meA, .int .i64 mfA, .int .i64 mgA, .int .i64 mhA, .int .i64 rdA, .slice qaA outA.length qkA, .int .i64 enA, .slice laA LA.length lcA], .bool true]) rfl hF; refine pv hF hW (y_move hF rfl) fun a hF => pv hF hW (y_extract hF rfl rfl) fun a hF => pv hF hW (y_extract hF rfl rfl) fun a hF => ?_; refine pe (e_alloc hF hW ze_63 rfl rfl rfl ?_); intro b5 a wc hF hW; refine pe (e_storeAll rfl hF hW rfl rfl 0 rfl rfl rfl (by kernel_rfl) sz_63 ?_); intro wc hW; refine pv hF hW (y_assign hF rfl) fun a hF => l_nil ?_; replace hF := hF.ks [0, 1, 2, 3, 6, 7, 8, 9, 10, 28] rfl; refine t_n <| c_sr <| pv hF hW (y_loadAll hF rfl 2 rfl Try.underlying26 rfl sz_26) fun a hF => pv hF hW (y_move hF rfl) fun a hF => pv hF hW (y_move hF rfl) fun a hF => ?_; refine pe (e_call hF rfl rfl en_26 (by rfl) rfl rfl (hs2 y hys _ (hW.res 3 rfl)) ?_); rintro e w1 ⟨v, rfl, hvb, hb, hr2⟩; replace hW := hW.gotR hb hr2
        obtain ⟨⟨⟨atB, rgB, mmB, rdB, outB, enB⟩, wfB, qaB, qkB⟩, LB, laB, lcB⟩ := v
        obtain ⟨raB, rbB, rcB, reB, hrB⟩ := len_four wfB.1
        obtain ⟨maB, mbB, mcB, mdB, meB, mfB, mgB, mhB, hmB⟩ := len_eight wfB.2
        dsimp only at hrB hmB
        subst hrB hmB; refine ⟨_, rfl, fun a hF => ?_⟩; replace hF := Fr.cast (v' := .tuple #[.agg #[.int .i64 atB, .int .i64 raB, .int .i64 rbB, .int .i64 rcB, .int .i64 reB, .int .i64 maB, .int .i64 mbB, .int .i64 mcB, .int .i64 mdB, .int .i64 meB, .int .i64 mfB, .int .i64 mgB, .int .i64 mhB, .int .i64 rdB, .slice qaB outB.length qkB, .int .i64 enB, .slice laB LB.length lcB], .bool true]) rfl hF; refine pv hF hW (y_move hF rfl) fun a hF => pv hF hW (y_extract hF rfl rfl) fun a hF => pv hF hW (y_extract hF rfl rfl) fun a hF => ?_; refine pe (e_alloc hF hW ze_63 rfl rfl rfl ?_); intro b6 a wc hF hW; refine pe (e_storeAll rfl hF hW rfl rfl 0 rfl rfl rfl (by kernel_rfl) sz_63 ?_); intro wc hW; refine pv hF hW (y_assign hF rfl) fun a hF => l_nil ?_; replace hF := hF.ks [0, 1, 2, 3, 6, 7, 8, 9, 10, 11, 12, 28] rfl; refine t_n <| c_sr ?_; refine pe (e_call hF rfl rfl en_25 (by rfl) rfl rfl (viewBegun_any _) ?_); rintro e w1 ⟨rfl, hb⟩; replace hW := hW.kept hb; clear hb; refine ⟨_, rfl, fun a hF => ?_⟩; refine pv hF hW (y_move hF rfl) fun a hF => pvg hF hW (y_move hF rfl) (ws hF rfl rfl) fun a hF => pv hF hW (y_pick hF rfl rfl) fun a hF => pv hF hW (y_move hF rfl) fun a hF => pvg hF hW (y_move hF rfl) (ws hF rfl rfl) fun a hF => pv hF hW (y_pick hF rfl rfl) fun a hF => pv hF hW (y_move hF rfl) fun a hF => pvg hF hW (y_loadAll hF rfl 2 rfl Try.underlying63 rfl sz_63) (ws hF rfl rfl) fun a hF => pvg hF hW (y_loadAll hF rfl 0 rfl Try.underlying63 rfl sz_63) (ws hF rfl rfl) fun a hF => ?_; refine pe (e_call hF rfl rfl en_27 (by rfl) rfl rfl (same_views (hW.res 3 rfl) (hW.res 1 rfl) (hva.trans (hV.trans (by rw [hvb, hys])))) ?_) (ws hF rfl rfl); rintro e w1 ⟨rfl, hb⟩; replace hW := hW.kept hb; clear hb; refine ⟨_, rfl, fun a hF => ?_⟩; refine pv hF hW (y_pick hF rfl rfl) fun a hF => ?_; replace hF := hF.drop 6; refine pv hF hW (y_assign hF rfl) fun a hF => l_nil ?_; replace hF := hF.ks [0, 1, 2, 3, 6, 7, 8, 9, 10, 11, 12, 28] rfl; refine t_n <| wp_ret <| ret1 Try.results7 hF (rv_t hF rfl) ?_
        exact ⟨rfl, hW.below⟩
  · generalize thereErr x.sys part = E at *
    rw [x.val_eq] at *
    refine enter Try.func7 rfl Try.ntmps7 rfl fun a hF => ?_
    have hW := Wd.start w NoB
    refine c_sr ?_; refine pe (e_box hF hW rfl rfl rfl rfl ?_); intro b1 a wc hF hW; refine pv hF hW (y_assign hF rfl) fun a hF => l_nil <| t_n <| c_sr <| pv hF hW (y_loadAll hF rfl 0 rfl Try.underlying26 rfl sz_26) fun a hF => pv hF hW (y_move hF rfl) fun a hF => ?_; refine pe (e_call hF rfl rfl en_24 (by rfl) rfl rfl (hpu _ hW.below) ?_); rintro e w1 ⟨y, rfl, hys, hb, hr⟩; replace hW := hW.gotR hb hr; refine ⟨_, rfl, fun a hF => ?_⟩; replace hF := Fr.cast (v' := .tuple #[.agg #[.slice y.pa y.parts.length y.pc, .slice y.ha y.chans.length y.hc, .slice y.sa y.slots.length y.sc], .int .i64 E]) rfl hF; refine pv hF hW (y_move hF rfl) fun a hF => pv hF hW (y_extract hF rfl rfl) fun a hF => pv hF hW (y_extract hF rfl rfl) fun a hF => ?_; refine pe (e_alloc hF hW ze_26 rfl rfl rfl ?_); intro b2 a wc hF hW; refine pe (e_storeAll rfl hF hW rfl rfl 0 rfl rfl rfl (by kernel_rfl) sz_26 ?_); intro wc hW; refine pv hF hW (y_assign hF rfl) fun a hF => l_nil ?_; replace hF := hF.ks [0, 1, 2, 3, 6, 7, 8] rfl; refine t_n <| c_s <| c_sr <| pv hF hW (y_move hF rfl) fun a hF => pv hF hW (y_neq hF rfl rfl) fun a hF => ?_; refine Fr.splitD hF ?_ ?_
    · intro h3 hF; refine pv hF hW (y_move hF rfl) fun a hF => pk hF (wn hF rfl rfl rfl) fun a hF => pk hF (wn hF rfl rfl rfl) fun a hF => pv hF hW (y_pick hF rfl rfl) fun a hF => pv hF hW (y_move hF rfl) fun a hF => pk hF (wn hF rfl rfl rfl) fun a hF => pk hF (wn hF rfl rfl rfl) fun a hF => pv hF hW (y_pick hF rfl rfl) fun a hF => l_nil ?_; replace hF := hF.ks [0, 1, 2, 3, 6, 7, 8, 28] rfl; refine t_n <| c_t hF rfl <| c_sr ?_; refine pe (e_call hF rfl rfl en_25 (by rfl) rfl rfl (viewBegun_any _) ?_); rintro e w1 ⟨rfl, hb⟩; replace hW := hW.kept hb; clear hb; refine ⟨_, rfl, fun a hF => ?_⟩; replace hF := hF.drop 6; refine pv hF hW (y_assign hF rfl) fun a hF => l_nil ?_; replace hF := hF.ks [0, 1, 2, 3, 6, 7, 8, 28] rfl; refine t_n <| wp_ret <| t_r <| ret1 Try.results7 hF (rv_t hF rfl) ?_
      exact ⟨rfl, hW.below⟩
    · intro h3 hF; refine pv hF hW (y_move hF rfl) fun a hF => pvg hF hW (y_move hF rfl) (ws hF rfl rfl) fun a hF => pvg hF hW (y_lss hF rfl rfl) (ws hF rfl rfl) fun a hF => ?_; refine Fr.splitD hF ?_ ?_
      · intro h4 hF; refine pv hF hW (y_pick hF rfl rfl) fun a hF => pv hF hW (y_move hF rfl) fun a hF => pk hF (wn hF rfl rfl rfl) fun a hF => pk hF (wn hF rfl rfl rfl) fun a hF => pv hF hW (y_pick hF rfl rfl) fun a hF => l_nil ?_; replace hF := hF.ks [0, 1, 2, 3, 6, 7, 8, 28] rfl; refine t_n <| c_t hF rfl <| c_sr ?_; refine pe (e_call hF rfl rfl en_25 (by rfl) rfl rfl (viewBegun_any _) ?_); rintro e w1 ⟨rfl, hb⟩; replace hW := hW.kept hb; clear hb; refine ⟨_, rfl, fun a hF => ?_⟩; replace hF := hF.drop 6; refine pv hF hW (y_assign hF rfl) fun a hF => l_nil ?_; replace hF := hF.ks [0, 1, 2, 3, 6, 7, 8, 28] rfl; refine t_n <| wp_ret <| t_r <| ret1 Try.results7 hF (rv_t hF rfl) ?_
        exact ⟨rfl, hW.below⟩
      · intro h4 hF; refine pv hF hW (y_pick hF rfl rfl) fun a hF => pv hF hW (y_move hF rfl) fun a hF => pvg hF hW (y_move hF rfl) (ws hF rfl rfl) fun a hF => pvg hF hW (y_gtr hF rfl rfl) (ws hF rfl rfl) fun a hF => ?_; refine Fr.splitD hF ?_ ?_
        · intro h5 hF; refine pv hF hW (y_pick hF rfl rfl) fun a hF => l_nil ?_; replace hF := hF.ks [0, 1, 2, 3, 6, 7, 8, 28] rfl; refine t_n <| c_t hF rfl <| c_sr ?_; refine pe (e_call hF rfl rfl en_25 (by rfl) rfl rfl (viewBegun_any _) ?_); rintro e w1 ⟨rfl, hb⟩; replace hW := hW.kept hb; clear hb; refine ⟨_, rfl, fun a hF => ?_⟩; replace hF := hF.drop 6; refine pv hF hW (y_assign hF rfl) fun a hF => l_nil ?_; replace hF := hF.ks [0, 1, 2, 3, 6, 7, 8, 28] rfl; refine t_n <| wp_ret <| t_r <| ret1 Try.results7 hF (rv_t hF rfl) ?_
          exact ⟨rfl, hW.below⟩
        · intro h5 hF; exfalso
          omega

set_option maxRecDepth 100000 in
theorem viewAlone_contract (H : Type) (enc : TypeId × Value → H) (W : World) (base : Nat) (args : Array Value) (ds gs : List (DataW H)) (before : List MemPlace)
    (hval : ∀ (j : Nat) t v, Try.f7.params[j]? = some t → args[j]? = some v → Value.okWide Try.prog W .any base t v)
    (hW : DataW.Whole enc Try.prog Try.f7.params.toList Rows.viewAloneSpec.vars false W args.toList ds gs before) :
    Calls Try.prog 7 args W fun e W' => ∃ v, e = .returned v ∧ Rows.viewAloneSpec.post enc Try.prog Try.f7 false true false false W args v W' := by
  have hW' := hW
  obtain ⟨p, q, hA0, hV, rfl, hfz, hnd⟩ := hW
  have hA : DataW.TrodAll enc Try.prog W 0 (fun _ => true) true Try.f7.params.toList args.toList ds p := hA0
  rw [Try.params7] at hA hval
  obtain ⟨v0, v1, v2, d0, d1, d2, p0, p1, p2, rfl, rfl, rfl, h0, h1, h2⟩ := trodAll_three hA
  obtain ⟨x, rfl, hx⟩ := sys_open (hval 0 26 v0 rfl rfl) h0
  obtain ⟨part, rfl, rfl, rfl, wk1⟩ := open_int Try.underlying3 (hval 1 3 v1 rfl rfl) h1
  obtain ⟨n, rfl, rfl, rfl, wk2⟩ := open_int Try.underlying3 (hval 2 3 v2 rfl rfl) h2
  refine (viewAlone_run x part n W hx).mono fun e W' ⟨he, hb⟩ => ?_
  subst he
  exact ⟨_, rfl, law_post Try.laidOut hW' hb rfl (by kernel_rfl) Try.underlying4 (by kernel_rfl) rfl⟩

set_option maxRecDepth 100000 in
theorem viewAlone_lifted (os : Os) (started : os.Started) (H : Type) (enc : TypeId × Value → H) :
    ReturnsInHanded {} Try.checked os 7 .any (Rows.viewAloneSpec.pre6 enc Try.prog Try.f7 Rows.viewAloneRow.domain false) (Rows.viewAloneSpec.post enc Try.prog Try.f7 false true false false) := by
  refine returnsInHanded_of_change (C := Try.checked) Try.own started (by kernel_rfl) Try.func7
    (ChangeSpec.witness6 (enc := enc) (C := Try.checked) false ⟨#[], #[.agg #[.slice none 0 0, .slice none 0 0, .slice none 0 0], .int .i64 0, .int .i64 0], []⟩ 8 (by kernel_rfl) (by kernel_rfl) (by kernel_rfl) (by kernel_rfl)) ?_
  intro W base args ds gs before hval hW _ _
  exact viewAlone_contract H enc W base args ds gs before hval hW

theorem viewAlone_holds : Rows.ViewAloneSaid :=
  OpenClaim.holds_of_wide 7 Try.f7 rfl rfl rfl rfl rfl rfl rfl ⟨rfl, rfl, rfl, rfl, rfl⟩ rfl rfl rfl rfl rfl (by kernel_rfl) Try.func7 (by kernel_rfl)
    (of_decide_eq_true (by kernel_rfl)) (by unfold Func.isWrapper; first | (rw [if_pos (by decide +kernel)]; kernel_rfl) | (rw [if_neg (by decide +kernel)]; exact ⟨rfl, rfl⟩))
    (fun os started H enc _ => viewAlone_lifted os started H enc)
end Go.Proofs.Ytoecpblabajlmaa
