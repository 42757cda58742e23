/- The law ViewTells answers true for every input. -/
import Derived.Test.YtoecpblabajlmaaGreatViewD
import Derived.Test.YtoecpblabajlmaaGreatViewE
namespace Go.Proofs.YtoecpblabajlmaaGreat
set_option linter.unusedVariables false
set_option linter.unusedSimpArgs false
open Go.ChangeShapes Go.WideShapes Go.ChangeAt Go.RowKit

set_option maxRecDepth 100000

set_option maxHeartbeats 4000000 in
theorem viewTells_run (x : SysD) (y : WD) (part : Int) (w : World) (hx : x.At w) (hy : y.At w) :
    Calls Tryz.prog 5 #[x.val, y.val, .int .i64 part] w fun e w' => e = .returned (.bool true) ∧ Below w.heap.size w w' := by
  have hof := fun w1 (hb : Below w.heap.size w w1) => viewOf_any (hx.below hb) (hy.below hb) part
  have hcR := fun w1 (hb : Below w.heap.size w w1) => checkWorld_any (hx.below hb) (hy.below hb)
  have hth := fun w1 (hb : Below w.heap.size w w1) => thereRR_any (hx.below hb) part
  by_cases hcw : chkWorld x.sys y.wrl = 0
  · have he : viewErr x.sys y.wrl part = thereErr x.sys part := viewErr_t hcw
    by_cases h0 : thereErr x.sys part = 0
    · obtain ⟨hk, hpp⟩ := there_zero h0
      obtain ⟨hp0, hp1⟩ := part_len hpp
      obtain ⟨p, rfl⟩ := Int.eq_ofNat_of_zero_le hp0
      have hpl : p < x.parts.length := by omega
      have hRf := fun w1 (hb : Below w.heap.size w w1) => viewOfR_any (hx.below hb) (hy.below hb) hcw hpl
      rw [h0] at he hth
      rw [show viewOr x.sys y.wrl p = viewOf x.sys y.wrl p from (if_pos he).trans (by rw [Int.toNat_natCast]), he] at hof
      rw [hcw] at hcR
      clear hcw he h0 hpp
      rw [x.val_eq, y.val_eq] at *
      refine enter Tryz.func5 rfl Tryz.ntmps5 rfl fun a hF => ?_
      have hW := Wd.start w NoB
      refine c_sr ?_; refine pe (e_box hF hW rfl rfl rfl rfl ?_); intro b1 a wc hF hW; refine pe (e_box hF hW rfl rfl rfl rfl ?_); intro b2 a wc hF hW; refine pv hF hW (y_assign hF rfl) fun a hF => l_nil <| t_n <| c_sr <| pv hF hW (y_loadAll hF rfl 1 rfl Tryz.underlying26 rfl sz_26) fun a hF => pv hF hW (y_loadAll hF rfl 0 rfl Tryz.underlying30 rfl sz_30) fun a hF => pv hF hW (y_move hF rfl) fun a hF => ?_; refine pe (e_call hF rfl rfl en_17 (by rfl) rfl rfl (hof _ hW.below) ?_); rintro e w1 ⟨v, rfl, hva, hb, hr2⟩; replace hW := hW.gotR hb hr2
      obtain ⟨⟨⟨atA, rgA, mmA, rdA, outA, enA⟩, wfA, qaA, qkA⟩, LA, laA, lcA⟩ := v
      obtain ⟨raA, rbA, rcA, reA, hrA⟩ := len_four wfA.1
      obtain ⟨maA, mbA, mcA, mdA, meA, mfA, mgA, mhA, hmA⟩ := len_eight wfA.2
      dsimp only at hrA hmA
      subst hrA hmA; refine ⟨_, rfl, fun a hF => ?_⟩; replace hF := Fr.cast (v' := .tuple #[.agg #[.int .i64 atA, .int .i64 raA, .int .i64 rbA, .int .i64 rcA, .int .i64 reA, .int .i64 maA, .int .i64 mbA, .int .i64 mcA, .int .i64 mdA, .int .i64 meA, .int .i64 mfA, .int .i64 mgA, .int .i64 mhA, .int .i64 rdA, .slice qaA outA.length qkA, .int .i64 enA, .slice laA LA.length lcA], .int .i64 0]) rfl hF; refine pv hF hW (y_move hF rfl) fun a hF => pv hF hW (y_extract hF rfl rfl) fun a hF => pv hF hW (y_extract hF rfl rfl) fun a hF => ?_; refine pe (e_alloc hF hW ze_49 rfl rfl rfl ?_); intro b3 a wc hF hW; refine pe (e_storeAll rfl hF hW rfl rfl 0 rfl rfl rfl (by kernel_rfl) sz_49 ?_); intro wc hW; refine pv hF hW (y_assign hF rfl) fun a hF => l_nil ?_; replace hF := hF.ks [0, 1, 2, 3, 4, 6, 7, 8] rfl; refine t_n <| c_sr <| pv hF hW (y_loadAll hF rfl 3 rfl Tryz.underlying26 rfl sz_26) fun a hF => pv hF hW (y_loadAll hF rfl 2 rfl Tryz.underlying30 rfl sz_30) fun a hF => ?_; refine pe (e_call hF rfl rfl en_10 (by rfl) rfl rfl (hcR _ hW.below) ?_); rintro e w1 ⟨rfl, hb⟩; replace hW := hW.kept hb; clear hb; refine ⟨_, rfl, fun a hF => ?_⟩; refine pv hF hW (y_assign hF rfl) fun a hF => l_nil ?_; replace hF := hF.ks [0, 1, 2, 3, 4, 6, 7, 8, 9] rfl; refine t_n <| c_s <| c_sr <| pv hF hW (y_move hF rfl) fun a hF => pv hF hW (y_eql hF rfl rfl) fun a hF => ?_; replace hF := hF.tt; refine l_nil ?_; replace hF := hF.ks [0, 1, 2, 3, 4, 6, 7, 8, 9, 22] rfl; refine t_n <| c_t hF rfl <| c_r <| pv hF hW (y_loadAll hF rfl 3 rfl Tryz.underlying26 rfl sz_26) fun a hF => pv hF hW (y_move hF rfl) fun a hF => ?_; refine pe (e_call hF rfl rfl en_18 (by rfl) rfl rfl (hth _ hW.below) ?_); rintro e w1 ⟨rfl, hb⟩; replace hW := hW.kept hb; clear hb; refine ⟨_, rfl, fun a hF => ?_⟩; replace hF := hF.drop 9; refine pv hF hW (y_assign hF rfl) fun a hF => l_nil ?_; replace hF := hF.ks [0, 1, 2, 3, 4, 6, 7, 8, 9, 22] rfl; refine t_n <| c_sr ?_; refine pe (e_alloc hF hW ze_49 rfl rfl rfl ?_); intro b4 a wc hF hW; refine l_nil <| t_n <| c_s <| c_sr <| pv hF hW (y_move hF rfl) fun a hF => pv hF hW (y_eql hF rfl rfl) fun a hF => ?_; replace hF := hF.tt; refine l_nil ?_; replace hF := hF.ks [0, 1, 2, 3, 4, 6, 7, 8, 9, 10, 22, 27] rfl; refine t_n <| c_t hF rfl <| c_r <| pv hF hW (y_loadAll hF rfl 4 rfl Tryz.underlying26 rfl sz_26) fun a hF => pv hF hW (y_loadAll hF rfl 3 rfl Tryz.underlying30 rfl sz_30) fun a hF => pv hF hW (y_move hF rfl) fun a hF => ?_; refine pe (e_call hF rfl rfl en_19 (by rfl) rfl rfl (hRf _ hW.below) ?_); rintro e w1 ⟨z, rfl, hvb, hb, hr2⟩; replace hW := hW.gotR hb hr2
      obtain ⟨⟨⟨atB, rgB, mmB, rdB, outB, enB⟩, wfB, qaB, qkB⟩, LB, laB, lcB⟩ := z
      obtain ⟨raB, rbB, rcB, reB, hrB⟩ := len_four wfB.1
      obtain ⟨maB, mbB, mcB, mdB, meB, mfB, mgB, mhB, hmB⟩ := len_eight wfB.2
      dsimp only at hrB hmB
      subst hrB hmB; refine ⟨_, rfl, fun a hF => ?_⟩; replace hF := Fr.cast (v' := .agg #[.int .i64 atB, .int .i64 raB, .int .i64 rbB, .int .i64 rcB, .int .i64 reB, .int .i64 maB, .int .i64 mbB, .int .i64 mcB, .int .i64 mdB, .int .i64 meB, .int .i64 mfB, .int .i64 mgB, .int .i64 mhB, .int .i64 rdB, .slice qaB outB.length qkB, .int .i64 enB, .slice laB LB.length lcB]) rfl hF; refine pe (e_storeAll rfl hF hW rfl rfl 1 rfl rfl rfl (by kernel_rfl) sz_49 ?_); intro wc hW; refine l_nil ?_; replace hF := hF.ks [0, 1, 2, 3, 4, 6, 7, 8, 9, 10, 22, 27] rfl; refine t_n <| c_sr ?_; refine pe (e_call hF rfl rfl en_20 (by rfl) rfl rfl (viewBegun_any _) ?_); rintro e w1 ⟨rfl, hb⟩; replace hW := hW.kept hb; clear hb; refine ⟨_, rfl, fun a hF => ?_⟩; refine pv hF hW (y_move hF rfl) fun a hF => pvg hF hW (y_move hF rfl) (ws hF rfl rfl) fun a hF => pvg hF hW (y_move hF rfl) (ws hF rfl rfl) fun a hF => pvg hF hW (y_eql hF rfl rfl) (ws hF rfl rfl) fun a hF => ?_; replace hF := hF.tt; refine pv hF hW (y_pick hF rfl rfl) fun a hF => ?_; replace hF := hF.tt; refine pv hF hW (y_move hF rfl) fun a hF => ?_; replace hF := hF.tt; refine pvg hF hW (y_loadAll hF rfl 2 rfl Tryz.underlying49 rfl sz_49) (ws hF rfl rfl) fun a hF => pvg hF hW (y_loadAll hF rfl 1 rfl Tryz.underlying49 rfl sz_49) (ws hF rfl rfl) fun a hF => ?_; refine pe (e_call hF rfl rfl en_21 (by rfl) rfl rfl (same_views (hW.res 3 rfl) (hW.res 0 rfl) (hva.trans hvb.symm)) ?_) (ws hF rfl rfl); rintro e w1 ⟨rfl, hb⟩; replace hW := hW.kept hb; clear hb; refine ⟨_, rfl, fun a hF => ?_⟩; refine pv hF hW (y_pick hF rfl rfl) fun a hF => ?_; replace hF := hF.drop 6; refine pv hF hW (y_assign hF rfl) fun a hF => l_nil ?_; replace hF := hF.ks [0, 1, 2, 3, 4, 6, 7, 8, 9, 10, 22, 27] rfl; refine t_n <| wp_ret <| ret1 Tryz.results5 hF (rv_t hF rfl) ?_
      exact ⟨rfl, hW.below⟩
    · rw [show viewOr x.sys y.wrl part = Vw.zero from if_neg (by rw [he]; exact h0), he] at hof
      rw [hcw] at hcR
      clear hcw he
      generalize thereErr x.sys part = E at *
      rw [x.val_eq, y.val_eq] at *
      refine enter Tryz.func5 rfl Tryz.ntmps5 rfl fun a hF => ?_
      have hW := Wd.start w NoB
      refine c_sr ?_; refine pe (e_box hF hW rfl rfl rfl rfl ?_); intro b1 a wc hF hW; refine pe (e_box hF hW rfl rfl rfl rfl ?_); intro b2 a wc hF hW; refine pv hF hW (y_assign hF rfl) fun a hF => l_nil <| t_n <| c_sr <| pv hF hW (y_loadAll hF rfl 1 rfl Tryz.underlying26 rfl sz_26) fun a hF => pv hF hW (y_loadAll hF rfl 0 rfl Tryz.underlying30 rfl sz_30) fun a hF => pv hF hW (y_move hF rfl) fun a hF => ?_; refine pe (e_call hF rfl rfl en_17 (by rfl) rfl rfl (hof _ hW.below) ?_); rintro e w1 ⟨v, rfl, hva, hb, hr2⟩; replace hW := hW.gotR hb hr2
      obtain ⟨⟨⟨atA, rgA, mmA, rdA, outA, enA⟩, wfA, qaA, qkA⟩, LA, laA, lcA⟩ := v
      obtain ⟨raA, rbA, rcA, reA, hrA⟩ := len_four wfA.1
      obtain ⟨maA, mbA, mcA, mdA, meA, mfA, mgA, mhA, hmA⟩ := len_eight wfA.2
      dsimp only at hrA hmA
      subst hrA hmA; refine ⟨_, rfl, fun a hF => ?_⟩; replace hF := Fr.cast (v' := .tuple #[.agg #[.int .i64 atA, .int .i64 raA, .int .i64 rbA, .int .i64 rcA, .int .i64 reA, .int .i64 maA, .int .i64 mbA, .int .i64 mcA, .int .i64 mdA, .int .i64 meA, .int .i64 mfA, .int .i64 mgA, .int .i64 mhA, .int .i64 rdA, .slice qaA outA.length qkA, .int .i64 enA, .slice laA LA.length lcA], .int .i64 E]) rfl hF; refine pv hF hW (y_move hF rfl) fun a hF => pv hF hW (y_extract hF rfl rfl) fun a hF => pv hF hW (y_extract hF rfl rfl) fun a hF => ?_; refine pe (e_alloc hF hW ze_49 rfl rfl rfl ?_); intro b3 a wc hF hW; refine pe (e_storeAll rfl hF hW rfl rfl 0 rfl rfl rfl (by kernel_rfl) sz_49 ?_); intro wc hW; refine pv hF hW (y_assign hF rfl) fun a hF => l_nil ?_; replace hF := hF.ks [0, 1, 2, 3, 4, 6, 7, 8] rfl; refine t_n <| c_sr <| pv hF hW (y_loadAll hF rfl 3 rfl Tryz.underlying26 rfl sz_26) fun a hF => pv hF hW (y_loadAll hF rfl 2 rfl Tryz.underlying30 rfl sz_30) fun a hF => ?_; refine pe (e_call hF rfl rfl en_10 (by rfl) rfl rfl (hcR _ hW.below) ?_); rintro e w1 ⟨rfl, hb⟩; replace hW := hW.kept hb; clear hb; refine ⟨_, rfl, fun a hF => ?_⟩; refine pv hF hW (y_assign hF rfl) fun a hF => l_nil ?_; replace hF := hF.ks [0, 1, 2, 3, 4, 6, 7, 8, 9] rfl; refine t_n <| c_s <| c_sr <| pv hF hW (y_move hF rfl) fun a hF => pv hF hW (y_eql hF rfl rfl) fun a hF => ?_; replace hF := hF.tt; refine l_nil ?_; replace hF := hF.ks [0, 1, 2, 3, 4, 6, 7, 8, 9, 22] rfl; refine t_n <| c_t hF rfl <| c_r <| pv hF hW (y_loadAll hF rfl 3 rfl Tryz.underlying26 rfl sz_26) fun a hF => pv hF hW (y_move hF rfl) fun a hF => ?_; refine pe (e_call hF rfl rfl en_18 (by rfl) rfl rfl (hth _ hW.below) ?_); rintro e w1 ⟨rfl, hb⟩; replace hW := hW.kept hb; clear hb; refine ⟨_, rfl, fun a hF => ?_⟩; replace hF := hF.drop 9; refine pv hF hW (y_assign hF rfl) fun a hF => l_nil ?_; replace hF := hF.ks [0, 1, 2, 3, 4, 6, 7, 8, 9, 22] rfl; refine t_n <| c_sr ?_; refine pe (e_alloc hF hW ze_49 rfl rfl rfl ?_); intro b4 a wc hF hW; refine l_nil <| t_n <| c_s <| c_sr <| pv hF hW (y_move hF rfl) fun a hF => pv hF hW (y_eql hF rfl rfl) fun a hF => ?_; refine Fr.splitD hF ?_ ?_
      · intro h5 hF; exfalso
        omega
      · intro h5 hF; refine l_nil ?_; replace hF := hF.ks [0, 1, 2, 3, 4, 6, 7, 8, 9, 10, 22, 27] rfl; refine t_n <| c_f hF rfl <| wp_skip <| t_n <| c_sr ?_; refine pe (e_call hF rfl rfl en_20 (by rfl) rfl rfl (viewBegun_any _) ?_); rintro e w1 ⟨rfl, hb⟩; replace hW := hW.kept hb; clear hb; refine ⟨_, rfl, fun a hF => ?_⟩; refine pv hF hW (y_move hF rfl) fun a hF => pvg hF hW (y_move hF rfl) (ws hF rfl rfl) fun a hF => pvg hF hW (y_move hF rfl) (ws hF rfl rfl) fun a hF => pvg hF hW (y_eql hF rfl rfl) (ws hF rfl rfl) fun a hF => ?_; refine Fr.splitD hF ?_ ?_
        · intro h6 hF; refine pv hF hW (y_pick hF rfl rfl) fun a hF => pv hF hW (y_move hF rfl) fun a hF => pvg hF hW (y_loadAll hF rfl 1 rfl Tryz.underlying49 rfl sz_49) (ws hF rfl rfl) fun a hF => pvg hF hW (y_loadAll hF rfl 0 rfl Tryz.underlying49 rfl sz_49) (ws hF rfl rfl) fun a hF => ?_; refine pe (e_call hF rfl rfl en_21 (by rfl) rfl rfl (same_views (y := VD.zero) (hW.res 2 rfl) (VD.zero_at _) (hva.trans rfl)) ?_) (ws hF rfl rfl); rintro e w1 ⟨rfl, hb⟩; replace hW := hW.kept hb; clear hb; refine ⟨_, rfl, fun a hF => ?_⟩; refine pv hF hW (y_pick hF rfl rfl) fun a hF => ?_; replace hF := hF.drop 6; refine pv hF hW (y_assign hF rfl) fun a hF => l_nil ?_; replace hF := hF.ks [0, 1, 2, 3, 4, 6, 7, 8, 9, 10, 22, 27] rfl; refine t_n <| wp_ret <| ret1 Tryz.results5 hF (rv_t hF rfl) ?_
          exact ⟨rfl, hW.below⟩
        · intro h6 hF; exfalso
          omega
  · have he : viewErr x.sys y.wrl part = chkWorld x.sys y.wrl := viewErr_c hcw
    rw [show viewOr x.sys y.wrl part = Vw.zero from if_neg (by rw [he]; exact hcw), he] at hof
    clear he
    generalize chkWorld x.sys y.wrl = E at *
    rw [x.val_eq, y.val_eq] at *
    refine enter Tryz.func5 rfl Tryz.ntmps5 rfl fun a hF => ?_
    have hW := Wd.start w NoB
    refine c_sr ?_; refine pe (e_box hF hW rfl rfl rfl rfl ?_); intro b1 a wc hF hW; refine pe (e_box hF hW rfl rfl rfl rfl ?_); intro b2 a wc hF hW; refine pv hF hW (y_assign hF rfl) fun a hF => l_nil <| t_n <| c_sr <| pv hF hW (y_loadAll hF rfl 1 rfl Tryz.underlying26 rfl sz_26) fun a hF => pv hF hW (y_loadAll hF rfl 0 rfl Tryz.underlying30 rfl sz_30) fun a hF => pv hF hW (y_move hF rfl) fun a hF => ?_; refine pe (e_call hF rfl rfl en_17 (by rfl) rfl rfl (hof _ hW.below) ?_); rintro e w1 ⟨v, rfl, hva, hb, hr2⟩; replace hW := hW.gotR hb hr2
    obtain ⟨⟨⟨atA, rgA, mmA, rdA, outA, enA⟩, wfA, qaA, qkA⟩, LA, laA, lcA⟩ := v
    obtain ⟨raA, rbA, rcA, reA, hrA⟩ := len_four wfA.1
    obtain ⟨maA, mbA, mcA, mdA, meA, mfA, mgA, mhA, hmA⟩ := len_eight wfA.2
    dsimp only at hrA hmA
    subst hrA hmA; refine ⟨_, rfl, fun a hF => ?_⟩; replace hF := Fr.cast (v' := .tuple #[.agg #[.int .i64 atA, .int .i64 raA, .int .i64 rbA, .int .i64 rcA, .int .i64 reA, .int .i64 maA, .int .i64 mbA, .int .i64 mcA, .int .i64 mdA, .int .i64 meA, .int .i64 mfA, .int .i64 mgA, .int .i64 mhA, .int .i64 rdA, .slice qaA outA.length qkA, .int .i64 enA, .slice laA LA.length lcA], .int .i64 E]) rfl hF; refine pv hF hW (y_move hF rfl) fun a hF => pv hF hW (y_extract hF rfl rfl) fun a hF => pv hF hW (y_extract hF rfl rfl) fun a hF => ?_; refine pe (e_alloc hF hW ze_49 rfl rfl rfl ?_); intro b3 a wc hF hW; refine pe (e_storeAll rfl hF hW rfl rfl 0 rfl rfl rfl (by kernel_rfl) sz_49 ?_); intro wc hW; refine pv hF hW (y_assign hF rfl) fun a hF => l_nil ?_; replace hF := hF.ks [0, 1, 2, 3, 4, 6, 7, 8] rfl; refine t_n <| c_sr <| pv hF hW (y_loadAll hF rfl 3 rfl Tryz.underlying26 rfl sz_26) fun a hF => pv hF hW (y_loadAll hF rfl 2 rfl Tryz.underlying30 rfl sz_30) fun a hF => ?_; refine pe (e_call hF rfl rfl en_10 (by rfl) rfl rfl (hcR _ hW.below) ?_); rintro e w1 ⟨rfl, hb⟩; replace hW := hW.kept hb; clear hb; refine ⟨_, rfl, fun a hF => ?_⟩; refine pv hF hW (y_assign hF rfl) fun a hF => l_nil ?_; replace hF := hF.ks [0, 1, 2, 3, 4, 6, 7, 8, 9] rfl; refine t_n <| c_s <| c_sr <| pv hF hW (y_move hF rfl) fun a hF => pv hF hW (y_eql hF rfl rfl) fun a hF => ?_; refine Fr.splitD hF ?_ ?_
    · intro h4 hF; exfalso
      omega
    · intro h4 hF; refine l_nil ?_; replace hF := hF.ks [0, 1, 2, 3, 4, 6, 7, 8, 9, 22] rfl; refine t_n <| c_f hF rfl <| wp_skip <| t_n <| c_sr ?_; refine pe (e_alloc hF hW ze_49 rfl rfl rfl ?_); intro b5 a wc hF hW; refine l_nil <| t_n <| c_s <| c_sr <| pv hF hW (y_move hF rfl) fun a hF => pv hF hW (y_eql hF rfl rfl) fun a hF => ?_; refine Fr.splitD hF ?_ ?_
      · intro h6 hF; exfalso
        omega
      · intro h6 hF; refine l_nil ?_; replace hF := hF.ks [0, 1, 2, 3, 4, 6, 7, 8, 9, 10, 22, 27] rfl; refine t_n <| c_f hF rfl <| wp_skip <| t_n <| c_sr ?_; refine pe (e_call hF rfl rfl en_20 (by rfl) rfl rfl (viewBegun_any _) ?_); rintro e w1 ⟨rfl, hb⟩; replace hW := hW.kept hb; clear hb; refine ⟨_, rfl, fun a hF => ?_⟩; refine pv hF hW (y_move hF rfl) fun a hF => pvg hF hW (y_move hF rfl) (ws hF rfl rfl) fun a hF => pvg hF hW (y_move hF rfl) (ws hF rfl rfl) fun a hF => pvg hF hW (y_eql hF rfl rfl) (ws hF rfl rfl) fun a hF => ?_; refine Fr.splitD hF ?_ ?_
        · intro h7 hF; refine pv hF hW (y_pick hF rfl rfl) fun a hF => pv hF hW (y_move hF rfl) fun a hF => pvg hF hW (y_loadAll hF rfl 1 rfl Tryz.underlying49 rfl sz_49) (ws hF rfl rfl) fun a hF => pvg hF hW (y_loadAll hF rfl 0 rfl Tryz.underlying49 rfl sz_49) (ws hF rfl rfl) fun a hF => ?_; refine pe (e_call hF rfl rfl en_21 (by rfl) rfl rfl (same_views (y := VD.zero) (hW.res 2 rfl) (VD.zero_at _) (hva.trans rfl)) ?_) (ws hF rfl rfl); rintro e w1 ⟨rfl, hb⟩; replace hW := hW.kept hb; clear hb; refine ⟨_, rfl, fun a hF => ?_⟩; refine pv hF hW (y_pick hF rfl rfl) fun a hF => ?_; replace hF := hF.drop 6; refine pv hF hW (y_assign hF rfl) fun a hF => l_nil ?_; replace hF := hF.ks [0, 1, 2, 3, 4, 6, 7, 8, 9, 10, 22, 27] rfl; refine t_n <| wp_ret <| ret1 Tryz.results5 hF (rv_t hF rfl) ?_
          exact ⟨rfl, hW.below⟩
        · intro h7 hF; exfalso
          omega

set_option maxRecDepth 100000 in
theorem viewTells_contract (H : Type) (enc : TypeId × Value → H) (W : World) (base : Nat) (args : Array Value) (ds gs : List (DataW H)) (before : List MemPlace)
    (hval : ∀ (j : Nat) t v, Tryz.f5.params[j]? = some t → args[j]? = some v → Value.okWide Tryz.prog W .any base t v)
    (hW : DataW.Whole enc Tryz.prog Tryz.f5.params.toList Rows.viewTellsSpec.vars false W args.toList ds gs before) :
    Calls Tryz.prog 5 args W fun e W' => ∃ v, e = .returned v ∧ Rows.viewTellsSpec.post enc Tryz.prog Tryz.f5 false true false false W args v W' := by
  have hW' := hW
  obtain ⟨p, q, hA0, hV, rfl, hfz, hnd⟩ := hW
  have hA : DataW.TrodAll enc Tryz.prog W 0 (fun _ => true) true Tryz.f5.params.toList args.toList ds p := hA0
  rw [Tryz.params5] at hA hval
  obtain ⟨v0, v1, v2, d0, d1, d2, p0, p1, p2, rfl, rfl, rfl, h0, h1, h2⟩ := trodAll_three hA
  obtain ⟨x, rfl, hx⟩ := sys_open (hval 0 26 v0 rfl rfl) h0
  obtain ⟨y, rfl, hy⟩ := wrl_open (hval 1 30 v1 rfl rfl) h1
  obtain ⟨p, rfl, rfl, rfl, wk2⟩ := open_int Tryz.underlying3 (hval 2 3 v2 rfl rfl) h2
  refine (viewTells_run x y p W hx hy).mono fun e W' ⟨he, hb⟩ => ?_
  subst he
  exact ⟨_, rfl, law_post Tryz.laidOut hW' hb rfl (by kernel_rfl) Tryz.underlying4 (by kernel_rfl) rfl⟩

set_option maxRecDepth 100000 in
theorem viewTells_lifted (os : Os) (started : os.Started) (H : Type) (enc : TypeId × Value → H) :
    ReturnsInHanded {} Tryz.checked os 5 .any (Rows.viewTellsSpec.pre6 enc Tryz.prog Tryz.f5 Rows.viewTellsRow.domain false) (Rows.viewTellsSpec.post enc Tryz.prog Tryz.f5 false true false false) := by
  refine returnsInHanded_of_change (C := Tryz.checked) Tryz.own started (by kernel_rfl) Tryz.func5
    (ChangeSpec.witness6 (enc := enc) (C := Tryz.checked) false ⟨#[], #[.agg #[.slice none 0 0, .slice none 0 0, .slice none 0 0], .agg #[.int .i64 0, .slice none 0 0, .slice none 0 0], .int .i64 0], []⟩ 8 (by kernel_rfl) (by kernel_rfl) (by kernel_rfl) (by kernel_rfl)) ?_
  intro W base args ds gs before hval hW _ _
  exact viewTells_contract H enc W base args ds gs before hval hW

theorem viewTells_holds : Rows.ViewTellsSaid :=
  OpenClaim.holds_of_wide 5 Tryz.f5 rfl rfl rfl rfl rfl rfl rfl ⟨rfl, rfl, rfl, rfl, rfl⟩ rfl rfl rfl rfl rfl (by kernel_rfl) Tryz.func5 (by kernel_rfl)
    (of_decide_eq_true (by kernel_rfl)) (by unfold Func.isWrapper; first | (rw [if_pos (by decide +kernel)]; kernel_rfl) | (rw [if_neg (by decide +kernel)]; exact ⟨rfl, rfl⟩))
    (fun os started H enc _ => viewTells_lifted os started H enc)
end Go.Proofs.YtoecpblabajlmaaGreat
