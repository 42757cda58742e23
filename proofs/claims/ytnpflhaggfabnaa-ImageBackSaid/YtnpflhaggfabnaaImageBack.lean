/- The law ImageBack answers true for every input. -/
import Derived.Test.YtnpflhaggfabnaaImgB
namespace Go.Proofs.Ytnpflhaggfabnaa
set_option linter.unusedVariables false
set_option linter.unusedSimpArgs false
open Go.ChangeShapes Go.WideShapes Go.ChangeAt Go.RowKit

set_option maxRecDepth 100000

theorem same_sysB {x y : SysD} {w : World} (hx : x.At w) (hy : y.At w) (h : x.sys = y.sys) : Calls Try.prog 10 #[x.val, y.val] w fun e w' => e = .returned (.bool true) ∧ Below w.heap.size w w' := by
  have := sameSystems_any hx hy
  rwa [decide_eq_true h] at this
theorem read_back {l : List UInt8} (h : readErr l = 0) : chkSys (readTo l) = 0 ∧ imgL (readTo l) = l := by
  unfold readErr at h
  unfold readTo
  by_cases h8 : l.length > 8192
  · rw [if_pos h8] at h; exact absurd h (by decide)
  · rw [if_neg h8] at h ⊢
    cases hr : readL l with
    | none => rw [hr] at h; exact absurd h (by decide)
    | some s =>
      obtain ⟨h1, h2, -⟩ := img_read hr
      exact ⟨h2, h1⟩
set_option maxHeartbeats 8000000 in
theorem imageBack_run (x : SysD) (l : List UInt8) (w : World) (hx : x.At w) (hR : SysR x.sys) :
    Calls Try.prog 4 #[x.val, .string (bstr l)] w fun e w' => e = .returned (.bool true) ∧ Below w.heap.size w w' := by
  have hwr := fun w1 (hb : Below w.heap.size w w1) => imageWrite_any (hx.below hb)
  have hro : chkSys x.sys = 0 → readTo (imgOr x.sys) = x.sys ∧ readErr (imgOr x.sys) = 0 := fun h => by
    unfold imgOr
    rw [if_pos h]
    exact read_of h hR (Nat.le_trans (imgL_len (imgSz h)) (by decide))
  rw [x.val_eq] at *
  refine enter Try.func4 rfl Try.ntmps4 rfl fun a hF => ?_
  have hW := Wd.start w NoB
  refine c_sr ?_; refine pe (e_box hF hW rfl rfl rfl rfl ?_); intro b1 a wc hF hW; refine pv hF hW (y_assign hF rfl) fun a hF => l_nil <| t_n <| c_sr <| pv hF hW (y_loadAll hF rfl 0 rfl Try.underlying26 rfl sz_26) fun a hF => ?_; refine pe (e_call hF rfl rfl en_5 (by rfl) rfl rfl (hwr _ hW.below) ?_); rintro e w1 ⟨rfl, hb⟩; replace hW := hW.kept hb; clear hb; refine ⟨_, rfl, fun a hF => ?_⟩; refine pv hF hW (y_move hF rfl) fun a hF => pv hF hW (y_extract hF rfl rfl) fun a hF => pv hF hW (y_extract hF rfl rfl) fun a hF => pv hF hW (y_assign hF rfl) fun a hF => pv hF hW (y_assign hF rfl) fun a hF => l_nil ?_; replace hF := hF.ks [0, 1, 2, 4, 5, 6] rfl; refine t_n <| c_s <| c_sr <| pv hF hW (y_move hF rfl) fun a hF => pv hF hW (y_eql hF rfl rfl) fun a hF => ?_; refine Fr.splitD hF ?_ ?_
  · intro h2 hF; refine l_nil ?_; replace hF := hF.ks [0, 1, 2, 4, 5, 6, 19] rfl; refine t_n <| c_t hF rfl <| c_sr <| pv hF hW (y_move hF rfl) fun a hF => ?_; refine pe (e_call hF rfl rfl en_8 (by rfl) rfl rfl (imageRead_any) ?_); rintro e w1 ⟨y, rfl, hy, hb, hr⟩; replace hW := hW.gotR hb hr; refine ⟨_, rfl, fun a hF => ?_⟩; replace hF := Fr.cast (v' := .tuple #[.agg #[.slice y.pa y.parts.length y.pc, .slice y.ha y.chans.length y.hc, .slice y.sa y.slots.length y.sc], .int .i64 (readErr (imgOr x.sys))]) rfl hF; refine pv hF hW (y_move hF rfl) fun a hF => pv hF hW (y_extract hF rfl rfl) fun a hF => pv hF hW (y_extract hF rfl rfl) fun a hF => ?_; refine pe (e_alloc hF hW ze_26 rfl rfl rfl ?_); intro b3 a wc hF hW; refine pe (e_storeAll rfl hF hW rfl rfl 0 rfl rfl rfl (by kernel_rfl) sz_26 ?_); intro wc hW; refine pv hF hW (y_assign hF rfl) fun a hF => l_nil ?_; replace hF := hF.ks [0, 1, 2, 4, 5, 6, 7, 8, 19] rfl; refine t_n <| c_sr <| pv hF hW (y_move hF rfl) fun a hF => pv hF hW (y_neq hF rfl rfl) fun a hF => ?_; refine Fr.splitD hF ?_ ?_
    · intro h4 hF; exfalso
      exact h4 (hro (by assumption)).2
    · intro h4 hF; refine pv hF hW (y_move hF rfl) fun a hF => pvg hF hW (y_loadAll hF rfl 0 rfl Try.underlying26 rfl sz_26) (ws hF rfl rfl) fun a hF => pvg hF hW (y_loadAll hF rfl 2 rfl Try.underlying26 rfl sz_26) (ws hF rfl rfl) fun a hF => ?_; refine pe (e_call hF rfl rfl en_10 (by rfl) rfl rfl (same_sysB (hW.res 1 rfl) (hx.below hW.below) (hy.trans (hro (by assumption)).1)) ?_) (ws hF rfl rfl); rintro e w1 ⟨rfl, hb⟩; replace hW := hW.kept hb; clear hb; refine ⟨_, rfl, fun a hF => ?_⟩; refine pvg hF hW (y_not hF rfl) (ws hF rfl rfl) fun a hF => ?_; replace hF := hF.ff; refine pv hF hW (y_pick hF rfl rfl) fun a hF => ?_; replace hF := hF.ff; refine l_nil ?_; replace hF := hF.ks [0, 1, 2, 4, 5, 6, 7, 8, 19, 32] rfl; refine t_n <| c_f hF rfl <| wp_skip <| t_n <| c_sr <| pv hF hW (y_move hF rfl) fun a hF => ?_; refine pe (e_call hF rfl rfl en_8 (by rfl) rfl rfl (imageRead_any) ?_); rintro e w1 ⟨z, rfl, hz, hb, hr⟩; replace hW := hW.gotR hb hr; refine ⟨_, rfl, fun a hF => ?_⟩; replace hF := Fr.cast (v' := .tuple #[.agg #[.slice z.pa z.parts.length z.pc, .slice z.ha z.chans.length z.hc, .slice z.sa z.slots.length z.sc], .int .i64 (readErr l)]) rfl hF; refine pv hF hW (y_move hF rfl) fun a hF => pv hF hW (y_extract hF rfl rfl) fun a hF => pv hF hW (y_extract hF rfl rfl) fun a hF => ?_; refine pe (e_alloc hF hW ze_26 rfl rfl rfl ?_); intro b5 a wc hF hW; refine pe (e_storeAll rfl hF hW rfl rfl 0 rfl rfl rfl (by kernel_rfl) sz_26 ?_); intro wc hW; refine pv hF hW (y_assign hF rfl) fun a hF => l_nil ?_; replace hF := hF.ks [0, 1, 2, 4, 5, 6, 7, 8, 9, 10, 19, 32] rfl; refine t_n <| c_s <| c_sr <| pv hF hW (y_move hF rfl) fun a hF => pv hF hW (y_neq hF rfl rfl) fun a hF => ?_; refine Fr.splitD hF ?_ ?_
      · intro h6 hF; refine l_nil ?_; replace hF := hF.ks [0, 1, 2, 4, 5, 6, 7, 8, 9, 10, 19, 32, 39] rfl; refine t_n <| c_t hF rfl <| c_sr ?_; refine pe (e_call hF rfl rfl en_9 (by rfl) rfl rfl (imageBegun_any _) ?_); rintro e w1 ⟨rfl, hb⟩; replace hW := hW.kept hb; clear hb; refine ⟨_, rfl, fun a hF => ?_⟩; replace hF := hF.drop 4; refine pv hF hW (y_assign hF rfl) fun a hF => l_nil ?_; replace hF := hF.ks [0, 1, 2, 4, 5, 6, 7, 8, 9, 10, 19, 32, 39] rfl; refine t_n <| wp_ret <| t_r <| ret1 Try.results4 hF (rv_t hF rfl) ?_
        exact ⟨rfl, hW.below⟩
      · intro h6 hF; refine l_nil ?_; replace hF := hF.ks [0, 1, 2, 4, 5, 6, 7, 8, 9, 10, 19, 32, 39] rfl; refine t_n <| c_f hF rfl <| wp_skip <| t_n ?_
        obtain ⟨hk1, hk2⟩ := read_back (l := l) (by omega)
        have hz2 : imgOr z.sys = l := (by unfold imgOr; rw [hz, if_pos hk1, hk2])
        rw [← hz] at hk1
        refine c_sr <| pv hF hW (y_loadAll hF rfl 0 rfl Try.underlying26 rfl sz_26) fun a hF => ?_; refine pe (e_call hF rfl rfl en_5 (by rfl) rfl rfl (imageWrite_any (hW.res 1 rfl)) ?_); rintro e w1 ⟨rfl, hb⟩; replace hW := hW.kept hb; clear hb; refine ⟨_, rfl, fun a hF => ?_⟩; refine pv hF hW (y_move hF rfl) fun a hF => pv hF hW (y_extract hF rfl rfl) fun a hF => pv hF hW (y_extract hF rfl rfl) fun a hF => pv hF hW (y_assign hF rfl) fun a hF => pv hF hW (y_assign hF rfl) fun a hF => l_nil ?_; replace hF := hF.ks [0, 1, 2, 4, 5, 6, 7, 8, 9, 10, 11, 12, 19, 32, 39] rfl; refine t_n <| c_sr ?_; refine pe (e_call hF rfl rfl en_9 (by rfl) rfl rfl (imageBegun_any _) ?_); rintro e w1 ⟨rfl, hb⟩; replace hW := hW.kept hb; clear hb; refine ⟨_, rfl, fun a hF => ?_⟩; refine pv hF hW (y_move hF rfl) fun a hF => pvg hF hW (y_move hF rfl) (ws hF rfl rfl) fun a hF => pvg hF hW (y_eql hF rfl rfl) (ws hF rfl rfl) fun a hF => ?_; refine Fr.splitD hF ?_ ?_
        · intro h7 hF; refine pv hF hW (y_pick hF rfl rfl) fun a hF => pv hF hW (y_move hF rfl) fun a hF => pvg hF hW (y_move hF rfl) (ws hF rfl rfl) fun a hF => pvg hF hW (y_move hF rfl) (ws hF rfl rfl) fun a hF => pvg hF hW (y_eqB hF rfl rfl) (ws hF rfl rfl) fun a hF => ?_; refine Fr.splitD hF ?_ ?_
          · intro h8 hF; refine pv hF hW (y_pick hF rfl rfl) fun a hF => ?_; replace hF := hF.drop 4; refine pv hF hW (y_assign hF rfl) fun a hF => l_nil ?_; replace hF := hF.ks [0, 1, 2, 4, 5, 6, 7, 8, 9, 10, 11, 12, 19, 32, 39] rfl; refine t_n <| wp_ret <| ret1 Try.results4 hF (rv_t hF rfl) ?_
            exact ⟨rfl, hW.below⟩
          · intro h8 hF; exfalso
            exact h8 hz2
        · intro h7 hF; exfalso
          exact h7 hk1
  · intro h2 hF; refine l_nil ?_; replace hF := hF.ks [0, 1, 2, 4, 5, 6, 19] rfl; refine t_n <| c_f hF rfl <| wp_skip <| t_n <| c_sr <| pv hF hW (y_move hF rfl) fun a hF => ?_; refine pe (e_call hF rfl rfl en_8 (by rfl) rfl rfl (imageRead_any) ?_); rintro e w1 ⟨z, rfl, hz, hb, hr⟩; replace hW := hW.gotR hb hr; refine ⟨_, rfl, fun a hF => ?_⟩; replace hF := Fr.cast (v' := .tuple #[.agg #[.slice z.pa z.parts.length z.pc, .slice z.ha z.chans.length z.hc, .slice z.sa z.slots.length z.sc], .int .i64 (readErr l)]) rfl hF; refine pv hF hW (y_move hF rfl) fun a hF => pv hF hW (y_extract hF rfl rfl) fun a hF => pv hF hW (y_extract hF rfl rfl) fun a hF => ?_; refine pe (e_alloc hF hW ze_26 rfl rfl rfl ?_); intro b9 a wc hF hW; refine pe (e_storeAll rfl hF hW rfl rfl 0 rfl rfl rfl (by kernel_rfl) sz_26 ?_); intro wc hW; refine pv hF hW (y_assign hF rfl) fun a hF => l_nil ?_; replace hF := hF.ks [0, 1, 2, 4, 5, 6, 9, 10, 19] rfl; refine t_n <| c_s <| c_sr <| pv hF hW (y_move hF rfl) fun a hF => pv hF hW (y_neq hF rfl rfl) fun a hF => ?_; refine Fr.splitD hF ?_ ?_
    · intro h10 hF; refine l_nil ?_; replace hF := hF.ks [0, 1, 2, 4, 5, 6, 9, 10, 19, 39] rfl; refine t_n <| c_t hF rfl <| c_sr ?_; refine pe (e_call hF rfl rfl en_9 (by rfl) rfl rfl (imageBegun_any _) ?_); rintro e w1 ⟨rfl, hb⟩; replace hW := hW.kept hb; clear hb; refine ⟨_, rfl, fun a hF => ?_⟩; replace hF := hF.drop 4; refine pv hF hW (y_assign hF rfl) fun a hF => l_nil ?_; replace hF := hF.ks [0, 1, 2, 4, 5, 6, 9, 10, 19, 39] rfl; refine t_n <| wp_ret <| t_r <| ret1 Try.results4 hF (rv_t hF rfl) ?_
      exact ⟨rfl, hW.below⟩
    · intro h10 hF; refine l_nil ?_; replace hF := hF.ks [0, 1, 2, 4, 5, 6, 9, 10, 19, 39] rfl; refine t_n <| c_f hF rfl <| wp_skip <| t_n ?_
      obtain ⟨hk1, hk2⟩ := read_back (l := l) (by omega)
      have hz2 : imgOr z.sys = l := (by unfold imgOr; rw [hz, if_pos hk1, hk2])
      rw [← hz] at hk1
      refine c_sr <| pv hF hW (y_loadAll hF rfl 0 rfl Try.underlying26 rfl sz_26) fun a hF => ?_; refine pe (e_call hF rfl rfl en_5 (by rfl) rfl rfl (imageWrite_any (hW.res 1 rfl)) ?_); rintro e w1 ⟨rfl, hb⟩; replace hW := hW.kept hb; clear hb; refine ⟨_, rfl, fun a hF => ?_⟩; refine pv hF hW (y_move hF rfl) fun a hF => pv hF hW (y_extract hF rfl rfl) fun a hF => pv hF hW (y_extract hF rfl rfl) fun a hF => pv hF hW (y_assign hF rfl) fun a hF => pv hF hW (y_assign hF rfl) fun a hF => l_nil ?_; replace hF := hF.ks [0, 1, 2, 4, 5, 6, 9, 10, 11, 12, 19, 39] rfl; refine t_n <| c_sr ?_; refine pe (e_call hF rfl rfl en_9 (by rfl) rfl rfl (imageBegun_any _) ?_); rintro e w1 ⟨rfl, hb⟩; replace hW := hW.kept hb; clear hb; refine ⟨_, rfl, fun a hF => ?_⟩; refine pv hF hW (y_move hF rfl) fun a hF => pvg hF hW (y_move hF rfl) (ws hF rfl rfl) fun a hF => pvg hF hW (y_eql hF rfl rfl) (ws hF rfl rfl) fun a hF => ?_; refine Fr.splitD hF ?_ ?_
      · intro h11 hF; refine pv hF hW (y_pick hF rfl rfl) fun a hF => pv hF hW (y_move hF rfl) fun a hF => pvg hF hW (y_move hF rfl) (ws hF rfl rfl) fun a hF => pvg hF hW (y_move hF rfl) (ws hF rfl rfl) fun a hF => pvg hF hW (y_eqB hF rfl rfl) (ws hF rfl rfl) fun a hF => ?_; refine Fr.splitD hF ?_ ?_
        · intro h12 hF; refine pv hF hW (y_pick hF rfl rfl) fun a hF => ?_; replace hF := hF.drop 4; refine pv hF hW (y_assign hF rfl) fun a hF => l_nil ?_; replace hF := hF.ks [0, 1, 2, 4, 5, 6, 9, 10, 11, 12, 19, 39] rfl; refine t_n <| wp_ret <| ret1 Try.results4 hF (rv_t hF rfl) ?_
          exact ⟨rfl, hW.below⟩
        · intro h12 hF; exfalso
          exact h12 hz2
      · intro h11 hF; exfalso
        exact h11 hk1

set_option maxRecDepth 100000 in
theorem imageBack_contract (H : Type) (enc : TypeId × Value → H) (W : World) (base : Nat) (args : Array Value) (ds gs : List (DataW H)) (before : List MemPlace)
    (hval : ∀ (j : Nat) t v, Try.f4.params[j]? = some t → args[j]? = some v → Value.okWide Try.prog W .any base t v)
    (hW : DataW.Whole enc Try.prog Try.f4.params.toList Rows.imageBackSpec.vars false W args.toList ds gs before) :
    Calls Try.prog 4 args W fun e W' => ∃ v, e = .returned v ∧ Rows.imageBackSpec.post enc Try.prog Try.f4 false true false false W args v W' := by
  have hW' := hW
  obtain ⟨p, q, hA0, hV, rfl, hfz, hnd⟩ := hW
  have hA : DataW.TrodAll enc Try.prog W 0 (fun _ => true) true Try.f4.params.toList args.toList ds p := hA0
  rw [Try.params4] at hA hval
  obtain ⟨v0, v1, d0, d1, p0, p1, rfl, rfl, rfl, h0, h1⟩ := trodAll_two hA
  obtain ⟨x, rfl, hx, hR⟩ := sysR_open (hval 0 26 v0 rfl rfl) h0
  obtain ⟨l, rfl⟩ := str_open (hval 1 9 v1 rfl rfl) h1
  refine (imageBack_run x l W hx hR).mono fun e W' ⟨he, hb⟩ => ?_
  subst he
  exact ⟨_, rfl, law_post Try.laidOut hW' hb rfl (by kernel_rfl) Try.underlying4 (by kernel_rfl) rfl⟩

set_option maxRecDepth 100000 in
theorem imageBack_lifted (os : Os) (started : os.Started) (H : Type) (enc : TypeId × Value → H) :
    ReturnsInHanded {} Try.checked os 4 .any (Rows.imageBackSpec.pre6 enc Try.prog Try.f4 Rows.imageBackRow.domain false) (Rows.imageBackSpec.post enc Try.prog Try.f4 false true false false) := by
  refine returnsInHanded_of_change (C := Try.checked) Try.own started (by kernel_rfl) Try.func4
    (ChangeSpec.witness6 (enc := enc) (C := Try.checked) false ⟨#[], #[.agg #[.slice none 0 0, .slice none 0 0, .slice none 0 0], .string ⟨#[]⟩], []⟩ 8 (by kernel_rfl) (by kernel_rfl) (by kernel_rfl) (by kernel_rfl)) ?_
  intro W base args ds gs before hval hW _ _
  exact imageBack_contract H enc W base args ds gs before hval hW

theorem imageBack_holds : Rows.ImageBackSaid :=
  OpenClaim.holds_of_wide 4 Try.f4 rfl rfl rfl rfl rfl rfl rfl ⟨rfl, rfl, rfl, rfl, rfl⟩ rfl rfl rfl rfl rfl (by kernel_rfl) Try.func4 (by kernel_rfl)
    (of_decide_eq_true (by kernel_rfl)) (by unfold Func.isWrapper; first | (rw [if_pos (by decide +kernel)]; kernel_rfl) | (rw [if_neg (by decide +kernel)]; exact ⟨rfl, rfl⟩))
    (fun os started H enc _ => imageBack_lifted os started H enc)
end Go.Proofs.Ytnpflhaggfabnaa
