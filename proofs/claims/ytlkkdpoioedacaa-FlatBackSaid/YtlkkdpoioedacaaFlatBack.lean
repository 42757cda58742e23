/- The law FlatBack answers true for every input. -/
import Derived.Test.YtlkkdpoioedacaaFlatI
namespace Go.Proofs.Ytlkkdpoioedacaa
set_option linter.unusedVariables false
set_option linter.unusedSimpArgs false
open Go.ChangeShapes Go.WideShapes Go.ChangeAt Go.RowKit

set_option maxRecDepth 100000

theorem intsArg {H : Type} {enc : TypeId × Value → H} {w : World} {base base' : Nat} {r : Reach} {spare : Nat → Bool} {held : Bool} {v : Value} {d : DataW H} {p : List MemPlace}
    (hv : Value.okWide Try.prog w r base' 42 v) (h : DataW.Trod enc Try.prog w base spare held 42 v d p) : ∃ l, Ints w v l := by
  obtain ⟨A, n, c, rfl⟩ := okWide_slice Try.underlying42 hv
  obtain ⟨u, l, e, hl⟩ := Rd.intsS (d := 0) Try.underlying42 Try.underlying3 (by kernel_rfl) (rd_of 2 h)
  have e' : [Value.slice A n c] = [u] := e
  obtain rfl : Value.slice A n c = u := by simpa using e'
  exact ⟨l, hl⟩
theorem lift_zero {s : Sys} {l : List Int} (h : liftErr s l = 0) : chkWorld s (liftTo s l) = 0 ∧ rowL (liftTo s l) = l := by
  unfold liftErr at h
  unfold liftTo
  by_cases hk : chkSys s = 0
  · rw [if_pos hk] at h ⊢
    cases ho : liftOf s l with
    | none => rw [ho] at h; exact absurd h (by decide)
    | some W =>
      rw [Option.getD_some]
      unfold liftOf at ho
      cases hl : liftL s.parts.length s.chans.length l with
      | none => rw [hl] at ho; cases ho
      | some V =>
        rw [hl, Option.bind_some] at ho
        split at ho
        · rename_i hc
          cases ho
          exact ⟨hc, (lift_inv hl).1.symm⟩
        · cases ho
  · rw [if_neg hk] at h
    exact absurd h hk
set_option maxHeartbeats 8000000 in
theorem flatBack_run (x : SysD) (y : WD) (l : List Int) (v : Value) (w : World) (hx : x.At w) (hy : y.At w) (hl : Ints w v l) :
    Calls Try.prog 11 #[x.val, y.val, v] w fun e w' => e = .returned (.bool true) ∧ Below w.heap.size w w' := by
  obtain ⟨A, c, rfl⟩ := hl.form rfl
  have hlay := fun w1 (hb : Below w.heap.size w w1) (z : WD) (hz : z.At w1) => flatLay_any (hx.below hb) hz
  have hlift := fun w1 (hb : Below w.heap.size w w1) (m : List Int) (A : Option Addr) (c : Nat) (hm : Ints w1 (.slice A m.length c) m) => flatLift_any (hx.below hb) hm
  rw [x.val_eq, y.val_eq] at *
  refine enter Try.func11 rfl Try.ntmps11 rfl fun a hF => ?_
  have hW := Wd.start w NoB
  refine c_sr ?_; refine pe (e_box hF hW rfl rfl rfl rfl ?_); intro b1 a wc hF hW; refine pe (e_box hF hW rfl rfl rfl rfl ?_); intro b2 a wc hF hW; refine pv hF hW (y_assign hF rfl) fun a hF => l_nil <| t_n <| c_sr <| pv hF hW (y_loadAll hF rfl 1 rfl Try.underlying26 rfl sz_26) fun a hF => pv hF hW (y_loadAll hF rfl 0 rfl Try.underlying78 rfl sz_78) fun a hF => ?_; refine pe (e_call hF rfl rfl en_38 (by rfl) rfl rfl (hlay _ hW.below y (hy.below hW.below)) ?_); rintro e w1 ⟨L, A1, c1, rfl, hL0, hb, hr⟩; replace hW := hW.gotR hb hr; refine ⟨_, rfl, fun a hF => ?_⟩; refine pv hF hW (y_move hF rfl) fun a hF => pv hF hW (y_extract hF rfl rfl) fun a hF => pv hF hW (y_extract hF rfl rfl) fun a hF => pv hF hW (y_assign hF rfl) fun a hF => pv hF hW (y_assign hF rfl) fun a hF => l_nil ?_; replace hF := hF.ks [0, 1, 2, 3, 4, 6, 7, 8] rfl; refine t_n <| c_s <| c_sr <| pv hF hW (y_move hF rfl) fun a hF => pv hF hW (y_eql hF rfl rfl) fun a hF => ?_; refine Fr.splitD hF ?_ ?_
  · intro h3 hF; refine l_nil ?_; replace hF := hF.ks [0, 1, 2, 3, 4, 6, 7, 8, 22] rfl; refine t_n <| c_t hF rfl ?_
    have hk0 : chkWorld x.sys y.wrl = 0 := (by omega)
    have hL1 : L = rowL y.wrl := hL0.trans (if_pos hk0)
    have hlo : liftOf x.sys L = some y.wrl := (by rw [hL1]; exact lift_lay hk0)
    have hE0 : liftErr x.sys L = 0 := (by unfold liftErr; rw [if_pos (world_small hk0).1, hlo]; rfl)
    have hT0 : liftTo x.sys L = y.wrl := (by unfold liftTo; rw [if_pos (world_small hk0).1, hlo]; rfl)
    refine c_sr <| pv hF hW (y_loadAll hF rfl 2 rfl Try.underlying26 rfl sz_26) fun a hF => pv hF hW (y_move hF rfl) fun a hF => ?_; refine pe (e_call hF rfl rfl en_39 (by rfl) rfl rfl (hlift _ hW.below L A1 c1 (hW.res 0 rfl)) ?_); rintro e w1 ⟨z, rfl, hz, hb, hr⟩; replace hW := hW.gotR hb hr; refine ⟨_, rfl, fun a hF => ?_⟩; replace hF := Fr.cast (v' := .tuple #[.agg #[.int .i64 z.tick, .slice z.ca z.cells.length z.cc, .slice z.la z.lines.length z.lc], .int .i64 (liftErr x.sys L)]) rfl hF; refine pv hF hW (y_move hF rfl) fun a hF => pv hF hW (y_extract hF rfl rfl) fun a hF => pv hF hW (y_extract hF rfl rfl) fun a hF => ?_; refine pe (e_alloc hF hW ze_78 rfl rfl rfl ?_); intro b4 a wc hF hW; refine pe (e_storeAll rfl hF hW rfl rfl 0 rfl rfl rfl (by kernel_rfl) sz_78 ?_); intro wc hW; refine pv hF hW (y_assign hF rfl) fun a hF => l_nil ?_; replace hF := hF.ks [0, 1, 2, 3, 4, 6, 7, 8, 9, 10, 22] rfl; refine t_n <| c_sr <| pv hF hW (y_move hF rfl) fun a hF => pv hF hW (y_neq hF rfl rfl) fun a hF => ?_; refine Fr.splitD hF ?_ ?_
    · intro h5 hF; exfalso
      omega
    · intro h5 hF; refine pv hF hW (y_move hF rfl) fun a hF => pvg hF hW (y_loadAll hF rfl 0 rfl Try.underlying78 rfl sz_78) (ws hF rfl rfl) fun a hF => pvg hF hW (y_loadAll hF rfl 3 rfl Try.underlying78 rfl sz_78) (ws hF rfl rfl) fun a hF => ?_; refine pe (e_call hF rfl rfl en_40 (by rfl) rfl rfl (same_worlds (hW.res 1 rfl) (hy.below hW.below) (hz.trans hT0)) ?_) (ws hF rfl rfl); rintro e w1 ⟨rfl, hb⟩; replace hW := hW.kept hb; clear hb; refine ⟨_, rfl, fun a hF => ?_⟩; refine pvg hF hW (y_not hF rfl) (ws hF rfl rfl) fun a hF => ?_; replace hF := hF.ff; refine pv hF hW (y_pick hF rfl rfl) fun a hF => ?_; replace hF := hF.ff; refine l_nil ?_; replace hF := hF.ks [0, 1, 2, 3, 4, 6, 7, 8, 9, 10, 22, 36] rfl; refine t_n <| c_f hF rfl <| wp_skip <| t_n <| c_sr <| pv hF hW (y_loadAll hF rfl 4 rfl Try.underlying26 rfl sz_26) fun a hF => pv hF hW (y_move hF rfl) fun a hF => ?_; refine pe (e_call hF rfl rfl en_39 (by rfl) rfl rfl (hlift _ hW.below l A c (hl.below hW.below)) ?_); rintro e w1 ⟨z2, rfl, hz2, hb, hr⟩; replace hW := hW.gotR hb hr; refine ⟨_, rfl, fun a hF => ?_⟩; replace hF := Fr.cast (v' := .tuple #[.agg #[.int .i64 z2.tick, .slice z2.ca z2.cells.length z2.cc, .slice z2.la z2.lines.length z2.lc], .int .i64 (liftErr x.sys l)]) rfl hF; refine pv hF hW (y_move hF rfl) fun a hF => pv hF hW (y_extract hF rfl rfl) fun a hF => pv hF hW (y_extract hF rfl rfl) fun a hF => ?_; refine pe (e_alloc hF hW ze_78 rfl rfl rfl ?_); intro b6 a wc hF hW; refine pe (e_storeAll rfl hF hW rfl rfl 0 rfl rfl rfl (by kernel_rfl) sz_78 ?_); intro wc hW; refine pv hF hW (y_assign hF rfl) fun a hF => l_nil ?_; replace hF := hF.ks [0, 1, 2, 3, 4, 6, 7, 8, 9, 10, 11, 12, 22, 36] rfl; refine t_n <| c_s <| c_sr <| pv hF hW (y_move hF rfl) fun a hF => pv hF hW (y_neq hF rfl rfl) fun a hF => ?_; refine Fr.splitD hF ?_ ?_
      · intro h7 hF; refine l_nil ?_; replace hF := hF.ks [0, 1, 2, 3, 4, 6, 7, 8, 9, 10, 11, 12, 22, 36, 44] rfl; refine t_n <| c_t hF rfl <| c_sr ?_; refine pe (e_call hF rfl rfl en_41 (by rfl) rfl rfl (flatBegun_any _) ?_); rintro e w1 ⟨rfl, hb⟩; replace hW := hW.kept hb; clear hb; refine ⟨_, rfl, fun a hF => ?_⟩; replace hF := hF.drop 6; refine pv hF hW (y_assign hF rfl) fun a hF => l_nil ?_; replace hF := hF.ks [0, 1, 2, 3, 4, 6, 7, 8, 9, 10, 11, 12, 22, 36, 44] rfl; refine t_n <| wp_ret <| t_r <| ret1 Try.results11 hF (rv_t hF rfl) ?_
        exact ⟨rfl, hW.below⟩
      · intro h7 hF; refine l_nil ?_; replace hF := hF.ks [0, 1, 2, 3, 4, 6, 7, 8, 9, 10, 11, 12, 22, 36, 44] rfl; refine t_n <| c_f hF rfl <| wp_skip <| t_n ?_
        obtain ⟨hc2, hl2⟩ := lift_zero (show liftErr x.sys l = 0 by omega)
        rw [← hz2] at hc2 hl2
        refine c_sr <| pv hF hW (y_loadAll hF rfl 6 rfl Try.underlying26 rfl sz_26) fun a hF => pv hF hW (y_loadAll hF rfl 0 rfl Try.underlying78 rfl sz_78) fun a hF => ?_; refine pe (e_call hF rfl rfl en_38 (by rfl) rfl rfl (hlay _ hW.below z2 (hW.res 1 rfl)) ?_); rintro e w1 ⟨L2, A2, c2, rfl, hL2, hb, hr⟩; replace hW := hW.gotR hb hr; refine ⟨_, rfl, fun a hF => ?_⟩; refine pv hF hW (y_move hF rfl) fun a hF => pv hF hW (y_extract hF rfl rfl) fun a hF => pv hF hW (y_extract hF rfl rfl) fun a hF => pv hF hW (y_assign hF rfl) fun a hF => pv hF hW (y_assign hF rfl) fun a hF => l_nil ?_; replace hF := hF.ks [0, 1, 2, 3, 4, 6, 7, 8, 9, 10, 11, 12, 13, 14, 22, 36, 44] rfl; refine t_n <| c_sr ?_; refine pe (e_call hF rfl rfl en_41 (by rfl) rfl rfl (flatBegun_any _) ?_); rintro e w1 ⟨rfl, hb⟩; replace hW := hW.kept hb; clear hb; refine ⟨_, rfl, fun a hF => ?_⟩; refine pv hF hW (y_move hF rfl) fun a hF => pvg hF hW (y_move hF rfl) (ws hF rfl rfl) fun a hF => pvg hF hW (y_eql hF rfl rfl) (ws hF rfl rfl) fun a hF => ?_; refine Fr.splitD hF ?_ ?_
        · intro h8 hF; refine pv hF hW (y_pick hF rfl rfl) fun a hF => pv hF hW (y_move hF rfl) fun a hF => pvg hF hW (y_move hF rfl) (ws hF rfl rfl) fun a hF => pvg hF hW (y_move hF rfl) (ws hF rfl rfl) fun a hF => ?_; refine pe (e_call hF rfl rfl en_22 (by rfl) rfl rfl (same_ints (hW.res 0 rfl) (hl.below hW.below) (hL2.trans ((if_pos hc2).trans hl2))) ?_) (ws hF rfl rfl); rintro e w1 ⟨rfl, hb⟩; replace hW := hW.kept hb; clear hb; refine ⟨_, rfl, fun a hF => ?_⟩; refine pv hF hW (y_pick hF rfl rfl) fun a hF => ?_; replace hF := hF.drop 6; refine pv hF hW (y_assign hF rfl) fun a hF => l_nil ?_; replace hF := hF.ks [0, 1, 2, 3, 4, 6, 7, 8, 9, 10, 11, 12, 13, 14, 22, 36, 44] rfl; refine t_n <| wp_ret <| ret1 Try.results11 hF (rv_t hF rfl) ?_
          exact ⟨rfl, hW.below⟩
        · intro h8 hF; exfalso
          exact h8 hc2
  · intro h3 hF; refine l_nil ?_; replace hF := hF.ks [0, 1, 2, 3, 4, 6, 7, 8, 22] rfl; refine t_n <| c_f hF rfl <| wp_skip <| t_n <| c_sr <| pv hF hW (y_loadAll hF rfl 2 rfl Try.underlying26 rfl sz_26) fun a hF => pv hF hW (y_move hF rfl) fun a hF => ?_; refine pe (e_call hF rfl rfl en_39 (by rfl) rfl rfl (hlift _ hW.below l A c (hl.below hW.below)) ?_); rintro e w1 ⟨z2, rfl, hz2, hb, hr⟩; replace hW := hW.gotR hb hr; refine ⟨_, rfl, fun a hF => ?_⟩; replace hF := Fr.cast (v' := .tuple #[.agg #[.int .i64 z2.tick, .slice z2.ca z2.cells.length z2.cc, .slice z2.la z2.lines.length z2.lc], .int .i64 (liftErr x.sys l)]) rfl hF; refine pv hF hW (y_move hF rfl) fun a hF => pv hF hW (y_extract hF rfl rfl) fun a hF => pv hF hW (y_extract hF rfl rfl) fun a hF => ?_; refine pe (e_alloc hF hW ze_78 rfl rfl rfl ?_); intro b9 a wc hF hW; refine pe (e_storeAll rfl hF hW rfl rfl 0 rfl rfl rfl (by kernel_rfl) sz_78 ?_); intro wc hW; refine pv hF hW (y_assign hF rfl) fun a hF => l_nil ?_; replace hF := hF.ks [0, 1, 2, 3, 4, 6, 7, 8, 11, 12, 22] rfl; refine t_n <| c_s <| c_sr <| pv hF hW (y_move hF rfl) fun a hF => pv hF hW (y_neq hF rfl rfl) fun a hF => ?_; refine Fr.splitD hF ?_ ?_
    · intro h10 hF; refine l_nil ?_; replace hF := hF.ks [0, 1, 2, 3, 4, 6, 7, 8, 11, 12, 22, 44] rfl; refine t_n <| c_t hF rfl <| c_sr ?_; refine pe (e_call hF rfl rfl en_41 (by rfl) rfl rfl (flatBegun_any _) ?_); rintro e w1 ⟨rfl, hb⟩; replace hW := hW.kept hb; clear hb; refine ⟨_, rfl, fun a hF => ?_⟩; replace hF := hF.drop 6; refine pv hF hW (y_assign hF rfl) fun a hF => l_nil ?_; replace hF := hF.ks [0, 1, 2, 3, 4, 6, 7, 8, 11, 12, 22, 44] rfl; refine t_n <| wp_ret <| t_r <| ret1 Try.results11 hF (rv_t hF rfl) ?_
      exact ⟨rfl, hW.below⟩
    · intro h10 hF; refine l_nil ?_; replace hF := hF.ks [0, 1, 2, 3, 4, 6, 7, 8, 11, 12, 22, 44] rfl; refine t_n <| c_f hF rfl <| wp_skip <| t_n ?_
      obtain ⟨hc2, hl2⟩ := lift_zero (show liftErr x.sys l = 0 by omega)
      rw [← hz2] at hc2 hl2
      refine c_sr <| pv hF hW (y_loadAll hF rfl 4 rfl Try.underlying26 rfl sz_26) fun a hF => pv hF hW (y_loadAll hF rfl 0 rfl Try.underlying78 rfl sz_78) fun a hF => ?_; refine pe (e_call hF rfl rfl en_38 (by rfl) rfl rfl (hlay _ hW.below z2 (hW.res 1 rfl)) ?_); rintro e w1 ⟨L2, A2, c2, rfl, hL2, hb, hr⟩; replace hW := hW.gotR hb hr; refine ⟨_, rfl, fun a hF => ?_⟩; refine pv hF hW (y_move hF rfl) fun a hF => pv hF hW (y_extract hF rfl rfl) fun a hF => pv hF hW (y_extract hF rfl rfl) fun a hF => pv hF hW (y_assign hF rfl) fun a hF => pv hF hW (y_assign hF rfl) fun a hF => l_nil ?_; replace hF := hF.ks [0, 1, 2, 3, 4, 6, 7, 8, 11, 12, 13, 14, 22, 44] rfl; refine t_n <| c_sr ?_; refine pe (e_call hF rfl rfl en_41 (by rfl) rfl rfl (flatBegun_any _) ?_); rintro e w1 ⟨rfl, hb⟩; replace hW := hW.kept hb; clear hb; refine ⟨_, rfl, fun a hF => ?_⟩; refine pv hF hW (y_move hF rfl) fun a hF => pvg hF hW (y_move hF rfl) (ws hF rfl rfl) fun a hF => pvg hF hW (y_eql hF rfl rfl) (ws hF rfl rfl) fun a hF => ?_; refine Fr.splitD hF ?_ ?_
      · intro h11 hF; refine pv hF hW (y_pick hF rfl rfl) fun a hF => pv hF hW (y_move hF rfl) fun a hF => pvg hF hW (y_move hF rfl) (ws hF rfl rfl) fun a hF => pvg hF hW (y_move hF rfl) (ws hF rfl rfl) fun a hF => ?_; refine pe (e_call hF rfl rfl en_22 (by rfl) rfl rfl (same_ints (hW.res 0 rfl) (hl.below hW.below) (hL2.trans ((if_pos hc2).trans hl2))) ?_) (ws hF rfl rfl); rintro e w1 ⟨rfl, hb⟩; replace hW := hW.kept hb; clear hb; refine ⟨_, rfl, fun a hF => ?_⟩; refine pv hF hW (y_pick hF rfl rfl) fun a hF => ?_; replace hF := hF.drop 6; refine pv hF hW (y_assign hF rfl) fun a hF => l_nil ?_; replace hF := hF.ks [0, 1, 2, 3, 4, 6, 7, 8, 11, 12, 13, 14, 22, 44] rfl; refine t_n <| wp_ret <| ret1 Try.results11 hF (rv_t hF rfl) ?_
        exact ⟨rfl, hW.below⟩
      · intro h11 hF; exfalso
        exact h11 hc2

set_option maxRecDepth 100000 in
theorem flatBack_contract (H : Type) (enc : TypeId × Value → H) (W : World) (base : Nat) (args : Array Value) (ds gs : List (DataW H)) (before : List MemPlace)
    (hval : ∀ (j : Nat) t v, Try.f11.params[j]? = some t → args[j]? = some v → Value.okWide Try.prog W .any base t v)
    (hW : DataW.Whole enc Try.prog Try.f11.params.toList Rows.flatBackSpec.vars false W args.toList ds gs before) :
    Calls Try.prog 11 args W fun e W' => ∃ v, e = .returned v ∧ Rows.flatBackSpec.post enc Try.prog Try.f11 false true false false W args v W' := by
  have hW' := hW
  obtain ⟨p, q, hA0, hV, rfl, hfz, hnd⟩ := hW
  have hA : DataW.TrodAll enc Try.prog W 0 (fun _ => true) true Try.f11.params.toList args.toList ds p := hA0
  rw [Try.params11] at hA hval
  obtain ⟨v0, v1, v2, d0, d1, d2, p0, p1, p2, rfl, rfl, rfl, h0, h1, h2⟩ := trodAll_three hA
  obtain ⟨x, rfl, hx⟩ := sys_open (hval 0 26 v0 rfl rfl) h0
  obtain ⟨y, rfl, hy⟩ := wrl_open (hval 1 78 v1 rfl rfl) h1
  obtain ⟨l, hl⟩ := intsArg (hval 2 42 v2 rfl rfl) h2
  refine (flatBack_run x y l _ W hx hy hl).mono fun e W' ⟨he, hb⟩ => ?_
  subst he
  exact ⟨_, rfl, law_post Try.laidOut hW' hb rfl (by kernel_rfl) Try.underlying4 (by kernel_rfl) rfl⟩

set_option maxRecDepth 100000 in
theorem flatBack_lifted (os : Os) (started : os.Started) (H : Type) (enc : TypeId × Value → H) :
    ReturnsInHanded {} Try.checked os 11 .any (Rows.flatBackSpec.pre6 enc Try.prog Try.f11 Rows.flatBackRow.domain false) (Rows.flatBackSpec.post enc Try.prog Try.f11 false true false false) := by
  refine returnsInHanded_of_change (C := Try.checked) Try.own started (by kernel_rfl) Try.func11
    (ChangeSpec.witness6 (enc := enc) (C := Try.checked) false ⟨#[], #[.agg #[.slice none 0 0, .slice none 0 0, .slice none 0 0], .agg #[.int .i64 0, .slice none 0 0, .slice none 0 0], .slice none 0 0], []⟩ 8 (by kernel_rfl) (by kernel_rfl) (by kernel_rfl) (by kernel_rfl)) ?_
  intro W base args ds gs before hval hW _ _
  exact flatBack_contract H enc W base args ds gs before hval hW

theorem flatBack_holds : Rows.FlatBackSaid :=
  OpenClaim.holds_of_wide 11 Try.f11 rfl rfl rfl rfl rfl rfl rfl ⟨rfl, rfl, rfl, rfl, rfl⟩ rfl rfl rfl rfl rfl (by kernel_rfl) Try.func11 (by kernel_rfl)
    (of_decide_eq_true (by kernel_rfl)) (by unfold Func.isWrapper; first | (rw [if_pos (by decide +kernel)]; kernel_rfl) | (rw [if_neg (by decide +kernel)]; exact ⟨rfl, rfl⟩))
    (fun os started H enc _ => flatBack_lifted os started H enc)
end Go.Proofs.Ytlkkdpoioedacaa
