/- The law FlatOwns answers true for every input. -/
import Derived.Test.YtnpflhaggfabnaaGreatFlatI
import Derived.Test.YtnpflhaggfabnaaGreatFlatO
namespace Go.Proofs.YtnpflhaggfabnaaGreat
set_option linter.unusedVariables false
set_option linter.unusedSimpArgs false
open Go.ChangeShapes Go.WideShapes Go.ChangeAt Go.RowKit

set_option maxRecDepth 100000

set_option maxHeartbeats 8000000 in
theorem flatOwns_run (x : SysD) (p : Int) (w : World) (hx : x.At w) :
    Calls Tryz.prog 4 #[x.val, .int .i64 p] w fun e w' => e = .returned (.bool true) ∧ Below w.heap.size w w' := by
  have hth := fun w1 (hb : Below w.heap.size w w1) => thereRR_any (hx.below hb) p
  have hof := fun w1 (hb : Below w.heap.size w w1) hk => ownOf_any (hx.below hb) p hk
  have hown : ∀ w1, Below w.heap.size w w1 → Calls Tryz.prog 15 #[x.val, .int .i64 p] w1 fun e w' => ∃ A c, e = .returned (.tuple #[.slice A (ownOr x.sys p).length c, .int .i64 (thereErr x.sys p)]) ∧ Below w1.heap.size w1 w' ∧ OwnRes w1 w' (fun u => Flat encB 1 u (.slice A (ownOr x.sys p).length c) (ownOr x.sys p)) := fun w1 hb => (flatOwn_any (hx.below hb) p).mono fun e w' h => by
    obtain ⟨bs, A, c, rfl, rfl, h1, h2⟩ := h
    exact ⟨A, c, rfl, h1, h2⟩
  unfold ownOr at hown
  by_cases h0 : thereErr x.sys p = 0
  · have hk : chkSys x.sys = 0 := (there_zero h0).1
    rw [h0] at hth hown
    simp only [if_true] at hown
    have hLl : (ownL x.sys p).length ≤ 200 := by
      obtain ⟨⟨hq1, hq2⟩, hc6, -⟩ := sizes_get (chkSys_zero hk).1
      have hc7 : x.chans.length ≤ 6 := hc6
      have hsl : x.sys.parts.length = x.parts.length := by simp [SysD.sys]
      have hsc : x.sys.chans.length = x.chans.length := rfl
      unfold ownL
      rw [List.length_append, List.length_cons, own_len1, own_len2]
      omega
    generalize ownL x.sys p = L at *
    rw [x.val_eq] at *
    refine enter Tryz.func4 rfl Tryz.ntmps4 rfl fun a hF => ?_
    have hW := Wd.start w NoB
    refine c_sr ?_; refine pe (e_box hF hW rfl rfl rfl rfl ?_); intro b1 a wc hF hW; refine pv hF hW (y_assign hF rfl) fun a hF => l_nil <| t_n <| c_sr <| pv hF hW (y_loadAll hF rfl 0 rfl Tryz.underlying26 rfl sz_26) fun a hF => pv hF hW (y_move hF rfl) fun a hF => ?_; refine pe (e_call hF rfl rfl en_15 (by rfl) rfl rfl (hown _ hW.below) ?_); rintro e w1 ⟨A1, c1, rfl, hb, hr⟩; replace hW := hW.gotR hb hr; refine ⟨_, rfl, fun a hF => ?_⟩; refine pv hF hW (y_move hF rfl) fun a hF => pv hF hW (y_extract hF rfl rfl) fun a hF => pv hF hW (y_extract hF rfl rfl) fun a hF => pv hF hW (y_assign hF rfl) fun a hF => pv hF hW (y_assign hF rfl) fun a hF => l_nil ?_; replace hF := hF.ks [0, 1, 2, 4, 5, 6] rfl; refine t_n <| c_sr <| pv hF hW (y_loadAll hF rfl 1 rfl Tryz.underlying26 rfl sz_26) fun a hF => pv hF hW (y_move hF rfl) fun a hF => ?_; refine pe (e_call hF rfl rfl en_16 (by rfl) rfl rfl (hth _ hW.below) ?_); rintro e w1 ⟨rfl, hb⟩; replace hW := hW.kept hb; clear hb; refine ⟨_, rfl, fun a hF => ?_⟩; refine pv hF hW (y_assign hF rfl) fun a hF => l_nil ?_; replace hF := hF.ks [0, 1, 2, 4, 5, 6, 7] rfl; refine t_n <| c_sr <| pv hF hW (y_assign hF rfl) fun a hF => l_nil <| t_n <| c_s <| c_sr <| pv hF hW (y_move hF rfl) fun a hF => pv hF hW (y_eql hF rfl rfl) fun a hF => ?_; replace hF := hF.tt; refine l_nil ?_; replace hF := hF.ks [0, 1, 2, 4, 5, 6, 7, 8, 20] rfl; refine t_n <| c_t hF rfl <| c_r <| pv hF hW (y_loadAll hF rfl 1 rfl Tryz.underlying26 rfl sz_26) fun a hF => pv hF hW (y_move hF rfl) fun a hF => ?_; refine pe (e_call hF rfl rfl en_17 (by rfl) rfl rfl (hof _ hW.below hk) ?_); rintro e w1 ⟨A2, c2, rfl, hb, hr⟩; replace hW := hW.gotR hb hr; refine ⟨_, rfl, fun a hF => ?_⟩; replace hF := hF.drop 8; refine pv hF hW (y_assign hF rfl) fun a hF => l_nil ?_; replace hF := hF.ks [0, 1, 2, 4, 5, 6, 7, 8, 20] rfl; refine t_n <| c_s <| c_sr <| pv hF hW (y_move hF rfl) fun a hF => pv hF hW (y_len hF rfl Tryz.underlying46) fun a hF => pv hF hW (y_move hF rfl) fun a hF => pv hF hW (y_len hF rfl Tryz.underlying46) fun a hF => pv hF hW (y_neq hF rfl rfl) fun a hF => ?_; refine Fr.splitD hF ?_ ?_
    · intro h2 hF; exfalso
      exact h2 rfl
    · intro h2 hF; refine l_nil ?_; replace hF := hF.ks [0, 1, 2, 4, 5, 6, 7, 8, 20, 28] rfl; refine t_n <| c_f hF rfl <| wp_skip <| t_n <| c_s <| c_sr <| pv hF hW (y_assign hF rfl) fun a hF => l_nil <| t_n <| wp_block ?_; refine c_loop (G := Nat) (fun k : Nat => [(9, .int .i64 (k : Int))]) (fun k : Nat => []) (fun k : Nat => k ≤ L.length) (fun k : Nat => L.length - k) 0 (hF.ks [0, 1, 2, 5, 6, 7, 8, 20, 28] rfl) (Fr.cons hF (t := 9) rfl (by first | rfl | (simp; done)) (Fr.nil hF)) (hW) ?_ ?_
      · omega
      clear hF hW
      try clear a
      intro k a wc hC hF hW
      have hkl := hC
      refine c_s <| c_sr <| pv hF hW (y_move hF rfl) fun a hF => pv hF hW (y_move hF rfl) fun a hF => pv hF hW (y_len hF rfl Tryz.underlying46) fun a hF => pv hF hW (y_lss hF rfl rfl) fun a hF => ?_; refine Fr.splitD hF ?_ ?_
      · intro h3 hF; refine l_nil ?_; replace hF := hF.ks [0, 1, 2, 5, 6, 7, 8, 9, 20, 28, 32] rfl; refine t_n <| c_t hF rfl <| wp_skip <| t_n <| c_s <| wp_block ?_
        have hk1 : k < L.length := (by omega)
        refine c_sd mixed_ok hW (hW) ?_
        clear hW; intro wc hW hS
        refine dv 0 rfl hF hS (y_move hF rfl) fun a hF => dv 1 rfl hF hS (y_move hF rfl) fun a hF => dv 2 rfl hF hS (y_indexS hF rfl rfl (by exact hk1) Tryz.underlying46 sz_4 (fun w h => (h.res 1 rfl)|> own_rf)) fun a hF => dv 3 rfl hF hS (y_loadRow hF rfl (fun w h => (h.res 1 rfl)|> own_rf) (by exact hk1) rfl Tryz.underlying4 rfl) fun a hF => dv 4 rfl hF hS (y_move hF rfl) fun a hF => dv 5 rfl hF hS (y_move hF rfl) fun a hF => dv 6 rfl hF hS (y_indexS hF rfl rfl (by exact hk1) Tryz.underlying46 sz_4 (fun w h => (h.res 0 rfl)|> own_rf)) fun a hF => dv 7 rfl hF hS (y_loadRow hF rfl (fun w h => (h.res 0 rfl)|> own_rf) (by exact hk1) rfl Tryz.underlying4 rfl) fun a hF => dv 8 rfl hF hS (y_neb hF rfl rfl Tryz.underlying4) fun a hF => ?_; refine Fr.splitB hF ?_ ?_
        · intro h4 hF; exfalso
          simp at h4
        · intro h4 hF; clear hS; refine d_nil (by kernel_rfl) ?_; replace hF := hF.ks [0, 1, 2, 5, 6, 7, 8, 9, 20, 28, 32, 43] rfl; refine t_n <| c_f hF rfl <| wp_skip <| b_n <| t_n <| c_r <| pv hF hW (y_move hF rfl) fun a hF => pv hF hW (y_add hF rfl rfl (IntWalk.i64_in _ (by omega))) fun a hF => ?_; replace hF := hF.drop 9; refine pv hF hW (y_assign hF rfl) fun a hF => l_nil ?_; replace hF := hF.ks [0, 1, 2, 5, 6, 7, 8, 9, 20, 28, 32, 43] rfl; refine t_n ?_; refine ⟨(k + 1), ?_, ?_, ?_, ?_⟩
          · omega
          · first | omega | (dsimp only; omega)
          · exact Fr.app (Fr.cons hF (t := 9) rfl (by first | rfl | (simp; done) | omega) (Fr.nil hF)) (hF.ks [0, 1, 2, 5, 6, 7, 8, 20, 28] rfl)
          · exact hW
      · intro h3 hF; refine l_nil ?_; replace hF := hF.ks [0, 1, 2, 5, 6, 7, 8, 9, 20, 28, 32] rfl; refine t_n <| c_f hF rfl <| wp_exit <| t_x <| t_x <| b_h <| t_n <| c_sr ?_; refine pe (e_call hF rfl rfl en_12 (by rfl) rfl rfl (flatBegun_any _) ?_); rintro e w1 ⟨rfl, hb⟩; replace hW := hW.kept hb; clear hb; refine ⟨_, rfl, fun a hF => ?_⟩; refine pv hF hW (y_move hF rfl) fun a hF => pvg hF hW (y_move hF rfl) (ws hF rfl rfl) fun a hF => pvg hF hW (y_move hF rfl) (ws hF rfl rfl) fun a hF => pvg hF hW (y_eql hF rfl rfl) (ws hF rfl rfl) fun a hF => ?_; replace hF := hF.tt; refine pv hF hW (y_pick hF rfl rfl) fun a hF => ?_; replace hF := hF.tt; refine pv hF hW (y_assign hF rfl) fun a hF => ?_; replace hF := hF.tt; refine l_nil ?_; replace hF := hF.ks [0, 1, 2, 4, 5, 6, 7, 8, 9, 20, 28, 32] rfl; refine t_n <| wp_ret <| ret1 Tryz.results4 hF (rv_t hF rfl) ?_
        exact ⟨rfl, hW.below⟩
  · simp only [if_neg h0] at hown
    generalize thereErr x.sys p = E at *
    rw [x.val_eq] at *
    refine enter Tryz.func4 rfl Tryz.ntmps4 rfl fun a hF => ?_
    have hW := Wd.start w NoB
    refine c_sr ?_; refine pe (e_box hF hW rfl rfl rfl rfl ?_); intro b1 a wc hF hW; refine pv hF hW (y_assign hF rfl) fun a hF => l_nil <| t_n <| c_sr <| pv hF hW (y_loadAll hF rfl 0 rfl Tryz.underlying26 rfl sz_26) fun a hF => pv hF hW (y_move hF rfl) fun a hF => ?_; refine pe (e_call hF rfl rfl en_15 (by rfl) rfl rfl (hown _ hW.below) ?_); rintro e w1 ⟨A1, c1, rfl, hb, hr⟩; replace hW := hW.gotR hb hr; refine ⟨_, rfl, fun a hF => ?_⟩; refine pv hF hW (y_move hF rfl) fun a hF => pv hF hW (y_extract hF rfl rfl) fun a hF => pv hF hW (y_extract hF rfl rfl) fun a hF => pv hF hW (y_assign hF rfl) fun a hF => pv hF hW (y_assign hF rfl) fun a hF => l_nil ?_; replace hF := hF.ks [0, 1, 2, 4, 5, 6] rfl; refine t_n <| c_sr <| pv hF hW (y_loadAll hF rfl 1 rfl Tryz.underlying26 rfl sz_26) fun a hF => pv hF hW (y_move hF rfl) fun a hF => ?_; refine pe (e_call hF rfl rfl en_16 (by rfl) rfl rfl (hth _ hW.below) ?_); rintro e w1 ⟨rfl, hb⟩; replace hW := hW.kept hb; clear hb; refine ⟨_, rfl, fun a hF => ?_⟩; refine pv hF hW (y_assign hF rfl) fun a hF => l_nil ?_; replace hF := hF.ks [0, 1, 2, 4, 5, 6, 7] rfl; refine t_n <| c_sr <| pv hF hW (y_assign hF rfl) fun a hF => l_nil <| t_n <| c_s <| c_sr <| pv hF hW (y_move hF rfl) fun a hF => pv hF hW (y_eql hF rfl rfl) fun a hF => ?_; refine Fr.splitD hF ?_ ?_
    · intro h2 hF; exfalso
      exact h0 h2
    · intro h2 hF; refine l_nil ?_; replace hF := hF.ks [0, 1, 2, 4, 5, 6, 7, 8, 20] rfl; refine t_n <| c_f hF rfl <| wp_skip <| t_n <| c_s <| c_sr <| pv hF hW (y_move hF rfl) fun a hF => pv hF hW (y_len hF rfl Tryz.underlying46) fun a hF => pv hF hW (y_move hF rfl) fun a hF => pv hF hW (y_len hF rfl Tryz.underlying46) fun a hF => pv hF hW (y_neq hF rfl rfl) fun a hF => ?_; refine Fr.splitD hF ?_ ?_
      · intro h3 hF; exfalso
        exact h3 rfl
      · intro h3 hF; refine l_nil ?_; replace hF := hF.ks [0, 1, 2, 4, 5, 6, 7, 8, 20, 28] rfl; refine t_n <| c_f hF rfl <| wp_skip <| t_n <| c_s <| c_sr <| pv hF hW (y_assign hF rfl) fun a hF => l_nil <| t_n <| wp_block ?_; refine c_loop (G := Nat) (fun k : Nat => [(9, .int .i64 (0 : Int))]) (fun k : Nat => []) (fun k : Nat => True) (fun k : Nat => 0) 0 (hF.ks [0, 1, 2, 5, 6, 7, 8, 20, 28] rfl) (Fr.cons hF (t := 9) rfl (by first | rfl | (simp; done)) (Fr.nil hF)) (hW) ?_ ?_
        · trivial
        clear hF hW
        try clear a
        intro k a wc hC hF hW; refine c_s <| c_sr <| pv hF hW (y_move hF rfl) fun a hF => pv hF hW (y_move hF rfl) fun a hF => pv hF hW (y_len hF rfl Tryz.underlying46) fun a hF => pv hF hW (y_lss hF rfl rfl) fun a hF => ?_; refine Fr.splitD hF ?_ ?_
        · intro h4 hF; exfalso
          exact absurd h4 (by decide)
        · intro h4 hF; refine l_nil ?_; replace hF := hF.ks [0, 1, 2, 5, 6, 7, 8, 9, 20, 28, 32] rfl; refine t_n <| c_f hF rfl <| wp_exit <| t_x <| t_x <| b_h <| t_n <| c_sr ?_; refine pe (e_call hF rfl rfl en_12 (by rfl) rfl rfl (flatBegun_any _) ?_); rintro e w1 ⟨rfl, hb⟩; replace hW := hW.kept hb; clear hb; refine ⟨_, rfl, fun a hF => ?_⟩; refine pv hF hW (y_move hF rfl) fun a hF => pvg hF hW (y_move hF rfl) (ws hF rfl rfl) fun a hF => pvg hF hW (y_move hF rfl) (ws hF rfl rfl) fun a hF => pvg hF hW (y_eql hF rfl rfl) (ws hF rfl rfl) fun a hF => ?_; refine Fr.splitD hF ?_ ?_
          · intro h5 hF; refine pv hF hW (y_pick hF rfl rfl) fun a hF => pv hF hW (y_assign hF rfl) fun a hF => l_nil ?_; replace hF := hF.ks [0, 1, 2, 4, 5, 6, 7, 8, 9, 20, 28, 32] rfl; refine t_n <| wp_ret <| ret1 Tryz.results4 hF (rv_t hF rfl) ?_
            exact ⟨rfl, hW.below⟩
          · intro h5 hF; exfalso
            exact h5 rfl

set_option maxRecDepth 100000 in
theorem flatOwns_contract (H : Type) (enc : TypeId × Value → H) (W : World) (base : Nat) (args : Array Value) (ds gs : List (DataW H)) (before : List MemPlace)
    (hval : ∀ (j : Nat) t v, Tryz.f4.params[j]? = some t → args[j]? = some v → Value.okWide Tryz.prog W .any base t v)
    (hW : DataW.Whole enc Tryz.prog Tryz.f4.params.toList Rows.flatOwnsSpec.vars false W args.toList ds gs before) :
    Calls Tryz.prog 4 args W fun e W' => ∃ v, e = .returned v ∧ Rows.flatOwnsSpec.post enc Tryz.prog Tryz.f4 false true false false W args v W' := by
  have hW' := hW
  obtain ⟨p, q, hA0, hV, rfl, hfz, hnd⟩ := hW
  have hA : DataW.TrodAll enc Tryz.prog W 0 (fun _ => true) true Tryz.f4.params.toList args.toList ds p := hA0
  rw [Tryz.params4] at hA hval
  obtain ⟨v0, v1, d0, d1, p0, p1, rfl, rfl, rfl, h0, h1⟩ := trodAll_two hA
  obtain ⟨x, rfl, hx⟩ := sys_open (hval 0 26 v0 rfl rfl) h0
  obtain ⟨p, rfl, rfl, rfl, wk1⟩ := open_int Tryz.underlying3 (hval 1 3 v1 rfl rfl) h1
  refine (flatOwns_run x p W hx).mono fun e W' ⟨he, hb⟩ => ?_
  subst he
  exact ⟨_, rfl, law_post Tryz.laidOut hW' hb rfl (by kernel_rfl) Tryz.underlying4 (by kernel_rfl) rfl⟩

set_option maxRecDepth 100000 in
theorem flatOwns_lifted (os : Os) (started : os.Started) (H : Type) (enc : TypeId × Value → H) :
    ReturnsInHanded {} Tryz.checked os 4 .any (Rows.flatOwnsSpec.pre6 enc Tryz.prog Tryz.f4 Rows.flatOwnsRow.domain false) (Rows.flatOwnsSpec.post enc Tryz.prog Tryz.f4 false true false false) := by
  refine returnsInHanded_of_change (C := Tryz.checked) Tryz.own started (by kernel_rfl) Tryz.func4
    (ChangeSpec.witness6 (enc := enc) (C := Tryz.checked) false ⟨#[], #[.agg #[.slice none 0 0, .slice none 0 0, .slice none 0 0], .int .i64 0], []⟩ 8 (by kernel_rfl) (by kernel_rfl) (by kernel_rfl) (by kernel_rfl)) ?_
  intro W base args ds gs before hval hW _ _
  exact flatOwns_contract H enc W base args ds gs before hval hW

theorem flatOwns_holds : Rows.FlatOwnsSaid :=
  OpenClaim.holds_of_wide 4 Tryz.f4 rfl rfl rfl rfl rfl rfl rfl ⟨rfl, rfl, rfl, rfl, rfl⟩ rfl rfl rfl rfl rfl (by kernel_rfl) Tryz.func4 (by kernel_rfl)
    (of_decide_eq_true (by kernel_rfl)) (by unfold Func.isWrapper; first | (rw [if_pos (by decide +kernel)]; kernel_rfl) | (rw [if_neg (by decide +kernel)]; exact ⟨rfl, rfl⟩))
    (fun os started H enc _ => flatOwns_lifted os started H enc)
end Go.Proofs.YtnpflhaggfabnaaGreat
