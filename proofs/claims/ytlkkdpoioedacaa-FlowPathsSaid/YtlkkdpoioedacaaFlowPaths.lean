/- The law FlowPaths answers true for every input. -/
import Derived.Test.YtlkkdpoioedacaaFlowG
import Derived.Test.YtlkkdpoioedacaaFlowE
import Derived.Test.YtlkkdpoioedacaaSysRef
namespace Go.Proofs.Ytlkkdpoioedacaa
set_option linter.unusedVariables false
set_option linter.unusedSimpArgs false
open Go.ChangeShapes Go.WideShapes Go.ChangeAt Go.RowKit

set_option maxRecDepth 100000

theorem ints_rf {w : World} {A : Option Addr} {c : Nat} {l : List Int} (h : Ints w (.slice A l.length c) l) : RF w A l.length 1 (fun i => [.int .i64 (l.getD i 0)]) := by
  obtain ⟨A', c', e, _, _, h⟩ := RF.of_ints h
  simp only [Value.slice.injEq] at e
  rw [e.1]
  exact h
theorem path_no {x : SysD} {w : World} (hx : x.At w) {f t E : Int} (hE : pathErr x.sys f t = E) (h0 : E ≠ 0) : Calls Try.prog 19 #[x.val, .int .i64 f, .int .i64 t] w fun e w' => ∃ A c, e = .returned (.tuple #[.slice A 0 c, .bool false, .int .i64 E]) ∧ Below w.heap.size w w' ∧ OwnRes w w' (fun u => Ints u (.slice A 0 c) []) := by
  refine (flowPath_any hx f t).mono ?_
  rintro e w' ⟨L, A, c, rfl, hL, hb, hr⟩
  have hn : pathOr x.sys f t = none := if_neg (by rw [hE]; exact h0)
  rw [hn] at hL
  subst hL
  rw [hn, hE]
  exact ⟨A, c, rfl, hb, hr⟩
theorem path_yes {x : SysD} {w : World} (hx : x.At w) {f t : Nat} (hE : pathErr x.sys f t = 0) : Calls Try.prog 19 #[x.val, .int .i64 f, .int .i64 t] w fun e w' => ∃ (L : List Int) (A : Option Addr) (c : Nat), e = .returned (.tuple #[.slice A L.length c, .bool (pathOf x.chans x.parts.length f t).isSome, .int .i64 0]) ∧ L = ((pathOf x.chans x.parts.length f t).getD []).map Int.ofNat ∧ Below w.heap.size w w' ∧ OwnRes w w' (fun u => Ints u (.slice A L.length c) L) := by
  refine (flowPath_any hx f t).mono ?_
  rintro e w' ⟨L, A, c, rfl, hL, hb, hr⟩
  have hpo : pathOr x.sys f t = pathOf x.chans x.parts.length f t := (if_pos hE).trans (by rw [sys_parts_len]; rfl)
  rw [hpo] at hL
  rw [hpo, hE]
  exact ⟨L, A, c, rfl, hL, hb, hr⟩
set_option maxHeartbeats 8000000 in
theorem flowPaths_run (x : SysD) (f t : Int) (w : World) (hx : x.At w) :
    Calls Try.prog 4 #[x.val, .int .i64 f, .int .i64 t] w fun e w' => e = .returned (.bool true) ∧ Below w.heap.size w w' := by
  have hth := fun w1 (hb : Below w.heap.size w w1) (p : Int) => thereRR_any (hx.below hb) p
  by_cases g1 : thereErr x.sys f = 0
  · by_cases g2 : thereErr x.sys t = 0
    · have hE := (pathErr_2 (t := t) g1).trans g2
      obtain ⟨hk, hf0, hf1⟩ := there_zero g1
      obtain ⟨-, ht0, ht1⟩ := there_zero g2
      obtain ⟨f, rfl⟩ := Int.eq_ofNat_of_zero_le hf0
      obtain ⟨t, rfl⟩ := Int.eq_ofNat_of_zero_le ht0
      have hp := fun w1 (hb : Below w.heap.size w w1) => path_yes (hx.below hb) hE
      have hR := fun w1 (hb : Below w.heap.size w w1) => pathOfR_any (f := f) (t := t) (hx.below hb) hk
      have ha := fun w1 (hb : Below w.heap.size w w1) => hth w1 hb f
      have hc := fun w1 (hb : Below w.heap.size w w1) => hth w1 hb t
      rw [g1] at ha
      rw [g2] at hc
      rw [x.val_eq] at *
      refine enter Try.func4 rfl Try.ntmps4 rfl fun a hF => ?_
      have hW := Wd.start w NoB
      refine c_sr ?_; refine pe (e_box hF hW rfl rfl rfl rfl ?_); intro b1 a wc hF hW; refine pv hF hW (y_assign hF rfl) fun a hF => l_nil <| t_n <| c_sr <| pv hF hW (y_loadAll hF rfl 0 rfl Try.underlying26 rfl sz_26) fun a hF => pv hF hW (y_move hF rfl) fun a hF => pv hF hW (y_move hF rfl) fun a hF => ?_; refine pe (e_call hF rfl rfl en_19 (by rfl) rfl rfl (hp _ hW.below) ?_); rintro e w1 ⟨L, A, c, rfl, hL, hb, hr⟩; replace hW := hW.gotR hb hr; refine ⟨_, rfl, fun a hF => ?_⟩; refine pv hF hW (y_move hF rfl) fun a hF => pv hF hW (y_extract hF rfl rfl) fun a hF => pv hF hW (y_extract hF rfl rfl) fun a hF => pv hF hW (y_extract hF rfl rfl) fun a hF => pv hF hW (y_assign hF rfl) fun a hF => pv hF hW (y_assign hF rfl) fun a hF => pv hF hW (y_assign hF rfl) fun a hF => l_nil ?_; replace hF := hF.ks [0, 1, 2, 3, 6, 7, 8, 9] rfl; refine t_n <| c_sr <| pv hF hW (y_loadAll hF rfl 1 rfl Try.underlying26 rfl sz_26) fun a hF => pv hF hW (y_move hF rfl) fun a hF => ?_; refine pe (e_call hF rfl rfl en_20 (by rfl) rfl rfl (ha _ hW.below) ?_); rintro e w1 ⟨rfl, hb⟩; replace hW := hW.kept hb; clear hb; refine ⟨_, rfl, fun a hF => ?_⟩; refine pv hF hW (y_assign hF rfl) fun a hF => l_nil ?_; replace hF := hF.ks [0, 1, 2, 3, 6, 7, 8, 9, 10] rfl; refine t_n <| c_s <| c_sr <| pv hF hW (y_move hF rfl) fun a hF => pv hF hW (y_eql hF rfl rfl) fun a hF => ?_; replace hF := hF.tt; refine l_nil ?_; replace hF := hF.ks [0, 1, 2, 3, 6, 7, 8, 9, 10, 25] rfl; refine t_n <| c_t hF rfl <| c_r <| pv hF hW (y_loadAll hF rfl 1 rfl Try.underlying26 rfl sz_26) fun a hF => pv hF hW (y_move hF rfl) fun a hF => ?_; refine pe (e_call hF rfl rfl en_20 (by rfl) rfl rfl (hc _ hW.below) ?_); rintro e w1 ⟨rfl, hb⟩; replace hW := hW.kept hb; clear hb; refine ⟨_, rfl, fun a hF => ?_⟩; replace hF := hF.drop 10; refine pv hF hW (y_assign hF rfl) fun a hF => l_nil ?_; replace hF := hF.ks [0, 1, 2, 3, 6, 7, 8, 9, 10, 25] rfl; refine t_n <| c_sr <| pv hF hW (y_assign hF rfl) fun a hF => l_nil <| t_n <| c_sr <| pv hF hW (y_assign hF rfl) fun a hF => l_nil <| t_n <| c_s <| c_sr <| pv hF hW (y_move hF rfl) fun a hF => pv hF hW (y_eql hF rfl rfl) fun a hF => ?_; replace hF := hF.tt; refine l_nil ?_; replace hF := hF.ks [0, 1, 2, 3, 6, 7, 8, 9, 10, 11, 12, 25, 30] rfl; refine t_n <| c_t hF rfl <| c_r <| pv hF hW (y_loadAll hF rfl 1 rfl Try.underlying26 rfl sz_26) fun a hF => pv hF hW (y_move hF rfl) fun a hF => pv hF hW (y_move hF rfl) fun a hF => ?_; refine pe (e_call hF rfl rfl en_21 (by rfl) rfl rfl (hR _ hW.below) ?_)
      rintro e w1 ⟨L2, A2, c2, rfl, hL2, hb, hr⟩; replace hW := hW.gotR hb hr; refine ⟨_, rfl, fun a hF => ?_⟩; refine pv hF hW (y_move hF rfl) fun a hF => pv hF hW (y_extract hF rfl rfl) fun a hF => pv hF hW (y_extract hF rfl rfl) fun a hF => ?_; replace hF := hF.drop 11; refine pv hF hW (y_assign hF rfl) fun a hF => ?_; replace hF := hF.drop 12; refine pv hF hW (y_assign hF rfl) fun a hF => l_nil ?_; replace hF := hF.ks [0, 1, 2, 3, 6, 7, 8, 9, 10, 11, 12, 25, 30] rfl; refine t_n <| c_sr ?_; refine pe (e_call hF rfl rfl en_18 (by rfl) rfl rfl (flowBegun_any _) ?_); rintro e w1 ⟨rfl, hb⟩; replace hW := hW.kept hb; clear hb; refine ⟨_, rfl, fun a hF => ?_⟩; refine pv hF hW (y_move hF rfl) fun a hF => pvg hF hW (y_move hF rfl) (ws hF rfl rfl) fun a hF => pvg hF hW (y_move hF rfl) (ws hF rfl rfl) fun a hF => pvg hF hW (y_eql hF rfl rfl) (ws hF rfl rfl) fun a hF => ?_; replace hF := hF.tt; refine pv hF hW (y_pick hF rfl rfl) fun a hF => ?_; replace hF := hF.tt; refine pv hF hW (y_move hF rfl) fun a hF => ?_; replace hF := hF.tt; refine pvg hF hW (y_move hF rfl) (ws hF rfl rfl) fun a hF => pvg hF hW (y_move hF rfl) (ws hF rfl rfl) fun a hF => pvg hF hW (y_eqb hF rfl rfl Try.underlying4) (ws hF rfl rfl) fun a hF => ?_; replace hF := Fr.cast (v' := .bool true) (by simp) hF; refine pv hF hW (y_pick hF rfl rfl) fun a hF => pv hF hW (y_move hF rfl) fun a hF => pvg hF hW (y_move hF rfl) (ws hF rfl rfl) fun a hF => pvg hF hW (y_move hF rfl) (ws hF rfl rfl) fun a hF => ?_; refine pe (e_call hF rfl rfl en_22 (by rfl) rfl rfl (same_ints (hW.res 1 rfl) (hW.res 0 rfl) (hL.trans hL2.symm)) ?_) (ws hF rfl rfl); rintro e w1 ⟨rfl, hb⟩; replace hW := hW.kept hb; clear hb; refine ⟨_, rfl, fun a hF => ?_⟩; refine pv hF hW (y_pick hF rfl rfl) fun a hF => ?_; replace hF := hF.drop 6; refine pv hF hW (y_assign hF rfl) fun a hF => l_nil ?_; replace hF := hF.ks [0, 1, 2, 3, 6, 7, 8, 9, 10, 11, 12, 25, 30] rfl; refine t_n <| wp_ret <| ret1 Try.results4 hF (rv_t hF rfl) ?_
      exact ⟨rfl, hW.below⟩
    · have hE : pathErr x.sys f t = thereErr x.sys t := pathErr_2 g1
      have hp := fun w1 (hb : Below w.heap.size w w1) => path_no (hx.below hb) hE g2
      have ha := fun w1 (hb : Below w.heap.size w w1) => hth w1 hb f
      have hc := fun w1 (hb : Below w.heap.size w w1) => hth w1 hb t
      rw [g1] at ha
      clear hE hth
      generalize thereErr x.sys t = E at *
      rw [x.val_eq] at *
      refine enter Try.func4 rfl Try.ntmps4 rfl fun a hF => ?_
      have hW := Wd.start w NoB
      refine c_sr ?_; refine pe (e_box hF hW rfl rfl rfl rfl ?_); intro b1 a wc hF hW; refine pv hF hW (y_assign hF rfl) fun a hF => l_nil <| t_n <| c_sr <| pv hF hW (y_loadAll hF rfl 0 rfl Try.underlying26 rfl sz_26) fun a hF => pv hF hW (y_move hF rfl) fun a hF => pv hF hW (y_move hF rfl) fun a hF => ?_; refine pe (e_call hF rfl rfl en_19 (by rfl) rfl rfl (hp _ hW.below) ?_); rintro e w1 ⟨A, c, rfl, hb, hr⟩; replace hW := hW.gotR hb hr; refine ⟨_, rfl, fun a hF => ?_⟩; refine pv hF hW (y_move hF rfl) fun a hF => pv hF hW (y_extract hF rfl rfl) fun a hF => pv hF hW (y_extract hF rfl rfl) fun a hF => pv hF hW (y_extract hF rfl rfl) fun a hF => pv hF hW (y_assign hF rfl) fun a hF => pv hF hW (y_assign hF rfl) fun a hF => pv hF hW (y_assign hF rfl) fun a hF => l_nil ?_; replace hF := hF.ks [0, 1, 2, 3, 6, 7, 8, 9] rfl; refine t_n <| c_sr <| pv hF hW (y_loadAll hF rfl 1 rfl Try.underlying26 rfl sz_26) fun a hF => pv hF hW (y_move hF rfl) fun a hF => ?_; refine pe (e_call hF rfl rfl en_20 (by rfl) rfl rfl (ha _ hW.below) ?_); rintro e w1 ⟨rfl, hb⟩; replace hW := hW.kept hb; clear hb; refine ⟨_, rfl, fun a hF => ?_⟩; refine pv hF hW (y_assign hF rfl) fun a hF => l_nil ?_; replace hF := hF.ks [0, 1, 2, 3, 6, 7, 8, 9, 10] rfl; refine t_n <| c_s <| c_sr <| pv hF hW (y_move hF rfl) fun a hF => pv hF hW (y_eql hF rfl rfl) fun a hF => ?_; replace hF := hF.tt; refine l_nil ?_; replace hF := hF.ks [0, 1, 2, 3, 6, 7, 8, 9, 10, 25] rfl; refine t_n <| c_t hF rfl <| c_r <| pv hF hW (y_loadAll hF rfl 1 rfl Try.underlying26 rfl sz_26) fun a hF => pv hF hW (y_move hF rfl) fun a hF => ?_; refine pe (e_call hF rfl rfl en_20 (by rfl) rfl rfl (hc _ hW.below) ?_); rintro e w1 ⟨rfl, hb⟩; replace hW := hW.kept hb; clear hb; refine ⟨_, rfl, fun a hF => ?_⟩; replace hF := hF.drop 10; refine pv hF hW (y_assign hF rfl) fun a hF => l_nil ?_; replace hF := hF.ks [0, 1, 2, 3, 6, 7, 8, 9, 10, 25] rfl; refine t_n <| c_sr <| pv hF hW (y_assign hF rfl) fun a hF => l_nil <| t_n <| c_sr <| pv hF hW (y_assign hF rfl) fun a hF => l_nil <| t_n <| c_s <| c_sr <| pv hF hW (y_move hF rfl) fun a hF => pv hF hW (y_eql hF rfl rfl) fun a hF => ?_; refine Fr.splitD hF ?_ ?_
      · intro h2 hF; exfalso
        exact g2 h2
      · intro h2 hF; refine l_nil ?_; replace hF := hF.ks [0, 1, 2, 3, 6, 7, 8, 9, 10, 11, 12, 25, 30] rfl; refine t_n <| c_f hF rfl <| wp_skip <| t_n <| c_sr ?_; refine pe (e_call hF rfl rfl en_18 (by rfl) rfl rfl (flowBegun_any _) ?_); rintro e w1 ⟨rfl, hb⟩; replace hW := hW.kept hb; clear hb; refine ⟨_, rfl, fun a hF => ?_⟩; refine pv hF hW (y_move hF rfl) fun a hF => pvg hF hW (y_move hF rfl) (ws hF rfl rfl) fun a hF => pvg hF hW (y_move hF rfl) (ws hF rfl rfl) fun a hF => pvg hF hW (y_eql hF rfl rfl) (ws hF rfl rfl) fun a hF => ?_; refine Fr.splitD hF ?_ ?_
        · intro h3 hF; refine pv hF hW (y_pick hF rfl rfl) fun a hF => pv hF hW (y_move hF rfl) fun a hF => pvg hF hW (y_move hF rfl) (ws hF rfl rfl) fun a hF => pvg hF hW (y_move hF rfl) (ws hF rfl rfl) fun a hF => pvg hF hW (y_eqb hF rfl rfl Try.underlying4) (ws hF rfl rfl) fun a hF => ?_; replace hF := hF.tt; refine pv hF hW (y_pick hF rfl rfl) fun a hF => ?_; replace hF := hF.tt; refine pv hF hW (y_move hF rfl) fun a hF => ?_; replace hF := hF.tt; refine pvg hF hW (y_move hF rfl) (ws hF rfl rfl) fun a hF => pvg hF hW (y_move hF rfl) (ws hF rfl rfl) fun a hF => ?_; refine pe (e_call hF rfl rfl en_22 (by rfl) rfl rfl (same_ints (hW.res 0 rfl) Ints.nil_ rfl) ?_) (ws hF rfl rfl); rintro e w1 ⟨rfl, hb⟩; replace hW := hW.kept hb; clear hb; refine ⟨_, rfl, fun a hF => ?_⟩; refine pv hF hW (y_pick hF rfl rfl) fun a hF => ?_; replace hF := hF.drop 6; refine pv hF hW (y_assign hF rfl) fun a hF => l_nil ?_; replace hF := hF.ks [0, 1, 2, 3, 6, 7, 8, 9, 10, 11, 12, 25, 30] rfl; refine t_n <| wp_ret <| ret1 Try.results4 hF (rv_t hF rfl) ?_
          exact ⟨rfl, hW.below⟩
        · intro h3 hF; exfalso
          exact h3 rfl
  · have hE : pathErr x.sys f t = thereErr x.sys f := pathErr_1 g1
    have hp := fun w1 (hb : Below w.heap.size w w1) => path_no (hx.below hb) hE g1
    have ha := fun w1 (hb : Below w.heap.size w w1) => hth w1 hb f
    clear hE hth
    generalize thereErr x.sys f = E at *
    rw [x.val_eq] at *
    refine enter Try.func4 rfl Try.ntmps4 rfl fun a hF => ?_
    have hW := Wd.start w NoB
    refine c_sr ?_; refine pe (e_box hF hW rfl rfl rfl rfl ?_); intro b1 a wc hF hW; refine pv hF hW (y_assign hF rfl) fun a hF => l_nil <| t_n <| c_sr <| pv hF hW (y_loadAll hF rfl 0 rfl Try.underlying26 rfl sz_26) fun a hF => pv hF hW (y_move hF rfl) fun a hF => pv hF hW (y_move hF rfl) fun a hF => ?_; refine pe (e_call hF rfl rfl en_19 (by rfl) rfl rfl (hp _ hW.below) ?_); rintro e w1 ⟨A, c, rfl, hb, hr⟩; replace hW := hW.gotR hb hr; refine ⟨_, rfl, fun a hF => ?_⟩; refine pv hF hW (y_move hF rfl) fun a hF => pv hF hW (y_extract hF rfl rfl) fun a hF => pv hF hW (y_extract hF rfl rfl) fun a hF => pv hF hW (y_extract hF rfl rfl) fun a hF => pv hF hW (y_assign hF rfl) fun a hF => pv hF hW (y_assign hF rfl) fun a hF => pv hF hW (y_assign hF rfl) fun a hF => l_nil ?_; replace hF := hF.ks [0, 1, 2, 3, 6, 7, 8, 9] rfl; refine t_n <| c_sr <| pv hF hW (y_loadAll hF rfl 1 rfl Try.underlying26 rfl sz_26) fun a hF => pv hF hW (y_move hF rfl) fun a hF => ?_; refine pe (e_call hF rfl rfl en_20 (by rfl) rfl rfl (ha _ hW.below) ?_); rintro e w1 ⟨rfl, hb⟩; replace hW := hW.kept hb; clear hb; refine ⟨_, rfl, fun a hF => ?_⟩; refine pv hF hW (y_assign hF rfl) fun a hF => l_nil ?_; replace hF := hF.ks [0, 1, 2, 3, 6, 7, 8, 9, 10] rfl; refine t_n <| c_s <| c_sr <| pv hF hW (y_move hF rfl) fun a hF => pv hF hW (y_eql hF rfl rfl) fun a hF => ?_; refine Fr.splitD hF ?_ ?_
    · intro h2 hF; exfalso
      exact g1 h2
    · intro h2 hF; refine l_nil ?_; replace hF := hF.ks [0, 1, 2, 3, 6, 7, 8, 9, 10, 25] rfl; refine t_n <| c_f hF rfl <| wp_skip <| t_n <| c_sr <| pv hF hW (y_assign hF rfl) fun a hF => l_nil <| t_n <| c_sr <| pv hF hW (y_assign hF rfl) fun a hF => l_nil <| t_n <| c_s <| c_sr <| pv hF hW (y_move hF rfl) fun a hF => pv hF hW (y_eql hF rfl rfl) fun a hF => ?_; refine Fr.splitD hF ?_ ?_
      · intro h3 hF; exfalso
        exact g1 h3
      · intro h3 hF; refine l_nil ?_; replace hF := hF.ks [0, 1, 2, 3, 6, 7, 8, 9, 10, 11, 12, 25, 30] rfl; refine t_n <| c_f hF rfl <| wp_skip <| t_n <| c_sr ?_; refine pe (e_call hF rfl rfl en_18 (by rfl) rfl rfl (flowBegun_any _) ?_); rintro e w1 ⟨rfl, hb⟩; replace hW := hW.kept hb; clear hb; refine ⟨_, rfl, fun a hF => ?_⟩; refine pv hF hW (y_move hF rfl) fun a hF => pvg hF hW (y_move hF rfl) (ws hF rfl rfl) fun a hF => pvg hF hW (y_move hF rfl) (ws hF rfl rfl) fun a hF => pvg hF hW (y_eql hF rfl rfl) (ws hF rfl rfl) fun a hF => ?_; refine Fr.splitD hF ?_ ?_
        · intro h4 hF; refine pv hF hW (y_pick hF rfl rfl) fun a hF => pv hF hW (y_move hF rfl) fun a hF => pvg hF hW (y_move hF rfl) (ws hF rfl rfl) fun a hF => pvg hF hW (y_move hF rfl) (ws hF rfl rfl) fun a hF => pvg hF hW (y_eqb hF rfl rfl Try.underlying4) (ws hF rfl rfl) fun a hF => ?_; replace hF := hF.tt; refine pv hF hW (y_pick hF rfl rfl) fun a hF => ?_; replace hF := hF.tt; refine pv hF hW (y_move hF rfl) fun a hF => ?_; replace hF := hF.tt; refine pvg hF hW (y_move hF rfl) (ws hF rfl rfl) fun a hF => pvg hF hW (y_move hF rfl) (ws hF rfl rfl) fun a hF => ?_; refine pe (e_call hF rfl rfl en_22 (by rfl) rfl rfl (same_ints (hW.res 0 rfl) Ints.nil_ rfl) ?_) (ws hF rfl rfl); rintro e w1 ⟨rfl, hb⟩; replace hW := hW.kept hb; clear hb; refine ⟨_, rfl, fun a hF => ?_⟩; refine pv hF hW (y_pick hF rfl rfl) fun a hF => ?_; replace hF := hF.drop 6; refine pv hF hW (y_assign hF rfl) fun a hF => l_nil ?_; replace hF := hF.ks [0, 1, 2, 3, 6, 7, 8, 9, 10, 11, 12, 25, 30] rfl; refine t_n <| wp_ret <| ret1 Try.results4 hF (rv_t hF rfl) ?_
          exact ⟨rfl, hW.below⟩
        · intro h4 hF; exfalso
          exact h4 rfl

set_option maxRecDepth 100000 in
theorem flowPaths_contract (H : Type) (enc : TypeId × Value → H) (W : World) (base : Nat) (args : Array Value) (ds gs : List (DataW H)) (before : List MemPlace)
    (hval : ∀ (j : Nat) t v, Try.f4.params[j]? = some t → args[j]? = some v → Value.okWide Try.prog W .any base t v)
    (hW : DataW.Whole enc Try.prog Try.f4.params.toList Rows.flowPathsSpec.vars false W args.toList ds gs before) :
    Calls Try.prog 4 args W fun e W' => ∃ v, e = .returned v ∧ Rows.flowPathsSpec.post enc Try.prog Try.f4 false true false false W args v W' := by
  have hW' := hW
  obtain ⟨p, q, hA0, hV, rfl, hfz, hnd⟩ := hW
  have hA : DataW.TrodAll enc Try.prog W 0 (fun _ => true) true Try.f4.params.toList args.toList ds p := hA0
  rw [Try.params4] at hA hval
  obtain ⟨v0, v1, v2, d0, d1, d2, p0, p1, p2, rfl, rfl, rfl, h0, h1, h2⟩ := trodAll_three hA
  obtain ⟨x, rfl, hx⟩ := sys_open (hval 0 26 v0 rfl rfl) h0
  obtain ⟨f, rfl, rfl, rfl, wk1⟩ := open_int Try.underlying3 (hval 1 3 v1 rfl rfl) h1
  obtain ⟨t, rfl, rfl, rfl, wk2⟩ := open_int Try.underlying3 (hval 2 3 v2 rfl rfl) h2
  refine (flowPaths_run x f t W hx).mono fun e W' ⟨he, hb⟩ => ?_
  subst he
  exact ⟨_, rfl, law_post Try.laidOut hW' hb rfl (by kernel_rfl) Try.underlying4 (by kernel_rfl) rfl⟩

set_option maxRecDepth 100000 in
theorem flowPaths_lifted (os : Os) (started : os.Started) (H : Type) (enc : TypeId × Value → H) :
    ReturnsInHanded {} Try.checked os 4 .any (Rows.flowPathsSpec.pre6 enc Try.prog Try.f4 Rows.flowPathsRow.domain false) (Rows.flowPathsSpec.post enc Try.prog Try.f4 false true false false) := by
  refine returnsInHanded_of_change (C := Try.checked) Try.own started (by kernel_rfl) Try.func4
    (ChangeSpec.witness6 (enc := enc) (C := Try.checked) false ⟨#[], #[.agg #[.slice none 0 0, .slice none 0 0, .slice none 0 0], .int .i64 0, .int .i64 0], []⟩ 8 (by kernel_rfl) (by kernel_rfl) (by kernel_rfl) (by kernel_rfl)) ?_
  intro W base args ds gs before hval hW _ _
  exact flowPaths_contract H enc W base args ds gs before hval hW

theorem flowPaths_holds : Rows.FlowPathsSaid :=
  OpenClaim.holds_of_wide 4 Try.f4 rfl rfl rfl rfl rfl rfl rfl ⟨rfl, rfl, rfl, rfl, rfl⟩ rfl rfl rfl rfl rfl (by kernel_rfl) Try.func4 (by kernel_rfl)
    (of_decide_eq_true (by kernel_rfl)) (by unfold Func.isWrapper; first | (rw [if_pos (by decide +kernel)]; kernel_rfl) | (rw [if_neg (by decide +kernel)]; exact ⟨rfl, rfl⟩))
    (fun os started H enc _ => flowPaths_lifted os started H enc)
end Go.Proofs.Ytlkkdpoioedacaa
