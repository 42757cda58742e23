/- The reference's SameCode, SameSystems, CheckSystem, there. -/
import Derived.Test.YtebklpbbglojmaaSys
import Derived.Test.YtebklpbbglojmaaRefSm
namespace Go.Proofs.Ytebklpbbglojmaa
set_option linter.unusedVariables false
set_option linter.unusedSimpArgs false
open Go.ChangeShapes Go.WideShapes Go.ChangeAt Go.RowKit

set_option maxRecDepth 100000

theorem ins_eq {x y : Ins} (h : x.op = y.op ∧ x.a = y.a ∧ x.b = y.b ∧ x.n = y.n) : x = y := by
  cases x; cases y; simp_all
theorem chn_eq {x y : Chn} (h : x.kind = y.kind ∧ x.from_ = y.from_ ∧ x.to_ = y.to_) : x = y := by
  cases x; cases y; simp_all
theorem slt_eq {x y : Slt} (h : x.part = y.part ∧ x.ticks = y.ticks) : x = y := by
  cases x; cases y; simp_all
theorem list_eq_getD {α : Type} {l m : List α} (d : α) (hl : l.length = m.length) (h : ∀ i, i < l.length → l.getD i d = m.getD i d) : l = m :=
  List.ext_getElem hl fun i hi hj => by have := h i hi; simpa [List.getD, hi, hj] using this
theorem sameCode_any {l m : List Ins} {A B : Option Addr} {c d : Nat} {w : World} (hl : Code_ w (.slice A l.length c) l) (hm : Code_ w (.slice B m.length d) m) :
    Calls Try.prog 77 #[.slice A l.length c, .slice B m.length d] w fun e w' => e = .returned (.bool (decide (l = m))) ∧ Below w.heap.size w w' := by
  have hlen := hl.len
  unfold maxLen at hlen
  have ha := hl.rf Ins.cells_len I0
  have hb := hm.rf Ins.cells_len I0
  refine enter Try.func77 rfl Try.ntmps77 rfl (fun a hF => ?_)
  have hW := Wd.start w NoB
  refine c_sr ?_
  refine pv hF hW (y_assign hF rfl) (fun a hF => ?_)
  refine l_nil ?_
  refine t_n ?_
  refine c_s ?_
  refine c_sr ?_
  refine pv hF hW (y_move hF rfl) (fun a hF => ?_)
  refine pv hF hW (y_len hF rfl Try.underlying40) (fun a hF => ?_)
  refine pv hF hW (y_move hF rfl) (fun a hF => ?_)
  refine pv hF hW (y_len hF rfl Try.underlying40) (fun a hF => ?_)
  refine pv hF hW (y_neq hF rfl rfl) (fun a hF => ?_)
  refine Fr.splitD hF ?_ ?_
  · intro h1 hF
    refine l_nil ?_
    replace hF := (hF.k 0 rfl (hF.k 1 rfl (hF.k 4 rfl (hF.k 10 rfl hF.nil))))
    refine t_n ?_
    refine c_t hF rfl ?_
    refine c_sr ?_
    replace hF := hF.drop 4
    refine pv hF hW (y_assign hF rfl) (fun a hF => ?_)
    refine l_nil ?_
    refine t_n ?_
    refine wp_ret ?_
    refine t_r ?_
    refine ret1 Try.results77 hF (rv_t hF rfl) ?_
    exact ⟨by simp [show ¬ l = m from fun e => h1 (by rw [e])], hW.below⟩
  · intro h1 hF
    refine l_nil ?_
    replace hF := (hF.k 0 rfl (hF.k 1 rfl (hF.k 4 rfl (hF.k 10 rfl hF.nil))))
    refine t_n ?_
    refine c_f hF rfl ?_
    refine wp_skip ?_
    refine t_n ?_
    refine c_s ?_
    refine c_sr ?_
    refine pv hF hW (y_assign hF rfl) (fun a hF => ?_)
    refine l_nil ?_
    refine t_n ?_
    refine wp_block ?_
    refine c_loop (G := Nat) (fun k : Nat => [(5, .int .i64 (k : Int))]) (fun k : Nat => []) (fun k : Nat => k ≤ l.length ∧ ∀ i, i < k → l.getD i I0 = m.getD i I0) (fun k : Nat => l.length - k) 0 (Fr.cons hF (t := 0) rfl rfl (Fr.cons hF (t := 1) rfl rfl (Fr.cons hF (t := 10) rfl rfl (Fr.nil hF)))) (Fr.cons hF (t := 5) rfl (by first | rfl | (simp; done)) (Fr.nil hF)) (hW) ?_ ?_
    · exact ⟨by omega, fun i hi => by omega⟩
    clear hF hW
    try clear a
    intro k a wc hC hF hW
    obtain ⟨hk, heq⟩ := hC
    refine c_s ?_
    refine c_sr ?_
    refine pv hF hW (y_move hF rfl) (fun a hF => ?_)
    refine pv hF hW (y_move hF rfl) (fun a hF => ?_)
    refine pv hF hW (y_len hF rfl Try.underlying40) (fun a hF => ?_)
    refine pv hF hW (y_lss hF rfl rfl) (fun a hF => ?_)
    refine Fr.splitD hF ?_ ?_
    · intro h2 hF
      refine l_nil ?_
      replace hF := (hF.k 0 rfl (hF.k 1 rfl (hF.k 5 rfl (hF.k 10 rfl (hF.k 14 rfl hF.nil)))))
      refine t_n ?_
      refine c_t hF rfl ?_
      refine wp_skip ?_
      refine t_n ?_
      refine c_s ?_
      refine wp_block ?_
      refine c_sd mixed_ok hW (hW) ?_
      clear hW; intro wc hW hS
      refine dv 0 rfl hF hS (y_move hF rfl) (fun a hF => ?_)
      refine dv 1 rfl hF hS (y_move hF rfl) (fun a hF => ?_)
      refine dv 2 rfl hF hS (y_indexS hF rfl rfl (by first | omega | decide) Try.underlying40 sz_95 (fun w h => (ha).wd h)) (fun a hF => ?_)
      refine dv 3 rfl hF hS (y_loadRowW hF rfl (fun w h => (ha).wd h) (by first | omega | decide) Try.underlying95 rfl sz_95) (fun a hF => ?_)
      refine dv 4 rfl hF hS (y_move hF rfl) (fun a hF => ?_)
      refine dv 5 rfl hF hS (y_move hF rfl) (fun a hF => ?_)
      refine dv 6 rfl hF hS (y_indexS hF rfl rfl (by first | omega | decide) Try.underlying40 sz_95 (fun w h => (hb).wd h)) (fun a hF => ?_)
      refine dv 7 rfl hF hS (y_loadRowW hF rfl (fun w h => (hb).wd h) (by first | omega | decide) Try.underlying95 rfl sz_95) (fun a hF => ?_)
      refine dv 8 rfl hF hS (y_bin hF rfl rfl (fun w => net_95 _ _ _ _ _ _ _ _ _ _ w)) (fun a hF => ?_)
      refine Fr.splitD hF ?_ ?_
      · intro h3 hF
        clear hS
        refine d_nil (by kernel_rfl) ?_
        replace hF := (hF.k 0 rfl (hF.k 1 rfl (hF.k 5 rfl (hF.k 10 rfl (hF.k 14 rfl (hF.k 25 rfl hF.nil))))))
        refine t_n ?_
        refine c_t hF rfl ?_
        refine c_sr ?_
        refine pv hF hW (y_assign hF rfl) (fun a hF => ?_)
        refine l_nil ?_
        refine t_n ?_
        refine wp_ret ?_
        refine b_r ?_
        refine t_r ?_
        refine t_r ?_
        refine b_r ?_
        refine t_r ?_
        refine ret1 Try.results77 hF (rv_t hF rfl) ?_
        exact ⟨by simp [show ¬ l = m from fun e => h3 (by rw [e]; exact ⟨rfl, rfl, rfl, rfl⟩)], hW.below⟩
      · intro h3 hF
        clear hS
        refine d_nil (by kernel_rfl) ?_
        replace hF := (hF.k 0 rfl (hF.k 1 rfl (hF.k 5 rfl (hF.k 10 rfl (hF.k 14 rfl (hF.k 25 rfl hF.nil))))))
        refine t_n ?_
        refine c_f hF rfl ?_
        refine wp_skip ?_
        refine b_n ?_
        refine t_n ?_
        refine c_r ?_
        refine pv hF hW (y_move hF rfl) (fun a hF => ?_)
        refine pv hF hW (y_add hF rfl rfl (IntWalk.i64_in _ (by omega))) (fun a hF => ?_)
        replace hF := hF.drop 5
        refine pv hF hW (y_assign hF rfl) (fun a hF => ?_)
        refine l_nil ?_
        replace hF := (hF.k 0 rfl (hF.k 1 rfl (hF.k 5 rfl (hF.k 10 rfl (hF.k 14 rfl (hF.k 25 rfl hF.nil))))))
        refine t_n ?_
        refine ⟨(k + 1), ?_, ?_, ?_, ?_⟩
        · exact ⟨by omega, fun i hi => by rcases Nat.lt_or_ge i k with h | h; exact heq i h; (have hik : i = k := by omega); rw [hik]; exact ins_eq (Decidable.of_not_not (by assumption))⟩
        · first | omega | (dsimp only; omega)
        · exact Fr.app (Fr.cons hF (t := 5) rfl (by first | rfl | (simp; done) | omega) (Fr.nil hF)) (Fr.cons hF (t := 0) rfl rfl (Fr.cons hF (t := 1) rfl rfl (Fr.cons hF (t := 10) rfl rfl (Fr.nil hF))))
        · exact hW
    · intro h2 hF
      refine l_nil ?_
      replace hF := (hF.k 0 rfl (hF.k 1 rfl (hF.k 5 rfl (hF.k 10 rfl (hF.k 14 rfl hF.nil)))))
      refine t_n ?_
      refine c_f hF rfl ?_
      refine wp_exit ?_
      refine t_x ?_
      refine t_x ?_
      refine b_h ?_
      refine t_n ?_
      refine c_sr ?_
      refine pv hF hW (y_assign hF rfl) (fun a hF => ?_)
      refine l_nil ?_
      refine t_n ?_
      refine wp_ret ?_
      refine ret1 Try.results77 hF (rv_t hF rfl) ?_
      exact ⟨by simp [show l = m from list_eq_getD I0 (by omega) fun i hi => heq i (by omega)], hW.below⟩

theorem sys_eq {x y : SysD} (h1 : x.parts.length = y.parts.length) (h2 : x.chans.length = y.chans.length) (h3 : x.slots.length = y.slots.length)
    (k1 : ∀ i, i < x.parts.length → (x.parts.getD i P0).1 = (y.parts.getD i P0).1) (k2 : ∀ i, i < x.chans.length → x.chans.getD i C0 = y.chans.getD i C0) (k3 : ∀ i, i < x.slots.length → x.slots.getD i S0 = y.slots.getD i S0) : x.sys = y.sys := by
  have e1 : x.parts.map Prod.fst = y.parts.map Prod.fst := list_eq_getD P0.1 (by simpa using h1) fun i hi => by rw [getD_map, getD_map]; exact k1 i (by simpa using hi)
  simp only [SysD.sys, e1, list_eq_getD C0 h2 k2, list_eq_getD S0 h3 k3]
theorem sys_parts {x y : SysD} (h : x.sys = y.sys) (k : Nat) : (x.parts.getD k P0).1 = (y.parts.getD k P0).1 := by
  have h1 : (x.sys.parts).getD k P0.1 = (y.sys.parts).getD k P0.1 := by rw [h]
  simpa only [SysD.sys, getD_map] using h1
theorem sys_lens {x y : SysD} (h : x.sys = y.sys) : x.parts.length = y.parts.length ∧ x.chans = y.chans ∧ x.slots = y.slots := by
  have h1 : (x.sys.parts).length = (y.sys.parts).length := by rw [h]
  have h2 : x.sys.chans = y.sys.chans := by rw [h]
  have h3 : x.sys.slots = y.sys.slots := by rw [h]
  exact ⟨by simpa [SysD.sys] using h1, h2, h3⟩
theorem prt_eq {p q : Prt} (h1 : decide (p.code = q.code) = true) (h2 : decide (p.inp = q.inp) = true) : p = q := by
  cases p; cases q; simp_all

set_option maxHeartbeats 4000000 in
theorem sameSystems_any {x y : SysD} {w : World} (hx : x.At w) (hy : y.At w) :
    Calls Try.prog 37 #[x.val, y.val] w fun e w' => e = .returned (.bool (decide (x.sys = y.sys))) ∧ Below w.heap.size w w' := by
  have hl1 := hx.parts.len
  have hl2 := hx.chans.len
  have hl3 := hx.slots.len
  unfold maxLen at hl1 hl2 hl3
  rw [x.val_eq, y.val_eq]
  refine enter Try.func37 rfl Try.ntmps37 rfl (fun a hF => ?_)
  have hW := Wd.start w NoB
  refine c_sr ?_
  refine pe (e_box hF hW rfl rfl rfl rfl ?_)
  intro b1 a wc hF hW
  refine pe (e_box hF hW rfl rfl rfl rfl ?_)
  intro b2 a wc hF hW
  refine pv hF hW (y_assign hF rfl) (fun a hF => ?_)
  refine l_nil ?_
  refine t_n ?_
  refine c_s ?_
  refine c_sr ?_
  refine pv hF hW (y_fieldOwn hF rfl fa_68_0) (fun a hF => ?_)
  refine pv hF hW (y_loadOwn hF rfl 1 rfl rfl Try.underlying64 rfl) (fun a hF => ?_)
  refine pv hF hW (y_len hF rfl Try.underlying64) (fun a hF => ?_)
  refine pv hF hW (y_fieldOwn hF rfl fa_68_0) (fun a hF => ?_)
  refine pv hF hW (y_loadOwn hF rfl 0 rfl rfl Try.underlying64 rfl) (fun a hF => ?_)
  refine pv hF hW (y_len hF rfl Try.underlying64) (fun a hF => ?_)
  refine pv hF hW (y_neq hF rfl rfl) (fun a hF => ?_)
  refine Fr.splitD hF ?_ ?_
  · intro h3 hF
    refine pv hF hW (y_move hF rfl) (fun a hF => ?_)
    refine p_skip hF (wn hF rfl rfl rfl) rfl rfl (fun a hF => ?_)
    refine p_skip hF (wn hF rfl rfl rfl) rfl rfl (fun a hF => ?_)
    refine p_skip hF (wn hF rfl rfl rfl) rfl rfl (fun a hF => ?_)
    refine p_skip hF (wn hF rfl rfl rfl) rfl rfl (fun a hF => ?_)
    refine p_skip hF (wn hF rfl rfl rfl) rfl rfl (fun a hF => ?_)
    refine p_skip hF (wn hF rfl rfl rfl) rfl rfl (fun a hF => ?_)
    refine p_skip hF (wn hF rfl rfl rfl) rfl rfl (fun a hF => ?_)
    refine pv hF hW (y_pick hF rfl rfl) (fun a hF => ?_)
    refine pv hF hW (y_move hF rfl) (fun a hF => ?_)
    refine p_skip hF (wn hF rfl rfl rfl) rfl rfl (fun a hF => ?_)
    refine p_skip hF (wn hF rfl rfl rfl) rfl rfl (fun a hF => ?_)
    refine p_skip hF (wn hF rfl rfl rfl) rfl rfl (fun a hF => ?_)
    refine p_skip hF (wn hF rfl rfl rfl) rfl rfl (fun a hF => ?_)
    refine p_skip hF (wn hF rfl rfl rfl) rfl rfl (fun a hF => ?_)
    refine p_skip hF (wn hF rfl rfl rfl) rfl rfl (fun a hF => ?_)
    refine p_skip hF (wn hF rfl rfl rfl) rfl rfl (fun a hF => ?_)
    refine pv hF hW (y_pick hF rfl rfl) (fun a hF => ?_)
    refine l_nil ?_
    replace hF := (hF.k 0 rfl (hF.k 1 rfl (hF.k 2 rfl (hF.k 3 rfl (hF.k 4 rfl (hF.k 32 rfl hF.nil))))))
    refine t_n ?_
    refine c_t hF rfl ?_
    refine c_sr ?_
    replace hF := hF.drop 4
    refine pv hF hW (y_assign hF rfl) (fun a hF => ?_)
    refine l_nil ?_
    refine t_n ?_
    refine wp_ret ?_
    refine t_r ?_
    refine ret1 Try.results37 hF (rv_t hF rfl) ?_
    exact ⟨by rw [decide_eq_false fun e => by have q := (sys_lens e).1; omega], hW.below⟩
  · intro h3 hF
    refine pv hF hW (y_move hF rfl) (fun a hF => ?_)
    refine pv hF hW (y_fieldOwn hF rfl fa_68_1) (fun a hF => ?_) (ws hF rfl rfl)
    refine pv hF hW (y_loadOwn hF rfl 1 rfl rfl Try.underlying65 rfl) (fun a hF => ?_) (ws hF rfl rfl)
    refine pv hF hW (y_len hF rfl Try.underlying65) (fun a hF => ?_) (ws hF rfl rfl)
    refine pv hF hW (y_fieldOwn hF rfl fa_68_1) (fun a hF => ?_) (ws hF rfl rfl)
    refine pv hF hW (y_loadOwn hF rfl 0 rfl rfl Try.underlying65 rfl) (fun a hF => ?_) (ws hF rfl rfl)
    refine pv hF hW (y_len hF rfl Try.underlying65) (fun a hF => ?_) (ws hF rfl rfl)
    refine pv hF hW (y_neq hF rfl rfl) (fun a hF => ?_) (ws hF rfl rfl)
    refine Fr.splitD hF ?_ ?_
    · intro h4 hF
      refine pv hF hW (y_pick hF rfl rfl) (fun a hF => ?_)
      refine pv hF hW (y_move hF rfl) (fun a hF => ?_)
      refine p_skip hF (wn hF rfl rfl rfl) rfl rfl (fun a hF => ?_)
      refine p_skip hF (wn hF rfl rfl rfl) rfl rfl (fun a hF => ?_)
      refine p_skip hF (wn hF rfl rfl rfl) rfl rfl (fun a hF => ?_)
      refine p_skip hF (wn hF rfl rfl rfl) rfl rfl (fun a hF => ?_)
      refine p_skip hF (wn hF rfl rfl rfl) rfl rfl (fun a hF => ?_)
      refine p_skip hF (wn hF rfl rfl rfl) rfl rfl (fun a hF => ?_)
      refine p_skip hF (wn hF rfl rfl rfl) rfl rfl (fun a hF => ?_)
      refine pv hF hW (y_pick hF rfl rfl) (fun a hF => ?_)
      refine l_nil ?_
      replace hF := (hF.k 0 rfl (hF.k 1 rfl (hF.k 2 rfl (hF.k 3 rfl (hF.k 4 rfl (hF.k 32 rfl hF.nil))))))
      refine t_n ?_
      refine c_t hF rfl ?_
      refine c_sr ?_
      replace hF := hF.drop 4
      refine pv hF hW (y_assign hF rfl) (fun a hF => ?_)
      refine l_nil ?_
      refine t_n ?_
      refine wp_ret ?_
      refine t_r ?_
      refine ret1 Try.results37 hF (rv_t hF rfl) ?_
      exact ⟨by rw [decide_eq_false fun e => by have q := congrArg List.length (sys_lens e).2.1; omega], hW.below⟩
    · intro h4 hF
      refine pv hF hW (y_pick hF rfl rfl) (fun a hF => ?_)
      refine pv hF hW (y_move hF rfl) (fun a hF => ?_)
      refine pv hF hW (y_fieldOwn hF rfl fa_68_2) (fun a hF => ?_) (ws hF rfl rfl)
      refine pv hF hW (y_loadOwn hF rfl 1 rfl rfl Try.underlying66 rfl) (fun a hF => ?_) (ws hF rfl rfl)
      refine pv hF hW (y_len hF rfl Try.underlying66) (fun a hF => ?_) (ws hF rfl rfl)
      refine pv hF hW (y_fieldOwn hF rfl fa_68_2) (fun a hF => ?_) (ws hF rfl rfl)
      refine pv hF hW (y_loadOwn hF rfl 0 rfl rfl Try.underlying66 rfl) (fun a hF => ?_) (ws hF rfl rfl)
      refine pv hF hW (y_len hF rfl Try.underlying66) (fun a hF => ?_) (ws hF rfl rfl)
      refine pv hF hW (y_neq hF rfl rfl) (fun a hF => ?_) (ws hF rfl rfl)
      refine Fr.splitD hF ?_ ?_
      · intro h5 hF
        refine pv hF hW (y_pick hF rfl rfl) (fun a hF => ?_)
        refine l_nil ?_
        replace hF := (hF.k 0 rfl (hF.k 1 rfl (hF.k 2 rfl (hF.k 3 rfl (hF.k 4 rfl (hF.k 32 rfl hF.nil))))))
        refine t_n ?_
        refine c_t hF rfl ?_
        refine c_sr ?_
        replace hF := hF.drop 4
        refine pv hF hW (y_assign hF rfl) (fun a hF => ?_)
        refine l_nil ?_
        refine t_n ?_
        refine wp_ret ?_
        refine t_r ?_
        refine ret1 Try.results37 hF (rv_t hF rfl) ?_
        exact ⟨by rw [decide_eq_false fun e => by have q := congrArg List.length (sys_lens e).2.2; omega], hW.below⟩
      · intro h5 hF
        refine pv hF hW (y_pick hF rfl rfl) (fun a hF => ?_)
        refine l_nil ?_
        replace hF := (hF.k 0 rfl (hF.k 1 rfl (hF.k 2 rfl (hF.k 3 rfl (hF.k 4 rfl (hF.k 32 rfl hF.nil))))))
        refine t_n ?_
        refine c_f hF rfl ?_
        refine wp_skip ?_
        refine t_n ?_
        refine c_s ?_
        refine c_sr ?_
        refine pv hF hW (y_assign hF rfl) (fun a hF => ?_)
        refine l_nil ?_
        refine t_n ?_
        refine wp_block ?_
        refine c_loop (G := Nat) (fun k : Nat => [(5, .int .i64 (k : Int))]) (fun k : Nat => []) (fun k : Nat => k ≤ x.parts.length ∧ ∀ i, i < k → (x.parts.getD i P0).1 = (y.parts.getD i P0).1) (fun k : Nat => x.parts.length - k) 0 (Fr.cons hF (t := 0) rfl rfl (Fr.cons hF (t := 1) rfl rfl (Fr.cons hF (t := 2) rfl rfl (Fr.cons hF (t := 3) rfl rfl (Fr.cons hF (t := 32) rfl rfl (Fr.nil hF)))))) (Fr.cons hF (t := 5) rfl (by first | rfl | (simp; done)) (Fr.nil hF)) (hW) ?_ ?_
        · exact ⟨by omega, fun i hi => by omega⟩
        clear hF hW
        try clear a
        intro k a wc hC hF hW
        obtain ⟨hk, heq⟩ := hC
        refine c_s ?_
        refine c_sr ?_
        refine pv hF hW (y_move hF rfl) (fun a hF => ?_)
        refine pv hF hW (y_fieldOwn hF rfl fa_68_0) (fun a hF => ?_)
        refine pv hF hW (y_loadOwn hF rfl 1 rfl rfl Try.underlying64 rfl) (fun a hF => ?_)
        refine pv hF hW (y_len hF rfl Try.underlying64) (fun a hF => ?_)
        refine pv hF hW (y_lss hF rfl rfl) (fun a hF => ?_)
        refine Fr.splitD hF ?_ ?_
        · intro h6 hF
          refine l_nil ?_
          replace hF := (hF.k 0 rfl (hF.k 1 rfl (hF.k 2 rfl (hF.k 3 rfl (hF.k 5 rfl (hF.k 32 rfl (hF.k 37 rfl hF.nil)))))))
          refine t_n ?_
          refine c_t hF rfl ?_
          refine wp_skip ?_
          refine t_n ?_
          refine c_s ?_
          refine wp_block ?_
          refine c_sd mixed_ok hW (hW) ?_
          clear hW; intro wc hW hS
          refine dv 0 rfl hF hS (y_fieldOwn hF rfl fa_68_0) (fun a hF => ?_)
          refine dv 1 rfl hF hS (y_loadOwn hF rfl 1 rfl rfl Try.underlying64 rfl) (fun a hF => ?_)
          refine dv 2 rfl hF hS (y_move hF rfl) (fun a hF => ?_)
          refine dv 3 rfl hF hS (y_indexS hF rfl rfl (by first | omega | decide) Try.underlying64 sz_42 (fun w h => (hx.partsR).wd h)) (fun a hF => ?_)
          refine dv 4 rfl hF hS (y_fieldRow hF rfl fa_42_0) (fun a hF => ?_)
          refine dv 5 rfl hF hS (y_loadRow hF rfl (fun w h => (hx.partsR).wd h) (by first | omega | decide) rfl Try.underlying40 rfl) (fun a hF => ?_)
          refine dv 6 rfl hF hS (y_fieldOwn hF rfl fa_68_0) (fun a hF => ?_)
          refine dv 7 rfl hF hS (y_loadOwn hF rfl 0 rfl rfl Try.underlying64 rfl) (fun a hF => ?_)
          refine dv 8 rfl hF hS (y_move hF rfl) (fun a hF => ?_)
          refine dv 9 rfl hF hS (y_indexS hF rfl rfl (by first | omega | decide) Try.underlying64 sz_42 (fun w h => (hy.partsR).wd h)) (fun a hF => ?_)
          refine dv 10 rfl hF hS (y_fieldRow hF rfl fa_42_0) (fun a hF => ?_)
          refine dv 11 rfl hF hS (y_loadRow hF rfl (fun w h => (hy.partsR).wd h) (by first | omega | decide) rfl Try.underlying40 rfl) (fun a hF => ?_)
          refine d_1 12 (by kernel_rfl) ?_
          refine d_op rfl rfl (e_call hF rfl rfl en_77 (by rfl) rfl rfl (sameCode_any ((hx.part (k := k) (by omega)).below hW.below).code ((hy.part (k := k) (by omega)).below hW.below).code) ?_)
          rintro e w1 ⟨rfl, hb⟩
          replace hW := hW.kept hb
          clear hb
          refine ⟨_, rfl, fun a hF => ?_⟩
          refine Fr.splitB hF ?_ ?_
          · intro h7 hF
            refine ⟨hW, ?_⟩
            replace hS := hW
            refine dv 13 rfl hF hS (y_not hF rfl) (fun a hF => ?_)
            replace hF := Fr.bool (t := false) (by first | decide | (simp; done) | rfl) hF
            refine dv 14 rfl hF hS (y_move hF rfl) (fun a hF => ?_)
            replace hF := Fr.bool (t := false) (by first | decide | (simp; done) | rfl) hF
            refine dv 15 rfl hF hS (y_fieldOwn hF rfl fa_68_0) (fun a hF => ?_) (ws hF rfl rfl)
            refine dv 16 rfl hF hS (y_loadOwn hF rfl 1 rfl rfl Try.underlying64 rfl) (fun a hF => ?_) (ws hF rfl rfl)
            refine dv 17 rfl hF hS (y_move hF rfl) (fun a hF => ?_) (ws hF rfl rfl)
            refine dv 18 rfl hF hS (y_indexS hF rfl rfl (by first | omega | decide) Try.underlying64 sz_42 (fun w h => (hx.partsR).wd h)) (fun a hF => ?_) (ws hF rfl rfl)
            refine dv 19 rfl hF hS (y_fieldRow hF rfl fa_42_1) (fun a hF => ?_) (ws hF rfl rfl)
            refine dv 20 rfl hF hS (y_loadRow hF rfl (fun w h => (hx.partsR).wd h) (by first | omega | decide) rfl Try.underlying22 rfl) (fun a hF => ?_) (ws hF rfl rfl)
            refine dv 21 rfl hF hS (y_fieldOwn hF rfl fa_68_0) (fun a hF => ?_) (ws hF rfl rfl)
            refine dv 22 rfl hF hS (y_loadOwn hF rfl 0 rfl rfl Try.underlying64 rfl) (fun a hF => ?_) (ws hF rfl rfl)
            refine dv 23 rfl hF hS (y_move hF rfl) (fun a hF => ?_) (ws hF rfl rfl)
            refine dv 24 rfl hF hS (y_indexS hF rfl rfl (by first | omega | decide) Try.underlying64 sz_42 (fun w h => (hy.partsR).wd h)) (fun a hF => ?_) (ws hF rfl rfl)
            refine dv 25 rfl hF hS (y_fieldRow hF rfl fa_42_1) (fun a hF => ?_) (ws hF rfl rfl)
            refine dv 26 rfl hF hS (y_loadRow hF rfl (fun w h => (hy.partsR).wd h) (by first | omega | decide) rfl Try.underlying22 rfl) (fun a hF => ?_) (ws hF rfl rfl)
            refine d_1 27 (by kernel_rfl) ?_
            refine d_op rfl (ws hF rfl rfl) (e_call hF rfl rfl en_19 (by rfl) rfl rfl (sameIntsB ((hx.part (k := k) (by omega)).below hW.below).inp ((hy.part (k := k) (by omega)).below hW.below).inp) ?_)
            rintro e w1 ⟨rfl, hb⟩
            replace hW := hW.kept hb
            clear hb
            refine ⟨_, rfl, fun a hF => ?_⟩
            refine Fr.splitB hF ?_ ?_
            · intro h8 hF
              refine ⟨hW, ?_⟩
              replace hS := hW
              refine dv 28 rfl hF hS (y_not hF rfl) (fun a hF => ?_) (ws hF rfl rfl)
              replace hF := Fr.bool (t := false) (by first | decide | (simp; done) | rfl) hF
              refine dv 29 rfl hF hS (y_pick hF rfl rfl) (fun a hF => ?_)
              replace hF := Fr.bool (t := false) (by first | decide | (simp; done) | rfl) hF
              clear hS
              refine d_nil (by kernel_rfl) ?_
              replace hF := (hF.k 0 rfl (hF.k 1 rfl (hF.k 2 rfl (hF.k 3 rfl (hF.k 5 rfl (hF.k 32 rfl (hF.k 37 rfl (hF.k 69 rfl hF.nil))))))))
              refine t_n ?_
              refine c_f hF rfl ?_
              refine wp_skip ?_
              refine b_n ?_
              refine t_n ?_
              refine c_r ?_
              refine pv hF hW (y_move hF rfl) (fun a hF => ?_)
              refine pv hF hW (y_add hF rfl rfl (IntWalk.i64_in _ (by omega))) (fun a hF => ?_)
              replace hF := hF.drop 5
              refine pv hF hW (y_assign hF rfl) (fun a hF => ?_)
              refine l_nil ?_
              replace hF := (hF.k 0 rfl (hF.k 1 rfl (hF.k 2 rfl (hF.k 3 rfl (hF.k 5 rfl (hF.k 32 rfl (hF.k 37 rfl (hF.k 69 rfl hF.nil))))))))
              refine t_n ?_
              refine ⟨(k + 1), ?_, ?_, ?_, ?_⟩
              · exact ⟨by omega, fun i hi => by rcases Nat.lt_or_ge i k with h | h; exact heq i h; (have hik : i = k := by omega); rw [hik]; exact prt_eq (by simp_all) (by simp_all)⟩
              · first | omega | (dsimp only; omega)
              · exact Fr.app (Fr.cons hF (t := 5) rfl (by first | rfl | (simp; done) | omega) (Fr.nil hF)) (Fr.cons hF (t := 0) rfl rfl (Fr.cons hF (t := 1) rfl rfl (Fr.cons hF (t := 2) rfl rfl (Fr.cons hF (t := 3) rfl rfl (Fr.cons hF (t := 32) rfl rfl (Fr.nil hF))))))
              · exact hW
            · intro h8 hF
              refine ⟨hW, ?_⟩
              replace hS := hW
              refine dv 28 rfl hF hS (y_not hF rfl) (fun a hF => ?_) (ws hF rfl rfl)
              replace hF := Fr.bool (t := true) (by first | decide | (simp; done) | rfl) hF
              refine dv 29 rfl hF hS (y_pick hF rfl rfl) (fun a hF => ?_)
              replace hF := Fr.bool (t := true) (by first | decide | (simp; done) | rfl) hF
              clear hS
              refine d_nil (by kernel_rfl) ?_
              replace hF := (hF.k 0 rfl (hF.k 1 rfl (hF.k 2 rfl (hF.k 3 rfl (hF.k 5 rfl (hF.k 32 rfl (hF.k 37 rfl (hF.k 69 rfl hF.nil))))))))
              refine t_n ?_
              refine c_t hF rfl ?_
              refine c_sr ?_
              refine pv hF hW (y_assign hF rfl) (fun a hF => ?_)
              refine l_nil ?_
              refine t_n ?_
              refine wp_ret ?_
              refine b_r ?_
              refine t_r ?_
              refine t_r ?_
              refine b_r ?_
              refine t_r ?_
              refine ret1 Try.results37 hF (rv_t hF rfl) ?_
              exact ⟨by rw [decide_eq_false fun e => by have q := sys_parts e k; simp_all], hW.below⟩
          · intro h7 hF
            refine ⟨hW, ?_⟩
            replace hS := hW
            refine dv 13 rfl hF hS (y_not hF rfl) (fun a hF => ?_)
            replace hF := Fr.bool (t := true) (by first | decide | (simp; done) | rfl) hF
            refine dv 14 rfl hF hS (y_move hF rfl) (fun a hF => ?_)
            replace hF := Fr.bool (t := true) (by first | decide | (simp; done) | rfl) hF
            refine d_skip 15 rfl (by kernel_rfl) (by kernel_rfl) (by kernel_rfl) (fun _ _ _ h => h) hF (wn hF rfl rfl rfl) hS rfl rfl (fun a hF => ?_)
            refine d_skip 16 rfl (by kernel_rfl) (by kernel_rfl) (by kernel_rfl) (fun _ _ _ h => h) hF (wn hF rfl rfl rfl) hS rfl rfl (fun a hF => ?_)
            refine d_skip 17 rfl (by kernel_rfl) (by kernel_rfl) (by kernel_rfl) (fun _ _ _ h => h) hF (wn hF rfl rfl rfl) hS rfl rfl (fun a hF => ?_)
            refine d_skip 18 rfl (by kernel_rfl) (by kernel_rfl) (by kernel_rfl) (fun _ _ _ h => h) hF (wn hF rfl rfl rfl) hS rfl rfl (fun a hF => ?_)
            refine d_skip 19 rfl (by kernel_rfl) (by kernel_rfl) (by kernel_rfl) (fun _ _ _ h => h) hF (wn hF rfl rfl rfl) hS rfl rfl (fun a hF => ?_)
            refine d_skip 20 rfl (by kernel_rfl) (by kernel_rfl) (by kernel_rfl) (fun _ _ _ h => h) hF (wn hF rfl rfl rfl) hS rfl rfl (fun a hF => ?_)
            refine d_skip 21 rfl (by kernel_rfl) (by kernel_rfl) (by kernel_rfl) (fun _ _ _ h => h) hF (wn hF rfl rfl rfl) hS rfl rfl (fun a hF => ?_)
            refine d_skip 22 rfl (by kernel_rfl) (by kernel_rfl) (by kernel_rfl) (fun _ _ _ h => h) hF (wn hF rfl rfl rfl) hS rfl rfl (fun a hF => ?_)
            refine d_skip 23 rfl (by kernel_rfl) (by kernel_rfl) (by kernel_rfl) (fun _ _ _ h => h) hF (wn hF rfl rfl rfl) hS rfl rfl (fun a hF => ?_)
            refine d_skip 24 rfl (by kernel_rfl) (by kernel_rfl) (by kernel_rfl) (fun _ _ _ h => h) hF (wn hF rfl rfl rfl) hS rfl rfl (fun a hF => ?_)
            refine d_skip 25 rfl (by kernel_rfl) (by kernel_rfl) (by kernel_rfl) (fun _ _ _ h => h) hF (wn hF rfl rfl rfl) hS rfl rfl (fun a hF => ?_)
            refine d_skip 26 rfl (by kernel_rfl) (by kernel_rfl) (by kernel_rfl) (fun _ _ _ h => h) hF (wn hF rfl rfl rfl) hS rfl rfl (fun a hF => ?_)
            refine d_skip 27 rfl (by kernel_rfl) (by kernel_rfl) (by kernel_rfl) (fun _ _ _ h => h) hF (wn hF rfl rfl rfl) hS rfl rfl (fun a hF => ?_)
            refine d_skip 28 rfl (by kernel_rfl) (by kernel_rfl) (by kernel_rfl) (fun _ _ _ h => h) hF (wn hF rfl rfl rfl) hS rfl rfl (fun a hF => ?_)
            refine dv 29 rfl hF hS (y_pick hF rfl rfl) (fun a hF => ?_)
            clear hS
            refine d_nil (by kernel_rfl) ?_
            replace hF := (hF.k 0 rfl (hF.k 1 rfl (hF.k 2 rfl (hF.k 3 rfl (hF.k 5 rfl (hF.k 32 rfl (hF.k 37 rfl (hF.k 69 rfl hF.nil))))))))
            refine t_n ?_
            refine c_t hF rfl ?_
            refine c_sr ?_
            refine pv hF hW (y_assign hF rfl) (fun a hF => ?_)
            refine l_nil ?_
            refine t_n ?_
            refine wp_ret ?_
            refine b_r ?_
            refine t_r ?_
            refine t_r ?_
            refine b_r ?_
            refine t_r ?_
            refine ret1 Try.results37 hF (rv_t hF rfl) ?_
            exact ⟨by rw [decide_eq_false fun e => by have q := sys_parts e k; simp_all], hW.below⟩
        · intro h6 hF
          refine l_nil ?_
          replace hF := (hF.k 0 rfl (hF.k 1 rfl (hF.k 2 rfl (hF.k 3 rfl (hF.k 5 rfl (hF.k 32 rfl (hF.k 37 rfl hF.nil)))))))
          refine t_n ?_
          refine c_f hF rfl ?_
          refine wp_exit ?_
          refine t_x ?_
          refine t_x ?_
          refine b_h ?_
          refine t_n ?_
          refine c_s ?_
          refine c_sr ?_
          refine pv hF hW (y_assign hF rfl) (fun a hF => ?_)
          refine l_nil ?_
          refine t_n ?_
          refine wp_block ?_
          refine c_loop (G := Nat) (fun m : Nat => [(6, .int .i64 (m : Int))]) (fun m : Nat => []) (fun m : Nat => m ≤ x.chans.length ∧ ∀ i, i < m → x.chans.getD i C0 = y.chans.getD i C0) (fun m : Nat => x.chans.length - m) 0 (Fr.cons hF (t := 0) rfl rfl (Fr.cons hF (t := 1) rfl rfl (Fr.cons hF (t := 2) rfl rfl (Fr.cons hF (t := 3) rfl rfl (Fr.cons hF (t := 5) rfl rfl (Fr.cons hF (t := 32) rfl rfl (Fr.cons hF (t := 37) rfl rfl (Fr.nil hF)))))))) (Fr.cons hF (t := 6) rfl (by first | rfl | (simp; done)) (Fr.nil hF)) (hW) ?_ ?_
          · exact ⟨by omega, fun i hi => by omega⟩
          clear hF hW
          try clear a
          intro m a wc hC hF hW
          obtain ⟨hm, heqC⟩ := hC
          refine c_s ?_
          refine c_sr ?_
          refine pv hF hW (y_move hF rfl) (fun a hF => ?_)
          refine pv hF hW (y_fieldOwn hF rfl fa_68_1) (fun a hF => ?_)
          refine pv hF hW (y_loadOwn hF rfl 1 rfl rfl Try.underlying65 rfl) (fun a hF => ?_)
          refine pv hF hW (y_len hF rfl Try.underlying65) (fun a hF => ?_)
          refine pv hF hW (y_lss hF rfl rfl) (fun a hF => ?_)
          refine Fr.splitD hF ?_ ?_
          · intro h9 hF
            refine l_nil ?_
            replace hF := (hF.k 0 rfl (hF.k 1 rfl (hF.k 2 rfl (hF.k 3 rfl (hF.k 5 rfl (hF.k 6 rfl (hF.k 32 rfl (hF.k 37 rfl (hF.k 74 rfl hF.nil)))))))))
            refine t_n ?_
            refine c_t hF rfl ?_
            refine wp_skip ?_
            refine t_n ?_
            refine c_s ?_
            refine wp_block ?_
            refine c_sd mixed_ok hW (hW) ?_
            clear hW; intro wc hW hS
            refine dv 0 rfl hF hS (y_fieldOwn hF rfl fa_68_1) (fun a hF => ?_)
            refine dv 1 rfl hF hS (y_loadOwn hF rfl 1 rfl rfl Try.underlying65 rfl) (fun a hF => ?_)
            refine dv 2 rfl hF hS (y_move hF rfl) (fun a hF => ?_)
            refine dv 3 rfl hF hS (y_indexS hF rfl rfl (by first | omega | decide) Try.underlying65 sz_105 (fun w h => (hx.chansR).wd h)) (fun a hF => ?_)
            refine dv 4 rfl hF hS (y_loadRowW hF rfl (fun w h => (hx.chansR).wd h) (by first | omega | decide) Try.underlying105 rfl sz_105) (fun a hF => ?_)
            refine dv 5 rfl hF hS (y_fieldOwn hF rfl fa_68_1) (fun a hF => ?_)
            refine dv 6 rfl hF hS (y_loadOwn hF rfl 0 rfl rfl Try.underlying65 rfl) (fun a hF => ?_)
            refine dv 7 rfl hF hS (y_move hF rfl) (fun a hF => ?_)
            refine dv 8 rfl hF hS (y_indexS hF rfl rfl (by first | omega | decide) Try.underlying65 sz_105 (fun w h => (hy.chansR).wd h)) (fun a hF => ?_)
            refine dv 9 rfl hF hS (y_loadRowW hF rfl (fun w h => (hy.chansR).wd h) (by first | omega | decide) Try.underlying105 rfl sz_105) (fun a hF => ?_)
            refine dv 10 rfl hF hS (y_bin hF rfl rfl (fun w => net_105 _ _ _ _ _ _ _ _ w)) (fun a hF => ?_)
            refine Fr.splitD hF ?_ ?_
            · intro h10 hF
              clear hS
              refine d_nil (by kernel_rfl) ?_
              replace hF := (hF.k 0 rfl (hF.k 1 rfl (hF.k 2 rfl (hF.k 3 rfl (hF.k 5 rfl (hF.k 6 rfl (hF.k 32 rfl (hF.k 37 rfl (hF.k 74 rfl (hF.k 87 rfl hF.nil))))))))))
              refine t_n ?_
              refine c_t hF rfl ?_
              refine c_sr ?_
              refine pv hF hW (y_assign hF rfl) (fun a hF => ?_)
              refine l_nil ?_
              refine t_n ?_
              refine wp_ret ?_
              refine b_r ?_
              refine t_r ?_
              refine t_r ?_
              refine b_r ?_
              refine t_r ?_
              refine ret1 Try.results37 hF (rv_t hF rfl) ?_
              exact ⟨by rw [decide_eq_false fun e => by have q := (sys_lens e).2.1; simp_all], hW.below⟩
            · intro h10 hF
              clear hS
              refine d_nil (by kernel_rfl) ?_
              replace hF := (hF.k 0 rfl (hF.k 1 rfl (hF.k 2 rfl (hF.k 3 rfl (hF.k 5 rfl (hF.k 6 rfl (hF.k 32 rfl (hF.k 37 rfl (hF.k 74 rfl (hF.k 87 rfl hF.nil))))))))))
              refine t_n ?_
              refine c_f hF rfl ?_
              refine wp_skip ?_
              refine b_n ?_
              refine t_n ?_
              refine c_r ?_
              refine pv hF hW (y_move hF rfl) (fun a hF => ?_)
              refine pv hF hW (y_add hF rfl rfl (IntWalk.i64_in _ (by omega))) (fun a hF => ?_)
              replace hF := hF.drop 6
              refine pv hF hW (y_assign hF rfl) (fun a hF => ?_)
              refine l_nil ?_
              replace hF := (hF.k 0 rfl (hF.k 1 rfl (hF.k 2 rfl (hF.k 3 rfl (hF.k 5 rfl (hF.k 6 rfl (hF.k 32 rfl (hF.k 37 rfl (hF.k 74 rfl (hF.k 87 rfl hF.nil))))))))))
              refine t_n ?_
              refine ⟨(m + 1), ?_, ?_, ?_, ?_⟩
              · exact ⟨by omega, fun i hi => by rcases Nat.lt_or_ge i m with h | h; exact heqC i h; (have hik : i = m := by omega); rw [hik]; exact chn_eq (Decidable.of_not_not (by assumption))⟩
              · first | omega | (dsimp only; omega)
              · exact Fr.app (Fr.cons hF (t := 6) rfl (by first | rfl | (simp; done) | omega) (Fr.nil hF)) (Fr.cons hF (t := 0) rfl rfl (Fr.cons hF (t := 1) rfl rfl (Fr.cons hF (t := 2) rfl rfl (Fr.cons hF (t := 3) rfl rfl (Fr.cons hF (t := 5) rfl rfl (Fr.cons hF (t := 32) rfl rfl (Fr.cons hF (t := 37) rfl rfl (Fr.nil hF))))))))
              · exact hW
          · intro h9 hF
            refine l_nil ?_
            replace hF := (hF.k 0 rfl (hF.k 1 rfl (hF.k 2 rfl (hF.k 3 rfl (hF.k 5 rfl (hF.k 6 rfl (hF.k 32 rfl (hF.k 37 rfl (hF.k 74 rfl hF.nil)))))))))
            refine t_n ?_
            refine c_f hF rfl ?_
            refine wp_exit ?_
            refine t_x ?_
            refine t_x ?_
            refine b_h ?_
            refine t_n ?_
            refine c_s ?_
            refine c_sr ?_
            refine pv hF hW (y_assign hF rfl) (fun a hF => ?_)
            refine l_nil ?_
            refine t_n ?_
            refine wp_block ?_
            refine c_loop (G := Nat) (fun n : Nat => [(7, .int .i64 (n : Int))]) (fun n : Nat => []) (fun n : Nat => n ≤ x.slots.length ∧ ∀ i, i < n → x.slots.getD i S0 = y.slots.getD i S0) (fun n : Nat => x.slots.length - n) 0 (Fr.cons hF (t := 0) rfl rfl (Fr.cons hF (t := 1) rfl rfl (Fr.cons hF (t := 2) rfl rfl (Fr.cons hF (t := 3) rfl rfl (Fr.cons hF (t := 5) rfl rfl (Fr.cons hF (t := 6) rfl rfl (Fr.cons hF (t := 32) rfl rfl (Fr.cons hF (t := 37) rfl rfl (Fr.cons hF (t := 74) rfl rfl (Fr.nil hF)))))))))) (Fr.cons hF (t := 7) rfl (by first | rfl | (simp; done)) (Fr.nil hF)) (hW) ?_ ?_
            · exact ⟨by omega, fun i hi => by omega⟩
            clear hF hW
            try clear a
            intro n a wc hC hF hW
            obtain ⟨hn, heqS⟩ := hC
            refine c_s ?_
            refine c_sr ?_
            refine pv hF hW (y_move hF rfl) (fun a hF => ?_)
            refine pv hF hW (y_fieldOwn hF rfl fa_68_2) (fun a hF => ?_)
            refine pv hF hW (y_loadOwn hF rfl 1 rfl rfl Try.underlying66 rfl) (fun a hF => ?_)
            refine pv hF hW (y_len hF rfl Try.underlying66) (fun a hF => ?_)
            refine pv hF hW (y_lss hF rfl rfl) (fun a hF => ?_)
            refine Fr.splitD hF ?_ ?_
            · intro h11 hF
              refine l_nil ?_
              replace hF := (hF.k 0 rfl (hF.k 1 rfl (hF.k 2 rfl (hF.k 3 rfl (hF.k 5 rfl (hF.k 6 rfl (hF.k 7 rfl (hF.k 32 rfl (hF.k 37 rfl (hF.k 74 rfl (hF.k 92 rfl hF.nil)))))))))))
              refine t_n ?_
              refine c_t hF rfl ?_
              refine wp_skip ?_
              refine t_n ?_
              refine c_s ?_
              refine wp_block ?_
              refine c_sd mixed_ok hW (hW) ?_
              clear hW; intro wc hW hS
              refine dv 0 rfl hF hS (y_fieldOwn hF rfl fa_68_2) (fun a hF => ?_)
              refine dv 1 rfl hF hS (y_loadOwn hF rfl 1 rfl rfl Try.underlying66 rfl) (fun a hF => ?_)
              refine dv 2 rfl hF hS (y_move hF rfl) (fun a hF => ?_)
              refine dv 3 rfl hF hS (y_indexS hF rfl rfl (by first | omega | decide) Try.underlying66 sz_83 (fun w h => (hx.slotsR).wd h)) (fun a hF => ?_)
              refine dv 4 rfl hF hS (y_loadRowW hF rfl (fun w h => (hx.slotsR).wd h) (by first | omega | decide) Try.underlying83 rfl sz_83) (fun a hF => ?_)
              refine dv 5 rfl hF hS (y_fieldOwn hF rfl fa_68_2) (fun a hF => ?_)
              refine dv 6 rfl hF hS (y_loadOwn hF rfl 0 rfl rfl Try.underlying66 rfl) (fun a hF => ?_)
              refine dv 7 rfl hF hS (y_move hF rfl) (fun a hF => ?_)
              refine dv 8 rfl hF hS (y_indexS hF rfl rfl (by first | omega | decide) Try.underlying66 sz_83 (fun w h => (hy.slotsR).wd h)) (fun a hF => ?_)
              refine dv 9 rfl hF hS (y_loadRowW hF rfl (fun w h => (hy.slotsR).wd h) (by first | omega | decide) Try.underlying83 rfl sz_83) (fun a hF => ?_)
              refine dv 10 rfl hF hS (y_bin hF rfl rfl (fun w => net_83 _ _ _ _ _ _ w)) (fun a hF => ?_)
              refine Fr.splitD hF ?_ ?_
              · intro h12 hF
                clear hS
                refine d_nil (by kernel_rfl) ?_
                replace hF := (hF.k 0 rfl (hF.k 1 rfl (hF.k 2 rfl (hF.k 3 rfl (hF.k 5 rfl (hF.k 6 rfl (hF.k 7 rfl (hF.k 32 rfl (hF.k 37 rfl (hF.k 74 rfl (hF.k 92 rfl (hF.k 105 rfl hF.nil))))))))))))
                refine t_n ?_
                refine c_t hF rfl ?_
                refine c_sr ?_
                refine pv hF hW (y_assign hF rfl) (fun a hF => ?_)
                refine l_nil ?_
                refine t_n ?_
                refine wp_ret ?_
                refine b_r ?_
                refine t_r ?_
                refine t_r ?_
                refine b_r ?_
                refine t_r ?_
                refine ret1 Try.results37 hF (rv_t hF rfl) ?_
                exact ⟨by rw [decide_eq_false fun e => by have q := (sys_lens e).2.2; simp_all], hW.below⟩
              · intro h12 hF
                clear hS
                refine d_nil (by kernel_rfl) ?_
                replace hF := (hF.k 0 rfl (hF.k 1 rfl (hF.k 2 rfl (hF.k 3 rfl (hF.k 5 rfl (hF.k 6 rfl (hF.k 7 rfl (hF.k 32 rfl (hF.k 37 rfl (hF.k 74 rfl (hF.k 92 rfl (hF.k 105 rfl hF.nil))))))))))))
                refine t_n ?_
                refine c_f hF rfl ?_
                refine wp_skip ?_
                refine b_n ?_
                refine t_n ?_
                refine c_r ?_
                refine pv hF hW (y_move hF rfl) (fun a hF => ?_)
                refine pv hF hW (y_add hF rfl rfl (IntWalk.i64_in _ (by omega))) (fun a hF => ?_)
                replace hF := hF.drop 7
                refine pv hF hW (y_assign hF rfl) (fun a hF => ?_)
                refine l_nil ?_
                replace hF := (hF.k 0 rfl (hF.k 1 rfl (hF.k 2 rfl (hF.k 3 rfl (hF.k 5 rfl (hF.k 6 rfl (hF.k 7 rfl (hF.k 32 rfl (hF.k 37 rfl (hF.k 74 rfl (hF.k 92 rfl (hF.k 105 rfl hF.nil))))))))))))
                refine t_n ?_
                refine ⟨(n + 1), ?_, ?_, ?_, ?_⟩
                · exact ⟨by omega, fun i hi => by rcases Nat.lt_or_ge i n with h | h; exact heqS i h; (have hik : i = n := by omega); rw [hik]; exact slt_eq (Decidable.of_not_not (by assumption))⟩
                · first | omega | (dsimp only; omega)
                · exact Fr.app (Fr.cons hF (t := 7) rfl (by first | rfl | (simp; done) | omega) (Fr.nil hF)) (Fr.cons hF (t := 0) rfl rfl (Fr.cons hF (t := 1) rfl rfl (Fr.cons hF (t := 2) rfl rfl (Fr.cons hF (t := 3) rfl rfl (Fr.cons hF (t := 5) rfl rfl (Fr.cons hF (t := 6) rfl rfl (Fr.cons hF (t := 32) rfl rfl (Fr.cons hF (t := 37) rfl rfl (Fr.cons hF (t := 74) rfl rfl (Fr.nil hF))))))))))
                · exact hW
            · intro h11 hF
              refine l_nil ?_
              replace hF := (hF.k 0 rfl (hF.k 1 rfl (hF.k 2 rfl (hF.k 3 rfl (hF.k 5 rfl (hF.k 6 rfl (hF.k 7 rfl (hF.k 32 rfl (hF.k 37 rfl (hF.k 74 rfl (hF.k 92 rfl hF.nil)))))))))))
              refine t_n ?_
              refine c_f hF rfl ?_
              refine wp_exit ?_
              refine t_x ?_
              refine t_x ?_
              refine b_h ?_
              refine t_n ?_
              refine c_sr ?_
              refine pv hF hW (y_assign hF rfl) (fun a hF => ?_)
              refine l_nil ?_
              refine t_n ?_
              refine wp_ret ?_
              refine ret1 Try.results37 hF (rv_t hF rfl) ?_
              exact ⟨by rw [decide_eq_true (sys_eq (by omega) (by omega) (by omega) (fun i hi => heq i (by omega)) (fun i hi => heqC i (by omega)) (fun i hi => heqS i (by omega)))], hW.below⟩

/-! ### CheckSystem -/
theorem kindK_any (k : Int) (w : World) : Calls Try.prog 44 #[.int .i64 k] w fun e w' => e = .returned (.bool (kindOk k)) ∧ Below w.heap.size w w' := by
  refine enter Try.func44 rfl Try.ntmps44 rfl (fun a hF => ?_)
  have hW := Wd.start w NoB
  refine c_sr ?_
  refine pv hF hW (y_assign hF rfl) (fun a hF => ?_)
  refine l_nil ?_
  refine t_n ?_
  refine c_sr ?_
  refine pv hF hW (y_move hF rfl) (fun a hF => ?_)
  refine pv hF hW (y_eql hF rfl rfl) (fun a hF => ?_)
  refine Fr.splitD hF ?_ ?_
  · intro h1 hF
    refine pv hF hW (y_move hF rfl) (fun a hF => ?_)
    refine p_skip hF (wn hF rfl rfl rfl) rfl rfl (fun a hF => ?_)
    refine p_skip hF (wn hF rfl rfl rfl) rfl rfl (fun a hF => ?_)
    refine pv hF hW (y_pick hF rfl rfl) (fun a hF => ?_)
    replace hF := hF.drop 2
    refine pv hF hW (y_assign hF rfl) (fun a hF => ?_)
    refine l_nil ?_
    replace hF := (hF.k 0 rfl (hF.k 2 rfl hF.nil))
    refine t_n ?_
    refine wp_ret ?_
    refine ret1 Try.results44 hF (rv_t hF rfl) ?_
    exact ⟨by simp [kindOk]; simp_all, hW.below⟩
  · intro h1 hF
    refine pv hF hW (y_move hF rfl) (fun a hF => ?_)
    refine pv hF hW (y_move hF rfl) (fun a hF => ?_) (ws hF rfl rfl)
    refine pv hF hW (y_eql hF rfl rfl) (fun a hF => ?_) (ws hF rfl rfl)
    refine Fr.splitD hF ?_ ?_
    · intro h2 hF
      refine pv hF hW (y_pick hF rfl rfl) (fun a hF => ?_)
      replace hF := hF.drop 2
      refine pv hF hW (y_assign hF rfl) (fun a hF => ?_)
      refine l_nil ?_
      replace hF := (hF.k 0 rfl (hF.k 2 rfl hF.nil))
      refine t_n ?_
      refine wp_ret ?_
      refine ret1 Try.results44 hF (rv_t hF rfl) ?_
      exact ⟨by simp [kindOk]; simp_all, hW.below⟩
    · intro h2 hF
      refine pv hF hW (y_pick hF rfl rfl) (fun a hF => ?_)
      replace hF := hF.drop 2
      refine pv hF hW (y_assign hF rfl) (fun a hF => ?_)
      refine l_nil ?_
      replace hF := (hF.k 0 rfl (hF.k 2 rfl hF.nil))
      refine t_n ?_
      refine wp_ret ?_
      refine ret1 Try.results44 hF (rv_t hF rfl) ?_
      exact ⟨by simp [kindOk]; simp_all, hW.below⟩
theorem chkSys_2 {s : Sys} (h : sizesOk s = false) : chkSys s = 2 := if_pos h
theorem chkSys_c {s : Sys} (h : sizesOk s = true) (h2 : firstCode s.parts ≠ 0) : chkSys s = firstCode s.parts := by
  unfold chkSys; rw [if_neg (by simp [h]), if_pos h2]
theorem chkSys_4 {s : Sys} (h : sizesOk s = true) (h2 : firstCode s.parts = 0) (h3 : (s.chans.all fun c => kindOk c.kind) = false) : chkSys s = 4 := by
  unfold chkSys; rw [if_neg (by simp [h]), if_neg (by simp [h2]), if_pos h3]
theorem chkSys_3 {s : Sys} (h : sizesOk s = true) (h2 : firstCode s.parts = 0) (h3 : (s.chans.all fun c => kindOk c.kind) = true) (h4 : s.chans.all (chnOk s.parts.length) = false) : chkSys s = 3 := by
  unfold chkSys; rw [if_neg (by simp [h]), if_neg (by simp [h2]), if_neg (by simp [h3]), if_pos h4]
theorem chkSys_3' {s : Sys} (h : sizesOk s = true) (h2 : firstCode s.parts = 0) (h3 : (s.chans.all fun c => kindOk c.kind) = true) (h4 : s.chans.all (chnOk s.parts.length) = true) (h5 : s.slots.all (sltOk s.parts.length) = false) : chkSys s = 3 := by
  unfold chkSys; rw [if_neg (by simp [h]), if_neg (by simp [h2]), if_neg (by simp [h3]), if_neg (by simp [h4]), if_pos h5]
theorem chkSys_1 {s : Sys} (h : sizesOk s = true) (h2 : firstCode s.parts = 0) (h3 : (s.chans.all fun c => kindOk c.kind) = true) (h4 : s.chans.all (chnOk s.parts.length) = true) (h5 : s.slots.all (sltOk s.parts.length) = true) (h6 : namesFrom s.chans 0 s.parts = false) : chkSys s = 1 := by
  unfold chkSys; rw [if_neg (by simp [h]), if_neg (by simp [h2]), if_neg (by simp [h3]), if_neg (by simp [h4]), if_neg (by simp [h5]), if_pos h6]
theorem chkSys_0 {s : Sys} (h : sizesOk s = true) (h2 : firstCode s.parts = 0) (h3 : (s.chans.all fun c => kindOk c.kind) = true) (h4 : s.chans.all (chnOk s.parts.length) = true) (h5 : s.slots.all (sltOk s.parts.length) = true) (h6 : namesFrom s.chans 0 s.parts = true) : chkSys s = 0 := by
  unfold chkSys; rw [if_neg (by simp [h]), if_neg (by simp [h2]), if_neg (by simp [h3]), if_neg (by simp [h4]), if_neg (by simp [h5]), if_neg (by simp [h6])]
section
variable {x : SysD}
theorem sizes_true (h1 : 1 ≤ x.parts.length ∧ x.parts.length ≤ 4) (h2 : x.chans.length ≤ 6) (h3 : 1 ≤ x.slots.length ∧ x.slots.length ≤ 6) (h4 : ∀ i, i < x.parts.length → (x.parts.getD i P0).1.inp.length ≤ 12) : sizesOk x.sys = true := by
  have e : (x.parts.map Prod.fst).all (fun p : Prt => decide (p.inp.length ≤ 12)) = true := (all_getD P0.1).2 fun k hk => by
    rw [getD_map]
    exact decide_eq_true (h4 k (by simpa using hk))
  simp only [sizesOk, SysD.sys, List.length_map, e, Bool.and_true, decide_eq_true_eq]
  exact ⟨h1.1, h1.2, h2, h3.1, h3.2⟩
theorem sizes_false (h : ¬ ((1 ≤ x.parts.length ∧ x.parts.length ≤ 4) ∧ x.chans.length ≤ 6 ∧ (1 ≤ x.slots.length ∧ x.slots.length ≤ 6))) : sizesOk x.sys = false := by
  simp only [sizesOk, SysD.sys, List.length_map]
  rw [decide_eq_false (by omega), Bool.false_and]
theorem sizes_inp {k : Nat} (hk : k < x.parts.length) (h : 12 < (x.parts.getD k P0).1.inp.length) : sizesOk x.sys = false := by
  have e : (x.parts.map Prod.fst).all (fun p : Prt => decide (p.inp.length ≤ 12)) = false := all_false P0.1 (k := k) (by simpa using hk) (by rw [getD_map]; exact decide_eq_false (by omega))
  simp only [sizesOk, SysD.sys, e, Bool.and_false]
theorem first_step {k : Nat} (hk : k < x.parts.length) (h : firstCode x.sys.parts = firstCode (x.sys.parts.drop k)) (h0 : chkCode (x.parts.getD k P0).1.code = 0) : firstCode x.sys.parts = firstCode (x.sys.parts.drop (k + 1)) := by
  have hk' : k < x.sys.parts.length := by simpa [SysD.sys] using hk
  rw [h, firstCode_drop hk', if_pos]
  have : x.sys.parts[k] = (x.parts.getD k P0).1 := by simp [SysD.sys, List.getD, List.getElem?_eq_getElem hk]
  rw [this]; exact h0
theorem first_at {k : Nat} (hk : k < x.parts.length) (h : firstCode x.sys.parts = firstCode (x.sys.parts.drop k)) (h0 : chkCode (x.parts.getD k P0).1.code ≠ 0) : firstCode x.sys.parts = chkCode (x.parts.getD k P0).1.code := by
  have hk' : k < x.sys.parts.length := by simpa [SysD.sys] using hk
  have : x.sys.parts[k] = (x.parts.getD k P0).1 := by simp [SysD.sys, List.getD, List.getElem?_eq_getElem hk]
  rw [h, firstCode_drop hk', this, if_neg h0]
theorem first_end (h : firstCode x.sys.parts = firstCode (x.sys.parts.drop x.parts.length)) : firstCode x.sys.parts = 0 := by
  rw [h, List.drop_of_length_le (by simp [SysD.sys])]; rfl
theorem names_true (h : ∀ k, k < x.parts.length → ∀ i, i < (x.parts.getD k P0).1.code.length → insOk x.chans k ((x.parts.getD k P0).1.code.getD i I0) = true) : namesFrom x.sys.chans 0 x.sys.parts = true :=
  (namesFrom_iff _ _ _).2 fun k hk => by
    have e : (x.sys.parts.getD k ⟨[], []⟩) = (x.parts.getD k P0).1 := getD_map Prod.fst k P0
    rw [e, Nat.zero_add]
    exact (all_getD I0).2 fun i hi => h k (by simpa [SysD.sys] using hk) i hi
theorem names_false {k i : Nat} (hk : k < x.parts.length) (hi : i < (x.parts.getD k P0).1.code.length) (h : insOk x.chans k ((x.parts.getD k P0).1.code.getD i I0) = false) : namesFrom x.sys.chans 0 x.sys.parts = false := by
  cases hn : namesFrom x.sys.chans 0 x.sys.parts
  · rfl
  · have := (namesFrom_iff _ _ _).1 hn k (by simpa [SysD.sys] using hk)
    have e : (x.sys.parts.getD k ⟨[], []⟩) = (x.parts.getD k P0).1 := getD_map Prod.fst k P0
    rw [e, Nat.zero_add, (all_getD I0)] at this
    exact absurd (h.symm.trans (this i hi)) Bool.false_ne_true
/-- the code of a partition that was found right -/
theorem codes_ok (h : firstCode x.sys.parts = 0) {k : Nat} (hk : k < x.parts.length) : chkCode (x.parts.getD k P0).1.code = 0 := by
  have key : ∀ (l : List Prt), firstCode l = 0 → ∀ p, p ∈ l → chkCode p.code = 0 := by
    intro l
    induction l with
    | nil => intro _ p hp; cases hp
    | cons q r ih =>
      intro h0 p hp
      unfold firstCode at h0
      split at h0
      · rcases List.mem_cons.1 hp with rfl | hp
        · assumption
        · exact ih h0 p hp
      · exact absurd h0 (by assumption)
  exact key _ h _ (List.mem_map.2 ⟨_, mem_getD P0 hk, rfl⟩)
end

theorem insNum {i : Ins} (h : chkIns i = 0) : i.op = 12 ∨ i.op = 13 → 0 ≤ i.n ∧ i.n < 6 := by
  unfold chkIns chkI at h
  by_cases h1 : ¬ (1 ≤ i.op ∧ i.op ≤ 15)
  · rw [if_pos h1] at h; cases h
  · rw [if_neg h1] at h
    by_cases h2 : (hasA i.op && !regOk i.a || hasB i.op && !regOk i.b) = true
    · rw [if_pos h2] at h; cases h
    · rw [if_neg h2] at h
      by_cases h3 : numOk i.op i.n = false
      · rw [if_pos h3] at h; cases h
      · have h4 : numOk i.op i.n = true := by simpa using h3
        intro h12
        unfold numOk at h4
        rw [if_neg (by omega), if_pos h12] at h4
        simpa using h4
theorem chan_num {x : SysD} (h : firstCode x.sys.parts = 0) {k i : Nat} (hk : k < x.parts.length) (hi : i < (x.parts.getD k P0).1.code.length) (ho : ((x.parts.getD k P0).1.code.getD i I0).op = 12 ∨ ((x.parts.getD k P0).1.code.getD i I0).op = 13) : 0 ≤ ((x.parts.getD k P0).1.code.getD i I0).n ∧ ((x.parts.getD k P0).1.code.getD i I0).n < 6 :=
  insNum ((chkCode_all (codes_ok h hk)).2 _ (mem_getD I0 hi)) ho
theorem chan_nat {x : SysD} (h : firstCode x.sys.parts = 0) {k i : Nat} (hk : k < x.parts.length) (hi : i < (x.parts.getD k P0).1.code.length) (ho : ((x.parts.getD k P0).1.code.getD i I0).op = 12 ∨ ((x.parts.getD k P0).1.code.getD i I0).op = 13) :
    Value.int .i64 ((x.parts.getD k P0).1.code.getD i I0).n = .int .i64 ((((x.parts.getD k P0).1.code.getD i I0).n.toNat : Nat) : Int) := by
  rw [Int.toNat_of_nonneg (chan_num h hk hi ho).1]
theorem code_le {x : SysD} (h : firstCode x.sys.parts = 0) {k : Nat} (hk : k < x.parts.length) : (x.parts.getD k P0).1.code.length ≤ 20 := (chkCode_all (codes_ok h hk)).1.2

theorem ins_bad12 {cs : List Chn} {p : Nat} {i : Ins} (h : i.op = 12) (h2 : (cs.length : Int) ≤ i.n ∨ (cs.getD i.n.toNat C0).from_ ≠ p) : insOk cs p i = false := by
  unfold insOk
  rcases h2 with h2 | h2
  · rw [decide_eq_false (by omega : ¬ i.n < cs.length)]; simp [h]
  · rw [show ((cs.getD i.n.toNat C0).from_ == (p : Int)) = false by simpa using h2]; simp [h]
theorem ins_bad13 {cs : List Chn} {p : Nat} {i : Ins} (h : i.op = 13) (h2 : (cs.length : Int) ≤ i.n ∨ (cs.getD i.n.toNat C0).to_ ≠ p) : insOk cs p i = false := by
  unfold insOk
  rcases h2 with h2 | h2
  · rw [decide_eq_false (by omega : ¬ i.n < cs.length)]; simp [h]
  · rw [show ((cs.getD i.n.toNat C0).to_ == (p : Int)) = false by simpa using h2]; simp [h]
theorem ins_good {cs : List Chn} {p : Nat} {i : Ins} (h1 : i.op = 12 → i.n < cs.length ∧ (cs.getD i.n.toNat C0).from_ = p) (h2 : i.op = 13 → i.n < cs.length ∧ (cs.getD i.n.toNat C0).to_ = p) : insOk cs p i = true := by
  unfold insOk
  by_cases h12 : i.op = 12
  · obtain ⟨a, b⟩ := h1 h12
    rw [decide_eq_true a, b]
    simp [h12]
  · by_cases h13 : i.op = 13
    · obtain ⟨a, b⟩ := h2 h13
      rw [decide_eq_true a, b]
      simp [h13]
    · simp [h12, h13]
theorem chn_good {n : Nat} {c : Chn} (h1 : 0 ≤ c.from_ ∧ c.from_ < n) (h2 : 0 ≤ c.to_ ∧ c.to_ < n) (h3 : c.from_ ≠ c.to_) : chnOk n c = true := by
  unfold chnOk partOk
  rw [decide_eq_true h1, decide_eq_true h2]
  simpa using h3
theorem chn_bad {x : SysD} {m : Nat} (hm : m < x.chans.length) (h : ¬ ((0 ≤ (x.chans.getD m C0).from_ ∧ (x.chans.getD m C0).from_ < x.parts.length) ∧ (0 ≤ (x.chans.getD m C0).to_ ∧ (x.chans.getD m C0).to_ < x.parts.length) ∧ (x.chans.getD m C0).from_ ≠ (x.chans.getD m C0).to_)) : x.sys.chans.all (chnOk x.sys.parts.length) = false := by
  refine all_false C0 (k := m) hm ?_
  cases hc : chnOk x.sys.parts.length (x.sys.chans.getD m C0)
  · rfl
  · exfalso
    apply h
    simp only [chnOk, partOk, SysD.sys, List.length_map, Bool.and_eq_true, decide_eq_true_eq, bne_iff_ne, ne_eq] at hc
    exact ⟨hc.1, hc.2.1, hc.2.2⟩
theorem slt_good {n : Nat} {c : Slt} (h1 : 0 ≤ c.part ∧ c.part < n) (h2 : 1 ≤ c.ticks ∧ c.ticks ≤ 8) : sltOk n c = true := by
  unfold sltOk partOk
  rw [decide_eq_true h1, decide_eq_true h2]
  rfl
theorem slt_bad {x : SysD} {m : Nat} (hm : m < x.slots.length) (h : ¬ ((0 ≤ (x.slots.getD m S0).part ∧ (x.slots.getD m S0).part < x.parts.length) ∧ 1 ≤ (x.slots.getD m S0).ticks ∧ (x.slots.getD m S0).ticks ≤ 8)) : x.sys.slots.all (sltOk x.sys.parts.length) = false := by
  refine all_false S0 (k := m) hm ?_
  cases hc : sltOk x.sys.parts.length (x.sys.slots.getD m S0)
  · rfl
  · exfalso
    apply h
    simp only [sltOk, partOk, SysD.sys, List.length_map, Bool.and_eq_true, decide_eq_true_eq] at hc
    exact ⟨hc.1, of_decide_eq_true hc.2⟩

set_option maxHeartbeats 8000000 in
theorem checkSystem_any {x : SysD} {w : World} (hx : x.At w) :
    Calls Try.prog 36 #[x.val] w fun e w' => e = .returned (.int .i64 (chkSys x.sys)) ∧ Below w.heap.size w w' := by
  have hl1 := hx.parts.len
  have hl2 := hx.chans.len
  have hl3 := hx.slots.len
  unfold maxLen at hl1 hl2 hl3
  rw [x.val_eq]
  refine enter Try.func36 rfl Try.ntmps36 rfl (fun a hF => ?_)
  have hW := Wd.start w NoB
  refine c_sr ?_
  refine pe (e_box hF hW rfl rfl rfl rfl ?_)
  intro b1 a wc hF hW
  refine pv hF hW (y_assign hF rfl) (fun a hF => ?_)
  refine l_nil ?_
  refine t_n ?_
  refine c_sr ?_
  refine pv hF hW (y_fieldOwn hF rfl fa_68_0) (fun a hF => ?_)
  refine pv hF hW (y_loadOwn hF rfl 0 rfl rfl Try.underlying64 rfl) (fun a hF => ?_)
  refine pv hF hW (y_len hF rfl Try.underlying64) (fun a hF => ?_)
  refine pv hF hW (y_assign hF rfl) (fun a hF => ?_)
  refine l_nil ?_
  replace hF := (hF.k 0 rfl (hF.k 1 rfl (hF.k 2 rfl (hF.k 3 rfl hF.nil))))
  refine t_n ?_
  refine c_s ?_
  refine c_sr ?_
  refine pv hF hW (y_move hF rfl) (fun a hF => ?_)
  refine pe (e_call hF rfl rfl en_50 (by rfl) rfl rfl (withinD_any _ _ _ _) ?_)
  rintro e w1 ⟨rfl, hb⟩
  replace hW := hW.kept hb
  clear hb
  refine ⟨_, rfl, fun a hF => ?_⟩
  refine Fr.splitB hF ?_ ?_
  · intro h2 hF
    refine pv hF hW (y_not hF rfl) (fun a hF => ?_)
    replace hF := Fr.bool (t := false) (by first | decide | (simp; done) | rfl) hF
    refine pv hF hW (y_move hF rfl) (fun a hF => ?_)
    replace hF := Fr.bool (t := false) (by first | decide | (simp; done) | rfl) hF
    refine pv hF hW (y_fieldOwn hF rfl fa_68_1) (fun a hF => ?_) (ws hF rfl rfl)
    refine pv hF hW (y_loadOwn hF rfl 0 rfl rfl Try.underlying65 rfl) (fun a hF => ?_) (ws hF rfl rfl)
    refine pv hF hW (y_len hF rfl Try.underlying65) (fun a hF => ?_) (ws hF rfl rfl)
    refine pv hF hW (y_gtr hF rfl rfl) (fun a hF => ?_) (ws hF rfl rfl)
    refine Fr.splitD hF ?_ ?_
    · intro h3 hF
      refine pv hF hW (y_pick hF rfl rfl) (fun a hF => ?_)
      refine pv hF hW (y_move hF rfl) (fun a hF => ?_)
      refine p_skip hF (wn hF rfl rfl rfl) rfl rfl (fun a hF => ?_)
      refine p_skip hF (wn hF rfl rfl rfl) rfl rfl (fun a hF => ?_)
      refine p_skip hF (wn hF rfl rfl rfl) rfl rfl (fun a hF => ?_)
      refine p_skip hF (wn hF rfl rfl rfl) rfl rfl (fun a hF => ?_)
      refine p_skip hF (wn hF rfl rfl rfl) rfl rfl (fun a hF => ?_)
      refine pv hF hW (y_pick hF rfl rfl) (fun a hF => ?_)
      refine l_nil ?_
      replace hF := (hF.k 0 rfl (hF.k 1 rfl (hF.k 2 rfl (hF.k 3 rfl (hF.k 32 rfl hF.nil)))))
      refine t_n ?_
      refine c_t hF rfl ?_
      refine c_sr ?_
      replace hF := hF.drop 2
      refine pv hF hW (y_assign hF rfl) (fun a hF => ?_)
      refine l_nil ?_
      refine t_n ?_
      refine wp_ret ?_
      refine t_r ?_
      refine ret1 Try.results36 hF (rv_t hF rfl) ?_
      exact ⟨by rw [chkSys_2 (sizes_false (by omega))], hW.below⟩
    · intro h3 hF
      refine pv hF hW (y_pick hF rfl rfl) (fun a hF => ?_)
      refine pv hF hW (y_move hF rfl) (fun a hF => ?_)
      refine pv hF hW (y_fieldOwn hF rfl fa_68_2) (fun a hF => ?_) (ws hF rfl rfl)
      refine pv hF hW (y_loadOwn hF rfl 0 rfl rfl Try.underlying66 rfl) (fun a hF => ?_) (ws hF rfl rfl)
      refine pv hF hW (y_len hF rfl Try.underlying66) (fun a hF => ?_) (ws hF rfl rfl)
      refine pe (e_call hF rfl rfl en_50 (by rfl) rfl rfl (withinD_any _ _ _ _) ?_) (ws hF rfl rfl)
      rintro e w1 ⟨rfl, hb⟩
      replace hW := hW.kept hb
      clear hb
      refine ⟨_, rfl, fun a hF => ?_⟩
      refine Fr.splitB hF ?_ ?_
      · intro h4 hF
        refine pv hF hW (y_not hF rfl) (fun a hF => ?_) (ws hF rfl rfl)
        replace hF := Fr.bool (t := false) (by first | decide | (simp; done) | rfl) hF
        refine pv hF hW (y_pick hF rfl rfl) (fun a hF => ?_)
        replace hF := Fr.bool (t := false) (by first | decide | (simp; done) | rfl) hF
        refine l_nil ?_
        replace hF := (hF.k 0 rfl (hF.k 1 rfl (hF.k 2 rfl (hF.k 3 rfl (hF.k 32 rfl hF.nil)))))
        refine t_n ?_
        refine c_f hF rfl ?_
        refine wp_skip ?_
        refine t_n ?_
        refine c_s ?_
        refine c_sr ?_
        refine pv hF hW (y_assign hF rfl) (fun a hF => ?_)
        refine l_nil ?_
        refine t_n ?_
        refine wp_block ?_
        refine c_loop (G := Nat) (fun k : Nat => [(4, .int .i64 (k : Int))]) (fun k : Nat => []) (fun k : Nat => k ≤ x.parts.length ∧ ∀ i, i < k → (x.parts.getD i P0).1.inp.length ≤ 12) (fun k : Nat => x.parts.length - k) 0 (Fr.cons hF (t := 0) rfl rfl (Fr.cons hF (t := 1) rfl rfl (Fr.cons hF (t := 3) rfl rfl (Fr.cons hF (t := 32) rfl rfl (Fr.nil hF))))) (Fr.cons hF (t := 4) rfl (by first | rfl | (simp; done)) (Fr.nil hF)) (hW) ?_ ?_
        · exact ⟨by omega, fun i hi => by omega⟩
        clear hF hW
        try clear a
        intro k a wc hC hF hW
        obtain ⟨hk, hinp⟩ := hC
        refine c_s ?_
        refine c_sr ?_
        refine pv hF hW (y_move hF rfl) (fun a hF => ?_)
        refine pv hF hW (y_move hF rfl) (fun a hF => ?_)
        refine pv hF hW (y_lss hF rfl rfl) (fun a hF => ?_)
        refine Fr.splitD hF ?_ ?_
        · intro h5 hF
          refine l_nil ?_
          replace hF := (hF.k 0 rfl (hF.k 1 rfl (hF.k 3 rfl (hF.k 4 rfl (hF.k 32 rfl (hF.k 35 rfl hF.nil))))))
          refine t_n ?_
          refine c_t hF rfl ?_
          refine wp_skip ?_
          refine t_n ?_
          refine c_s ?_
          refine wp_block ?_
          refine c_sr ?_
          refine pv hF hW (y_fieldOwn hF rfl fa_68_0) (fun a hF => ?_)
          refine pv hF hW (y_loadOwn hF rfl 0 rfl rfl Try.underlying64 rfl) (fun a hF => ?_)
          refine pv hF hW (y_move hF rfl) (fun a hF => ?_)
          refine pv hF hW (y_indexS hF rfl rfl (by first | omega | decide) Try.underlying64 sz_42 (fun w h => (hx.partsR).wd h)) (fun a hF => ?_)
          refine pv hF hW (y_fieldRow hF rfl fa_42_1) (fun a hF => ?_)
          refine pv hF hW (y_loadRow hF rfl (fun w h => (hx.partsR).wd h) (by first | omega | decide) rfl Try.underlying22 rfl) (fun a hF => ?_)
          refine pv hF hW (y_len hF rfl Try.underlying22) (fun a hF => ?_)
          refine pv hF hW (y_gtr hF rfl rfl) (fun a hF => ?_)
          refine Fr.splitD hF ?_ ?_
          · intro h6 hF
            refine l_nil ?_
            replace hF := (hF.k 0 rfl (hF.k 1 rfl (hF.k 3 rfl (hF.k 4 rfl (hF.k 32 rfl (hF.k 35 rfl (hF.k 45 rfl hF.nil)))))))
            refine t_n ?_
            refine c_t hF rfl ?_
            refine c_sr ?_
            refine pv hF hW (y_assign hF rfl) (fun a hF => ?_)
            refine l_nil ?_
            refine t_n ?_
            refine wp_ret ?_
            refine b_r ?_
            refine t_r ?_
            refine t_r ?_
            refine b_r ?_
            refine t_r ?_
            refine ret1 Try.results36 hF (rv_t hF rfl) ?_
            exact ⟨by rw [chkSys_2 (sizes_inp (k := k) (by omega) (by omega))], hW.below⟩
          · intro h6 hF
            refine l_nil ?_
            replace hF := (hF.k 0 rfl (hF.k 1 rfl (hF.k 3 rfl (hF.k 4 rfl (hF.k 32 rfl (hF.k 35 rfl (hF.k 45 rfl hF.nil)))))))
            refine t_n ?_
            refine c_f hF rfl ?_
            refine wp_skip ?_
            refine b_n ?_
            refine t_n ?_
            refine c_r ?_
            refine pv hF hW (y_move hF rfl) (fun a hF => ?_)
            refine pv hF hW (y_add hF rfl rfl (IntWalk.i64_in _ (by omega))) (fun a hF => ?_)
            replace hF := hF.drop 4
            refine pv hF hW (y_assign hF rfl) (fun a hF => ?_)
            refine l_nil ?_
            replace hF := (hF.k 0 rfl (hF.k 1 rfl (hF.k 3 rfl (hF.k 4 rfl (hF.k 32 rfl (hF.k 35 rfl (hF.k 45 rfl hF.nil)))))))
            refine t_n ?_
            refine ⟨(k + 1), ?_, ?_, ?_, ?_⟩
            · exact ⟨by omega, fun i hi => by rcases Nat.lt_or_ge i k with h | h; exact hinp i h; (have hik : i = k := by omega); rw [hik]; omega⟩
            · first | omega | (dsimp only; omega)
            · exact Fr.app (Fr.cons hF (t := 4) rfl (by first | rfl | (simp; done) | omega) (Fr.nil hF)) (Fr.cons hF (t := 0) rfl rfl (Fr.cons hF (t := 1) rfl rfl (Fr.cons hF (t := 3) rfl rfl (Fr.cons hF (t := 32) rfl rfl (Fr.nil hF)))))
            · exact hW
        · intro h5 hF
          refine l_nil ?_
          replace hF := (hF.k 0 rfl (hF.k 1 rfl (hF.k 3 rfl (hF.k 4 rfl (hF.k 32 rfl (hF.k 35 rfl hF.nil))))))
          refine t_n ?_
          refine c_f hF rfl ?_
          refine wp_exit ?_
          refine t_x ?_
          refine t_x ?_
          refine b_h ?_
          refine t_n ?_
          refine c_s ?_
          have HS : sizesOk x.sys = true := (by simp only [decide_eq_true_eq] at *; exact sizes_true (by omega) (by omega) (by omega) (fun i hi => hinp i (by omega)))
          refine c_sr ?_
          refine pv hF hW (y_assign hF rfl) (fun a hF => ?_)
          refine l_nil ?_
          refine t_n ?_
          refine wp_block ?_
          refine c_loop (G := Nat) (fun k : Nat => [(5, .int .i64 (k : Int))]) (fun k : Nat => []) (fun k : Nat => k ≤ x.parts.length ∧ firstCode x.sys.parts = firstCode (x.sys.parts.drop k)) (fun k : Nat => x.parts.length - k) 0 (Fr.cons hF (t := 0) rfl rfl (Fr.cons hF (t := 1) rfl rfl (Fr.cons hF (t := 3) rfl rfl (Fr.cons hF (t := 4) rfl rfl (Fr.cons hF (t := 32) rfl rfl (Fr.cons hF (t := 35) rfl rfl (Fr.nil hF))))))) (Fr.cons hF (t := 5) rfl (by first | rfl | (simp; done)) (Fr.nil hF)) (hW) ?_ ?_
          · exact ⟨by omega, rfl⟩
          clear hF hW
          try clear a
          intro k a wc hC hF hW
          obtain ⟨hk, hfc⟩ := hC
          refine c_s ?_
          refine c_sr ?_
          refine pv hF hW (y_move hF rfl) (fun a hF => ?_)
          refine pv hF hW (y_move hF rfl) (fun a hF => ?_)
          refine pv hF hW (y_lss hF rfl rfl) (fun a hF => ?_)
          refine Fr.splitD hF ?_ ?_
          · intro h7 hF
            refine l_nil ?_
            replace hF := (hF.k 0 rfl (hF.k 1 rfl (hF.k 3 rfl (hF.k 4 rfl (hF.k 5 rfl (hF.k 32 rfl (hF.k 35 rfl (hF.k 48 rfl hF.nil))))))))
            refine t_n ?_
            refine c_t hF rfl ?_
            refine wp_skip ?_
            refine t_n ?_
            refine c_s ?_
            refine wp_block ?_
            refine c_sr ?_
            refine pv hF hW (y_fieldOwn hF rfl fa_68_0) (fun a hF => ?_)
            refine pv hF hW (y_loadOwn hF rfl 0 rfl rfl Try.underlying64 rfl) (fun a hF => ?_)
            refine pv hF hW (y_move hF rfl) (fun a hF => ?_)
            refine pv hF hW (y_indexS hF rfl rfl (by first | omega | decide) Try.underlying64 sz_42 (fun w h => (hx.partsR).wd h)) (fun a hF => ?_)
            refine pv hF hW (y_fieldRow hF rfl fa_42_0) (fun a hF => ?_)
            refine pv hF hW (y_loadRow hF rfl (fun w h => (hx.partsR).wd h) (by first | omega | decide) rfl Try.underlying40 rfl) (fun a hF => ?_)
            refine pe (e_call hF rfl rfl en_48 (by rfl) rfl rfl (checkCode_any _ _ _ ((hx.part (k := k) (by omega)).below hW.below).code) ?_)
            rintro e w1 ⟨rfl, hb⟩
            replace hW := hW.kept hb
            clear hb
            refine ⟨_, rfl, fun a hF => ?_⟩
            refine pv hF hW (y_assign hF rfl) (fun a hF => ?_)
            refine l_nil ?_
            replace hF := (hF.k 0 rfl (hF.k 1 rfl (hF.k 3 rfl (hF.k 4 rfl (hF.k 5 rfl (hF.k 6 rfl (hF.k 32 rfl (hF.k 35 rfl (hF.k 48 rfl hF.nil)))))))))
            refine t_n ?_
            refine c_sr ?_
            refine pv hF hW (y_move hF rfl) (fun a hF => ?_)
            refine pv hF hW (y_neq hF rfl rfl) (fun a hF => ?_)
            refine Fr.splitD hF ?_ ?_
            · intro h8 hF
              refine l_nil ?_
              replace hF := (hF.k 0 rfl (hF.k 1 rfl (hF.k 3 rfl (hF.k 4 rfl (hF.k 5 rfl (hF.k 6 rfl (hF.k 32 rfl (hF.k 35 rfl (hF.k 48 rfl (hF.k 59 rfl hF.nil))))))))))
              refine t_n ?_
              refine c_t hF rfl ?_
              refine c_sr ?_
              refine pv hF hW (y_move hF rfl) (fun a hF => ?_)
              refine pv hF hW (y_assign hF rfl) (fun a hF => ?_)
              refine l_nil ?_
              replace hF := (hF.k 0 rfl (hF.k 1 rfl (hF.k 2 rfl (hF.k 3 rfl (hF.k 4 rfl (hF.k 5 rfl (hF.k 6 rfl (hF.k 32 rfl (hF.k 35 rfl (hF.k 48 rfl (hF.k 59 rfl hF.nil)))))))))))
              refine t_n ?_
              refine wp_ret ?_
              refine b_r ?_
              refine t_r ?_
              refine t_r ?_
              refine b_r ?_
              refine t_r ?_
              refine ret1 Try.results36 hF (rv_t hF rfl) ?_
              exact ⟨by rw [chkSys_c HS (by rw [first_at (k := k) (by omega) hfc (by omega)]; omega), first_at (k := k) (by omega) hfc (by omega)], hW.below⟩
            · intro h8 hF
              refine l_nil ?_
              replace hF := (hF.k 0 rfl (hF.k 1 rfl (hF.k 3 rfl (hF.k 4 rfl (hF.k 5 rfl (hF.k 6 rfl (hF.k 32 rfl (hF.k 35 rfl (hF.k 48 rfl (hF.k 59 rfl hF.nil))))))))))
              refine t_n ?_
              refine c_f hF rfl ?_
              refine wp_skip ?_
              refine b_n ?_
              refine t_n ?_
              refine c_r ?_
              refine pv hF hW (y_move hF rfl) (fun a hF => ?_)
              refine pv hF hW (y_add hF rfl rfl (IntWalk.i64_in _ (by omega))) (fun a hF => ?_)
              replace hF := hF.drop 5
              refine pv hF hW (y_assign hF rfl) (fun a hF => ?_)
              refine l_nil ?_
              replace hF := (hF.k 0 rfl (hF.k 1 rfl (hF.k 3 rfl (hF.k 4 rfl (hF.k 5 rfl (hF.k 6 rfl (hF.k 32 rfl (hF.k 35 rfl (hF.k 48 rfl (hF.k 59 rfl hF.nil))))))))))
              refine t_n ?_
              refine ⟨(k + 1), ?_, ?_, ?_, ?_⟩
              · exact ⟨by omega, first_step (by omega) hfc (by omega)⟩
              · first | omega | (dsimp only; omega)
              · exact Fr.app (Fr.cons hF (t := 5) rfl (by first | rfl | (simp; done) | omega) (Fr.nil hF)) (Fr.cons hF (t := 0) rfl rfl (Fr.cons hF (t := 1) rfl rfl (Fr.cons hF (t := 3) rfl rfl (Fr.cons hF (t := 4) rfl rfl (Fr.cons hF (t := 32) rfl rfl (Fr.cons hF (t := 35) rfl rfl (Fr.nil hF)))))))
              · exact hW
          · intro h7 hF
            refine l_nil ?_
            replace hF := (hF.k 0 rfl (hF.k 1 rfl (hF.k 3 rfl (hF.k 4 rfl (hF.k 5 rfl (hF.k 32 rfl (hF.k 35 rfl (hF.k 48 rfl hF.nil))))))))
            refine t_n ?_
            refine c_f hF rfl ?_
            refine wp_exit ?_
            refine t_x ?_
            refine t_x ?_
            refine b_h ?_
            refine t_n ?_
            refine c_s ?_
            have HFC : firstCode x.sys.parts = 0 := first_end (by rw [hfc]; congr 2; omega)
            refine c_sr ?_
            refine pv hF hW (y_assign hF rfl) (fun a hF => ?_)
            refine l_nil ?_
            refine t_n ?_
            refine wp_block ?_
            refine c_loop (G := Nat) (fun m : Nat => [(7, .int .i64 (m : Int))]) (fun m : Nat => []) (fun m : Nat => m ≤ x.chans.length ∧ ∀ i, i < m → kindOk (x.chans.getD i C0).kind = true) (fun m : Nat => x.chans.length - m) 0 (Fr.cons hF (t := 0) rfl rfl (Fr.cons hF (t := 1) rfl rfl (Fr.cons hF (t := 3) rfl rfl (Fr.cons hF (t := 4) rfl rfl (Fr.cons hF (t := 5) rfl rfl (Fr.cons hF (t := 32) rfl rfl (Fr.cons hF (t := 35) rfl rfl (Fr.cons hF (t := 48) rfl rfl (Fr.nil hF))))))))) (Fr.cons hF (t := 7) rfl (by first | rfl | (simp; done)) (Fr.nil hF)) (hW) ?_ ?_
            · exact ⟨by omega, fun i hi => by omega⟩
            clear hF hW
            try clear a
            intro m a wc hC hF hW
            obtain ⟨hm, hkd⟩ := hC
            refine c_s ?_
            refine c_sr ?_
            refine pv hF hW (y_move hF rfl) (fun a hF => ?_)
            refine pv hF hW (y_fieldOwn hF rfl fa_68_1) (fun a hF => ?_)
            refine pv hF hW (y_loadOwn hF rfl 0 rfl rfl Try.underlying65 rfl) (fun a hF => ?_)
            refine pv hF hW (y_len hF rfl Try.underlying65) (fun a hF => ?_)
            refine pv hF hW (y_lss hF rfl rfl) (fun a hF => ?_)
            refine Fr.splitD hF ?_ ?_
            · intro h9 hF
              refine l_nil ?_
              replace hF := (hF.k 0 rfl (hF.k 1 rfl (hF.k 3 rfl (hF.k 4 rfl (hF.k 5 rfl (hF.k 7 rfl (hF.k 32 rfl (hF.k 35 rfl (hF.k 48 rfl (hF.k 65 rfl hF.nil))))))))))
              refine t_n ?_
              refine c_t hF rfl ?_
              refine wp_skip ?_
              refine t_n ?_
              refine c_s ?_
              refine wp_block ?_
              refine c_sr ?_
              refine pv hF hW (y_fieldOwn hF rfl fa_68_1) (fun a hF => ?_)
              refine pv hF hW (y_loadOwn hF rfl 0 rfl rfl Try.underlying65 rfl) (fun a hF => ?_)
              refine pv hF hW (y_move hF rfl) (fun a hF => ?_)
              refine pv hF hW (y_indexS hF rfl rfl (by first | omega | decide) Try.underlying65 sz_105 (fun w h => (hx.chansR).wd h)) (fun a hF => ?_)
              refine pv hF hW (y_fieldRow hF rfl fa_105_0) (fun a hF => ?_)
              refine pv hF hW (y_loadRow hF rfl (fun w h => (hx.chansR).wd h) (by first | omega | decide) rfl Try.underlying3 rfl) (fun a hF => ?_)
              refine pe (e_call hF rfl rfl en_44 (by rfl) rfl rfl (kindK_any _ _) ?_)
              rintro e w1 ⟨rfl, hb⟩
              replace hW := hW.kept hb
              clear hb
              refine ⟨_, rfl, fun a hF => ?_⟩
              refine Fr.splitB hF ?_ ?_
              · intro h10 hF
                refine pv hF hW (y_not hF rfl) (fun a hF => ?_)
                replace hF := Fr.bool (t := false) (by first | decide | (simp; done) | rfl) hF
                refine l_nil ?_
                replace hF := (hF.k 0 rfl (hF.k 1 rfl (hF.k 3 rfl (hF.k 4 rfl (hF.k 5 rfl (hF.k 7 rfl (hF.k 32 rfl (hF.k 35 rfl (hF.k 48 rfl (hF.k 65 rfl (hF.k 75 rfl hF.nil)))))))))))
                refine t_n ?_
                refine c_f hF rfl ?_
                refine wp_skip ?_
                refine b_n ?_
                refine t_n ?_
                refine c_r ?_
                refine pv hF hW (y_move hF rfl) (fun a hF => ?_)
                refine pv hF hW (y_add hF rfl rfl (IntWalk.i64_in _ (by omega))) (fun a hF => ?_)
                replace hF := hF.drop 7
                refine pv hF hW (y_assign hF rfl) (fun a hF => ?_)
                refine l_nil ?_
                replace hF := (hF.k 0 rfl (hF.k 1 rfl (hF.k 3 rfl (hF.k 4 rfl (hF.k 5 rfl (hF.k 7 rfl (hF.k 32 rfl (hF.k 35 rfl (hF.k 48 rfl (hF.k 65 rfl (hF.k 75 rfl hF.nil)))))))))))
                refine t_n ?_
                refine ⟨(m + 1), ?_, ?_, ?_, ?_⟩
                · exact ⟨by omega, fun i hi => by rcases Nat.lt_or_ge i m with h | h; exact hkd i h; (have hik : i = m := by omega); rw [hik]; assumption⟩
                · first | omega | (dsimp only; omega)
                · exact Fr.app (Fr.cons hF (t := 7) rfl (by first | rfl | (simp; done) | omega) (Fr.nil hF)) (Fr.cons hF (t := 0) rfl rfl (Fr.cons hF (t := 1) rfl rfl (Fr.cons hF (t := 3) rfl rfl (Fr.cons hF (t := 4) rfl rfl (Fr.cons hF (t := 5) rfl rfl (Fr.cons hF (t := 32) rfl rfl (Fr.cons hF (t := 35) rfl rfl (Fr.cons hF (t := 48) rfl rfl (Fr.nil hF)))))))))
                · exact hW
              · intro h10 hF
                refine pv hF hW (y_not hF rfl) (fun a hF => ?_)
                replace hF := Fr.bool (t := true) (by first | decide | (simp; done) | rfl) hF
                refine l_nil ?_
                replace hF := (hF.k 0 rfl (hF.k 1 rfl (hF.k 3 rfl (hF.k 4 rfl (hF.k 5 rfl (hF.k 7 rfl (hF.k 32 rfl (hF.k 35 rfl (hF.k 48 rfl (hF.k 65 rfl (hF.k 75 rfl hF.nil)))))))))))
                refine t_n ?_
                refine c_t hF rfl ?_
                refine c_sr ?_
                refine pv hF hW (y_assign hF rfl) (fun a hF => ?_)
                refine l_nil ?_
                refine t_n ?_
                refine wp_ret ?_
                refine b_r ?_
                refine t_r ?_
                refine t_r ?_
                refine b_r ?_
                refine t_r ?_
                refine ret1 Try.results36 hF (rv_t hF rfl) ?_
                exact ⟨by rw [chkSys_4 HS HFC (all_false C0 (k := m) (show m < x.chans.length by omega) (by show kindOk (x.chans.getD m C0).kind = false; assumption))], hW.below⟩
            · intro h9 hF
              refine l_nil ?_
              replace hF := (hF.k 0 rfl (hF.k 1 rfl (hF.k 3 rfl (hF.k 4 rfl (hF.k 5 rfl (hF.k 7 rfl (hF.k 32 rfl (hF.k 35 rfl (hF.k 48 rfl (hF.k 65 rfl hF.nil))))))))))
              refine t_n ?_
              refine c_f hF rfl ?_
              refine wp_exit ?_
              refine t_x ?_
              refine t_x ?_
              refine b_h ?_
              refine t_n ?_
              refine c_s ?_
              have HKD : (x.sys.chans.all fun c => kindOk c.kind) = true := (all_getD C0).2 fun i hi => hkd i (by simp only [SysD.sys] at hi; omega)
              refine c_sr ?_
              refine pv hF hW (y_assign hF rfl) (fun a hF => ?_)
              refine l_nil ?_
              refine t_n ?_
              refine wp_block ?_
              refine c_loop (G := Nat) (fun m : Nat => [(8, .int .i64 (m : Int))]) (fun m : Nat => []) (fun m : Nat => m ≤ x.chans.length ∧ ∀ i, i < m → chnOk x.parts.length (x.chans.getD i C0) = true) (fun m : Nat => x.chans.length - m) 0 (Fr.cons hF (t := 0) rfl rfl (Fr.cons hF (t := 1) rfl rfl (Fr.cons hF (t := 3) rfl rfl (Fr.cons hF (t := 4) rfl rfl (Fr.cons hF (t := 5) rfl rfl (Fr.cons hF (t := 7) rfl rfl (Fr.cons hF (t := 32) rfl rfl (Fr.cons hF (t := 35) rfl rfl (Fr.cons hF (t := 48) rfl rfl (Fr.cons hF (t := 65) rfl rfl (Fr.nil hF))))))))))) (Fr.cons hF (t := 8) rfl (by first | rfl | (simp; done)) (Fr.nil hF)) (hW) ?_ ?_
              · exact ⟨by omega, fun i hi => by omega⟩
              clear hF hW
              try clear a
              intro m a wc hC hF hW
              obtain ⟨hm, hch⟩ := hC
              refine c_s ?_
              refine c_sr ?_
              refine pv hF hW (y_move hF rfl) (fun a hF => ?_)
              refine pv hF hW (y_fieldOwn hF rfl fa_68_1) (fun a hF => ?_)
              refine pv hF hW (y_loadOwn hF rfl 0 rfl rfl Try.underlying65 rfl) (fun a hF => ?_)
              refine pv hF hW (y_len hF rfl Try.underlying65) (fun a hF => ?_)
              refine pv hF hW (y_lss hF rfl rfl) (fun a hF => ?_)
              refine Fr.splitD hF ?_ ?_
              · intro h11 hF
                refine l_nil ?_
                replace hF := (hF.k 0 rfl (hF.k 1 rfl (hF.k 3 rfl (hF.k 4 rfl (hF.k 5 rfl (hF.k 7 rfl (hF.k 8 rfl (hF.k 32 rfl (hF.k 35 rfl (hF.k 48 rfl (hF.k 65 rfl (hF.k 80 rfl hF.nil))))))))))))
                refine t_n ?_
                refine c_t hF rfl ?_
                refine wp_skip ?_
                refine t_n ?_
                refine c_s ?_
                refine wp_block ?_
                refine c_sr ?_
                refine pv hF hW (y_fieldOwn hF rfl fa_68_1) (fun a hF => ?_)
                refine pv hF hW (y_loadOwn hF rfl 0 rfl rfl Try.underlying65 rfl) (fun a hF => ?_)
                refine pv hF hW (y_move hF rfl) (fun a hF => ?_)
                refine pv hF hW (y_indexS hF rfl rfl (by first | omega | decide) Try.underlying65 sz_105 (fun w h => (hx.chansR).wd h)) (fun a hF => ?_)
                refine pv hF hW (y_loadRowW hF rfl (fun w h => (hx.chansR).wd h) (by first | omega | decide) Try.underlying105 rfl sz_105) (fun a hF => ?_)
                refine pe (e_alloc hF hW ze_105 rfl rfl rfl ?_)
                intro b12 a wc hF hW
                refine pe (e_storeAll rfl hF hW rfl rfl 0 rfl rfl rfl (by kernel_rfl) sz_105 ?_)
                intro wc hW
                refine l_nil ?_
                replace hF := (hF.k 0 rfl (hF.k 1 rfl (hF.k 3 rfl (hF.k 4 rfl (hF.k 5 rfl (hF.k 7 rfl (hF.k 8 rfl (hF.k 9 rfl (hF.k 32 rfl (hF.k 35 rfl (hF.k 48 rfl (hF.k 65 rfl (hF.k 80 rfl hF.nil)))))))))))))
                refine t_n ?_
                refine c_sr ?_
                refine pv hF hW (y_fieldOwn hF rfl fa_105_1) (fun a hF => ?_)
                refine pv hF hW (y_loadOwn hF rfl 0 rfl rfl Try.underlying3 rfl) (fun a hF => ?_)
                refine pv hF hW (y_move hF rfl) (fun a hF => ?_)
                refine pv hF hW (y_sub hF rfl rfl (IntWalk.i64_in _ (by omega))) (fun a hF => ?_)
                refine pe (e_call hF rfl rfl en_50 (by rfl) rfl rfl (withinD_any _ _ _ _) ?_)
                rintro e w1 ⟨rfl, hb⟩
                replace hW := hW.kept hb
                clear hb
                refine ⟨_, rfl, fun a hF => ?_⟩
                refine Fr.splitB hF ?_ ?_
                · intro h13 hF
                  refine pv hF hW (y_not hF rfl) (fun a hF => ?_)
                  replace hF := Fr.bool (t := false) (by first | decide | (simp; done) | rfl) hF
                  refine pv hF hW (y_move hF rfl) (fun a hF => ?_)
                  replace hF := Fr.bool (t := false) (by first | decide | (simp; done) | rfl) hF
                  refine pv hF hW (y_fieldOwn hF rfl fa_105_2) (fun a hF => ?_) (ws hF rfl rfl)
                  refine pv hF hW (y_loadOwn hF rfl 0 rfl rfl Try.underlying3 rfl) (fun a hF => ?_) (ws hF rfl rfl)
                  refine pv hF hW (y_move hF rfl) (fun a hF => ?_) (ws hF rfl rfl)
                  refine pv hF hW (y_sub hF rfl rfl (IntWalk.i64_in _ (by omega))) (fun a hF => ?_) (ws hF rfl rfl)
                  refine pe (e_call hF rfl rfl en_50 (by rfl) rfl rfl (withinD_any _ _ _ _) ?_) (ws hF rfl rfl)
                  rintro e w1 ⟨rfl, hb⟩
                  replace hW := hW.kept hb
                  clear hb
                  refine ⟨_, rfl, fun a hF => ?_⟩
                  refine Fr.splitB hF ?_ ?_
                  · intro h14 hF
                    refine pv hF hW (y_not hF rfl) (fun a hF => ?_) (ws hF rfl rfl)
                    replace hF := Fr.bool (t := false) (by first | decide | (simp; done) | rfl) hF
                    refine pv hF hW (y_pick hF rfl rfl) (fun a hF => ?_)
                    replace hF := Fr.bool (t := false) (by first | decide | (simp; done) | rfl) hF
                    refine pv hF hW (y_move hF rfl) (fun a hF => ?_)
                    replace hF := Fr.bool (t := false) (by first | decide | (simp; done) | rfl) hF
                    refine pv hF hW (y_fieldOwn hF rfl fa_105_1) (fun a hF => ?_) (ws hF rfl rfl)
                    refine pv hF hW (y_loadOwn hF rfl 0 rfl rfl Try.underlying3 rfl) (fun a hF => ?_) (ws hF rfl rfl)
                    refine pv hF hW (y_fieldOwn hF rfl fa_105_2) (fun a hF => ?_) (ws hF rfl rfl)
                    refine pv hF hW (y_loadOwn hF rfl 0 rfl rfl Try.underlying3 rfl) (fun a hF => ?_) (ws hF rfl rfl)
                    refine pv hF hW (y_eql hF rfl rfl) (fun a hF => ?_) (ws hF rfl rfl)
                    refine Fr.splitD hF ?_ ?_
                    · intro h15 hF
                      refine pv hF hW (y_pick hF rfl rfl) (fun a hF => ?_)
                      refine l_nil ?_
                      replace hF := (hF.k 0 rfl (hF.k 1 rfl (hF.k 3 rfl (hF.k 4 rfl (hF.k 5 rfl (hF.k 7 rfl (hF.k 8 rfl (hF.k 9 rfl (hF.k 32 rfl (hF.k 35 rfl (hF.k 48 rfl (hF.k 65 rfl (hF.k 80 rfl (hF.k 108 rfl hF.nil))))))))))))))
                      refine t_n ?_
                      refine c_t hF rfl ?_
                      refine c_sr ?_
                      refine pv hF hW (y_assign hF rfl) (fun a hF => ?_)
                      refine l_nil ?_
                      refine t_n ?_
                      refine wp_ret ?_
                      refine b_r ?_
                      refine t_r ?_
                      refine t_r ?_
                      refine b_r ?_
                      refine t_r ?_
                      refine ret1 Try.results36 hF (rv_t hF rfl) ?_
                      exact ⟨by rw [chkSys_3 HS HFC HKD (chn_bad (m := m) (by omega) (by omega))], hW.below⟩
                    · intro h15 hF
                      refine pv hF hW (y_pick hF rfl rfl) (fun a hF => ?_)
                      refine l_nil ?_
                      replace hF := (hF.k 0 rfl (hF.k 1 rfl (hF.k 3 rfl (hF.k 4 rfl (hF.k 5 rfl (hF.k 7 rfl (hF.k 8 rfl (hF.k 9 rfl (hF.k 32 rfl (hF.k 35 rfl (hF.k 48 rfl (hF.k 65 rfl (hF.k 80 rfl (hF.k 108 rfl hF.nil))))))))))))))
                      refine t_n ?_
                      refine c_f hF rfl ?_
                      refine wp_skip ?_
                      refine b_n ?_
                      refine t_n ?_
                      refine c_r ?_
                      refine pv hF hW (y_move hF rfl) (fun a hF => ?_)
                      refine pv hF hW (y_add hF rfl rfl (IntWalk.i64_in _ (by omega))) (fun a hF => ?_)
                      replace hF := hF.drop 8
                      refine pv hF hW (y_assign hF rfl) (fun a hF => ?_)
                      refine l_nil ?_
                      replace hF := (hF.k 0 rfl (hF.k 1 rfl (hF.k 3 rfl (hF.k 4 rfl (hF.k 5 rfl (hF.k 7 rfl (hF.k 8 rfl (hF.k 9 rfl (hF.k 32 rfl (hF.k 35 rfl (hF.k 48 rfl (hF.k 65 rfl (hF.k 80 rfl (hF.k 108 rfl hF.nil))))))))))))))
                      replace hW := hW.del 0 rfl
                      refine t_n ?_
                      refine ⟨(m + 1), ?_, ?_, ?_, ?_⟩
                      · exact ⟨by omega, fun i hi => by rcases Nat.lt_or_ge i m with h | h; exact hch i h; (have hik : i = m := by omega); rw [hik]; simp only [decide_eq_true_eq] at *; exact chn_good (by omega) (by omega) (by omega)⟩
                      · first | omega | (dsimp only; omega)
                      · exact Fr.app (Fr.cons hF (t := 8) rfl (by first | rfl | (simp; done) | omega) (Fr.nil hF)) (Fr.cons hF (t := 0) rfl rfl (Fr.cons hF (t := 1) rfl rfl (Fr.cons hF (t := 3) rfl rfl (Fr.cons hF (t := 4) rfl rfl (Fr.cons hF (t := 5) rfl rfl (Fr.cons hF (t := 7) rfl rfl (Fr.cons hF (t := 32) rfl rfl (Fr.cons hF (t := 35) rfl rfl (Fr.cons hF (t := 48) rfl rfl (Fr.cons hF (t := 65) rfl rfl (Fr.nil hF)))))))))))
                      · exact hW
                  · intro h14 hF
                    refine pv hF hW (y_not hF rfl) (fun a hF => ?_) (ws hF rfl rfl)
                    replace hF := Fr.bool (t := true) (by first | decide | (simp; done) | rfl) hF
                    refine pv hF hW (y_pick hF rfl rfl) (fun a hF => ?_)
                    replace hF := Fr.bool (t := true) (by first | decide | (simp; done) | rfl) hF
                    refine pv hF hW (y_move hF rfl) (fun a hF => ?_)
                    replace hF := Fr.bool (t := true) (by first | decide | (simp; done) | rfl) hF
                    refine p_skip hF (wn hF rfl rfl rfl) rfl rfl (fun a hF => ?_)
                    refine p_skip hF (wn hF rfl rfl rfl) rfl rfl (fun a hF => ?_)
                    refine p_skip hF (wn hF rfl rfl rfl) rfl rfl (fun a hF => ?_)
                    refine p_skip hF (wn hF rfl rfl rfl) rfl rfl (fun a hF => ?_)
                    refine p_skip hF (wn hF rfl rfl rfl) rfl rfl (fun a hF => ?_)
                    refine pv hF hW (y_pick hF rfl rfl) (fun a hF => ?_)
                    refine l_nil ?_
                    replace hF := (hF.k 0 rfl (hF.k 1 rfl (hF.k 3 rfl (hF.k 4 rfl (hF.k 5 rfl (hF.k 7 rfl (hF.k 8 rfl (hF.k 9 rfl (hF.k 32 rfl (hF.k 35 rfl (hF.k 48 rfl (hF.k 65 rfl (hF.k 80 rfl (hF.k 108 rfl hF.nil))))))))))))))
                    refine t_n ?_
                    refine c_t hF rfl ?_
                    refine c_sr ?_
                    refine pv hF hW (y_assign hF rfl) (fun a hF => ?_)
                    refine l_nil ?_
                    refine t_n ?_
                    refine wp_ret ?_
                    refine b_r ?_
                    refine t_r ?_
                    refine t_r ?_
                    refine b_r ?_
                    refine t_r ?_
                    refine ret1 Try.results36 hF (rv_t hF rfl) ?_
                    exact ⟨by rw [chkSys_3 HS HFC HKD (chn_bad (m := m) (by omega) (by simp only [decide_eq_false_iff_not, decide_eq_true_eq] at *; omega))], hW.below⟩
                · intro h13 hF
                  refine pv hF hW (y_not hF rfl) (fun a hF => ?_)
                  replace hF := Fr.bool (t := true) (by first | decide | (simp; done) | rfl) hF
                  refine pv hF hW (y_move hF rfl) (fun a hF => ?_)
                  replace hF := Fr.bool (t := true) (by first | decide | (simp; done) | rfl) hF
                  refine p_skip hF (wn hF rfl rfl rfl) rfl rfl (fun a hF => ?_)
                  refine p_skip hF (wn hF rfl rfl rfl) rfl rfl (fun a hF => ?_)
                  refine p_skip hF (wn hF rfl rfl rfl) rfl rfl (fun a hF => ?_)
                  refine p_skip hF (wn hF rfl rfl rfl) rfl rfl (fun a hF => ?_)
                  refine p_skip hF (wn hF rfl rfl rfl) rfl rfl (fun a hF => ?_)
                  refine p_skip hF (wn hF rfl rfl rfl) rfl rfl (fun a hF => ?_)
                  refine pv hF hW (y_pick hF rfl rfl) (fun a hF => ?_)
                  refine pv hF hW (y_move hF rfl) (fun a hF => ?_)
                  refine p_skip hF (wn hF rfl rfl rfl) rfl rfl (fun a hF => ?_)
                  refine p_skip hF (wn hF rfl rfl rfl) rfl rfl (fun a hF => ?_)
                  refine p_skip hF (wn hF rfl rfl rfl) rfl rfl (fun a hF => ?_)
                  refine p_skip hF (wn hF rfl rfl rfl) rfl rfl (fun a hF => ?_)
                  refine p_skip hF (wn hF rfl rfl rfl) rfl rfl (fun a hF => ?_)
                  refine pv hF hW (y_pick hF rfl rfl) (fun a hF => ?_)
                  refine l_nil ?_
                  replace hF := (hF.k 0 rfl (hF.k 1 rfl (hF.k 3 rfl (hF.k 4 rfl (hF.k 5 rfl (hF.k 7 rfl (hF.k 8 rfl (hF.k 9 rfl (hF.k 32 rfl (hF.k 35 rfl (hF.k 48 rfl (hF.k 65 rfl (hF.k 80 rfl (hF.k 108 rfl hF.nil))))))))))))))
                  refine t_n ?_
                  refine c_t hF rfl ?_
                  refine c_sr ?_
                  refine pv hF hW (y_assign hF rfl) (fun a hF => ?_)
                  refine l_nil ?_
                  refine t_n ?_
                  refine wp_ret ?_
                  refine b_r ?_
                  refine t_r ?_
                  refine t_r ?_
                  refine b_r ?_
                  refine t_r ?_
                  refine ret1 Try.results36 hF (rv_t hF rfl) ?_
                  exact ⟨by rw [chkSys_3 HS HFC HKD (chn_bad (m := m) (by omega) (by simp only [decide_eq_false_iff_not, decide_eq_true_eq] at *; omega))], hW.below⟩
              · intro h11 hF
                refine l_nil ?_
                replace hF := (hF.k 0 rfl (hF.k 1 rfl (hF.k 3 rfl (hF.k 4 rfl (hF.k 5 rfl (hF.k 7 rfl (hF.k 8 rfl (hF.k 32 rfl (hF.k 35 rfl (hF.k 48 rfl (hF.k 65 rfl (hF.k 80 rfl hF.nil))))))))))))
                refine t_n ?_
                refine c_f hF rfl ?_
                refine wp_exit ?_
                refine t_x ?_
                refine t_x ?_
                refine b_h ?_
                refine t_n ?_
                refine c_s ?_
                have HCH : x.sys.chans.all (chnOk x.sys.parts.length) = true := (all_getD C0).2 fun i hi => by rw [show x.sys.parts.length = x.parts.length by simp [SysD.sys]]; exact hch i (by simp only [SysD.sys] at hi; omega)
                refine c_sr ?_
                refine pv hF hW (y_assign hF rfl) (fun a hF => ?_)
                refine l_nil ?_
                refine t_n ?_
                refine wp_block ?_
                refine c_loop (G := Nat) (fun m : Nat => [(10, .int .i64 (m : Int))]) (fun m : Nat => []) (fun m : Nat => m ≤ x.slots.length ∧ ∀ i, i < m → sltOk x.parts.length (x.slots.getD i S0) = true) (fun m : Nat => x.slots.length - m) 0 (Fr.cons hF (t := 0) rfl rfl (Fr.cons hF (t := 1) rfl rfl (Fr.cons hF (t := 3) rfl rfl (Fr.cons hF (t := 4) rfl rfl (Fr.cons hF (t := 5) rfl rfl (Fr.cons hF (t := 7) rfl rfl (Fr.cons hF (t := 8) rfl rfl (Fr.cons hF (t := 32) rfl rfl (Fr.cons hF (t := 35) rfl rfl (Fr.cons hF (t := 48) rfl rfl (Fr.cons hF (t := 65) rfl rfl (Fr.cons hF (t := 80) rfl rfl (Fr.nil hF))))))))))))) (Fr.cons hF (t := 10) rfl (by first | rfl | (simp; done)) (Fr.nil hF)) (hW) ?_ ?_
                · exact ⟨by omega, fun i hi => by omega⟩
                clear hF hW
                try clear a
                intro m a wc hC hF hW
                obtain ⟨hm, hsl⟩ := hC
                refine c_s ?_
                refine c_sr ?_
                refine pv hF hW (y_move hF rfl) (fun a hF => ?_)
                refine pv hF hW (y_fieldOwn hF rfl fa_68_2) (fun a hF => ?_)
                refine pv hF hW (y_loadOwn hF rfl 0 rfl rfl Try.underlying66 rfl) (fun a hF => ?_)
                refine pv hF hW (y_len hF rfl Try.underlying66) (fun a hF => ?_)
                refine pv hF hW (y_lss hF rfl rfl) (fun a hF => ?_)
                refine Fr.splitD hF ?_ ?_
                · intro h16 hF
                  refine l_nil ?_
                  replace hF := (hF.k 0 rfl (hF.k 1 rfl (hF.k 3 rfl (hF.k 4 rfl (hF.k 5 rfl (hF.k 7 rfl (hF.k 8 rfl (hF.k 10 rfl (hF.k 32 rfl (hF.k 35 rfl (hF.k 48 rfl (hF.k 65 rfl (hF.k 80 rfl (hF.k 113 rfl hF.nil))))))))))))))
                  refine t_n ?_
                  refine c_t hF rfl ?_
                  refine wp_skip ?_
                  refine t_n ?_
                  refine c_s ?_
                  refine wp_block ?_
                  refine c_sr ?_
                  refine pv hF hW (y_fieldOwn hF rfl fa_68_2) (fun a hF => ?_)
                  refine pv hF hW (y_loadOwn hF rfl 0 rfl rfl Try.underlying66 rfl) (fun a hF => ?_)
                  refine pv hF hW (y_move hF rfl) (fun a hF => ?_)
                  refine pv hF hW (y_indexS hF rfl rfl (by first | omega | decide) Try.underlying66 sz_83 (fun w h => (hx.slotsR).wd h)) (fun a hF => ?_)
                  refine pv hF hW (y_fieldRow hF rfl fa_83_0) (fun a hF => ?_)
                  refine pv hF hW (y_loadRow hF rfl (fun w h => (hx.slotsR).wd h) (by first | omega | decide) rfl Try.underlying3 rfl) (fun a hF => ?_)
                  refine pv hF hW (y_move hF rfl) (fun a hF => ?_)
                  refine pv hF hW (y_sub hF rfl rfl (IntWalk.i64_in _ (by omega))) (fun a hF => ?_)
                  refine pe (e_call hF rfl rfl en_50 (by rfl) rfl rfl (withinD_any _ _ _ _) ?_)
                  rintro e w1 ⟨rfl, hb⟩
                  replace hW := hW.kept hb
                  clear hb
                  refine ⟨_, rfl, fun a hF => ?_⟩
                  refine Fr.splitB hF ?_ ?_
                  · intro h17 hF
                    refine pv hF hW (y_not hF rfl) (fun a hF => ?_)
                    replace hF := Fr.bool (t := false) (by first | decide | (simp; done) | rfl) hF
                    refine pv hF hW (y_move hF rfl) (fun a hF => ?_)
                    replace hF := Fr.bool (t := false) (by first | decide | (simp; done) | rfl) hF
                    refine pv hF hW (y_fieldOwn hF rfl fa_68_2) (fun a hF => ?_) (ws hF rfl rfl)
                    refine pv hF hW (y_loadOwn hF rfl 0 rfl rfl Try.underlying66 rfl) (fun a hF => ?_) (ws hF rfl rfl)
                    refine pv hF hW (y_move hF rfl) (fun a hF => ?_) (ws hF rfl rfl)
                    refine pv hF hW (y_indexS hF rfl rfl (by first | omega | decide) Try.underlying66 sz_83 (fun w h => (hx.slotsR).wd h)) (fun a hF => ?_) (ws hF rfl rfl)
                    refine pv hF hW (y_fieldRow hF rfl fa_83_1) (fun a hF => ?_) (ws hF rfl rfl)
                    refine pv hF hW (y_loadRow hF rfl (fun w h => (hx.slotsR).wd h) (by first | omega | decide) rfl Try.underlying3 rfl) (fun a hF => ?_) (ws hF rfl rfl)
                    refine pe (e_call hF rfl rfl en_50 (by rfl) rfl rfl (withinD_any _ _ _ _) ?_) (ws hF rfl rfl)
                    rintro e w1 ⟨rfl, hb⟩
                    replace hW := hW.kept hb
                    clear hb
                    refine ⟨_, rfl, fun a hF => ?_⟩
                    refine Fr.splitB hF ?_ ?_
                    · intro h18 hF
                      refine pv hF hW (y_not hF rfl) (fun a hF => ?_) (ws hF rfl rfl)
                      replace hF := Fr.bool (t := false) (by first | decide | (simp; done) | rfl) hF
                      refine pv hF hW (y_pick hF rfl rfl) (fun a hF => ?_)
                      replace hF := Fr.bool (t := false) (by first | decide | (simp; done) | rfl) hF
                      refine l_nil ?_
                      replace hF := (hF.k 0 rfl (hF.k 1 rfl (hF.k 3 rfl (hF.k 4 rfl (hF.k 5 rfl (hF.k 7 rfl (hF.k 8 rfl (hF.k 10 rfl (hF.k 32 rfl (hF.k 35 rfl (hF.k 48 rfl (hF.k 65 rfl (hF.k 80 rfl (hF.k 113 rfl (hF.k 135 rfl hF.nil)))))))))))))))
                      refine t_n ?_
                      refine c_f hF rfl ?_
                      refine wp_skip ?_
                      refine b_n ?_
                      refine t_n ?_
                      refine c_r ?_
                      refine pv hF hW (y_move hF rfl) (fun a hF => ?_)
                      refine pv hF hW (y_add hF rfl rfl (IntWalk.i64_in _ (by omega))) (fun a hF => ?_)
                      replace hF := hF.drop 10
                      refine pv hF hW (y_assign hF rfl) (fun a hF => ?_)
                      refine l_nil ?_
                      replace hF := (hF.k 0 rfl (hF.k 1 rfl (hF.k 3 rfl (hF.k 4 rfl (hF.k 5 rfl (hF.k 7 rfl (hF.k 8 rfl (hF.k 10 rfl (hF.k 32 rfl (hF.k 35 rfl (hF.k 48 rfl (hF.k 65 rfl (hF.k 80 rfl (hF.k 113 rfl (hF.k 135 rfl hF.nil)))))))))))))))
                      refine t_n ?_
                      refine ⟨(m + 1), ?_, ?_, ?_, ?_⟩
                      · exact ⟨by omega, fun i hi => by rcases Nat.lt_or_ge i m with h | h; exact hsl i h; (have hik : i = m := by omega); rw [hik]; simp only [decide_eq_true_eq] at *; exact slt_good (by omega) (by omega)⟩
                      · first | omega | (dsimp only; omega)
                      · exact Fr.app (Fr.cons hF (t := 10) rfl (by first | rfl | (simp; done) | omega) (Fr.nil hF)) (Fr.cons hF (t := 0) rfl rfl (Fr.cons hF (t := 1) rfl rfl (Fr.cons hF (t := 3) rfl rfl (Fr.cons hF (t := 4) rfl rfl (Fr.cons hF (t := 5) rfl rfl (Fr.cons hF (t := 7) rfl rfl (Fr.cons hF (t := 8) rfl rfl (Fr.cons hF (t := 32) rfl rfl (Fr.cons hF (t := 35) rfl rfl (Fr.cons hF (t := 48) rfl rfl (Fr.cons hF (t := 65) rfl rfl (Fr.cons hF (t := 80) rfl rfl (Fr.nil hF)))))))))))))
                      · exact hW
                    · intro h18 hF
                      refine pv hF hW (y_not hF rfl) (fun a hF => ?_) (ws hF rfl rfl)
                      replace hF := Fr.bool (t := true) (by first | decide | (simp; done) | rfl) hF
                      refine pv hF hW (y_pick hF rfl rfl) (fun a hF => ?_)
                      replace hF := Fr.bool (t := true) (by first | decide | (simp; done) | rfl) hF
                      refine l_nil ?_
                      replace hF := (hF.k 0 rfl (hF.k 1 rfl (hF.k 3 rfl (hF.k 4 rfl (hF.k 5 rfl (hF.k 7 rfl (hF.k 8 rfl (hF.k 10 rfl (hF.k 32 rfl (hF.k 35 rfl (hF.k 48 rfl (hF.k 65 rfl (hF.k 80 rfl (hF.k 113 rfl (hF.k 135 rfl hF.nil)))))))))))))))
                      refine t_n ?_
                      refine c_t hF rfl ?_
                      refine c_sr ?_
                      refine pv hF hW (y_assign hF rfl) (fun a hF => ?_)
                      refine l_nil ?_
                      refine t_n ?_
                      refine wp_ret ?_
                      refine b_r ?_
                      refine t_r ?_
                      refine t_r ?_
                      refine b_r ?_
                      refine t_r ?_
                      refine ret1 Try.results36 hF (rv_t hF rfl) ?_
                      exact ⟨by rw [chkSys_3' HS HFC HKD HCH (slt_bad (m := m) (by omega) (by simp only [decide_eq_false_iff_not, decide_eq_true_eq] at *; omega))], hW.below⟩
                  · intro h17 hF
                    refine pv hF hW (y_not hF rfl) (fun a hF => ?_)
                    replace hF := Fr.bool (t := true) (by first | decide | (simp; done) | rfl) hF
                    refine pv hF hW (y_move hF rfl) (fun a hF => ?_)
                    replace hF := Fr.bool (t := true) (by first | decide | (simp; done) | rfl) hF
                    refine p_skip hF (wn hF rfl rfl rfl) rfl rfl (fun a hF => ?_)
                    refine p_skip hF (wn hF rfl rfl rfl) rfl rfl (fun a hF => ?_)
                    refine p_skip hF (wn hF rfl rfl rfl) rfl rfl (fun a hF => ?_)
                    refine p_skip hF (wn hF rfl rfl rfl) rfl rfl (fun a hF => ?_)
                    refine p_skip hF (wn hF rfl rfl rfl) rfl rfl (fun a hF => ?_)
                    refine p_skip hF (wn hF rfl rfl rfl) rfl rfl (fun a hF => ?_)
                    refine p_skip hF (wn hF rfl rfl rfl) rfl rfl (fun a hF => ?_)
                    refine p_skip hF (wn hF rfl rfl rfl) rfl rfl (fun a hF => ?_)
                    refine pv hF hW (y_pick hF rfl rfl) (fun a hF => ?_)
                    refine l_nil ?_
                    replace hF := (hF.k 0 rfl (hF.k 1 rfl (hF.k 3 rfl (hF.k 4 rfl (hF.k 5 rfl (hF.k 7 rfl (hF.k 8 rfl (hF.k 10 rfl (hF.k 32 rfl (hF.k 35 rfl (hF.k 48 rfl (hF.k 65 rfl (hF.k 80 rfl (hF.k 113 rfl (hF.k 135 rfl hF.nil)))))))))))))))
                    refine t_n ?_
                    refine c_t hF rfl ?_
                    refine c_sr ?_
                    refine pv hF hW (y_assign hF rfl) (fun a hF => ?_)
                    refine l_nil ?_
                    refine t_n ?_
                    refine wp_ret ?_
                    refine b_r ?_
                    refine t_r ?_
                    refine t_r ?_
                    refine b_r ?_
                    refine t_r ?_
                    refine ret1 Try.results36 hF (rv_t hF rfl) ?_
                    exact ⟨by rw [chkSys_3' HS HFC HKD HCH (slt_bad (m := m) (by omega) (by simp only [decide_eq_false_iff_not, decide_eq_true_eq] at *; omega))], hW.below⟩
                · intro h16 hF
                  refine l_nil ?_
                  replace hF := (hF.k 0 rfl (hF.k 1 rfl (hF.k 3 rfl (hF.k 4 rfl (hF.k 5 rfl (hF.k 7 rfl (hF.k 8 rfl (hF.k 10 rfl (hF.k 32 rfl (hF.k 35 rfl (hF.k 48 rfl (hF.k 65 rfl (hF.k 80 rfl (hF.k 113 rfl hF.nil))))))))))))))
                  refine t_n ?_
                  refine c_f hF rfl ?_
                  refine wp_exit ?_
                  refine t_x ?_
                  refine t_x ?_
                  refine b_h ?_
                  refine t_n ?_
                  refine c_s ?_
                  have HSL : x.sys.slots.all (sltOk x.sys.parts.length) = true := (all_getD S0).2 fun i hi => by rw [show x.sys.parts.length = x.parts.length by simp [SysD.sys]]; exact hsl i (by simp only [SysD.sys] at hi; omega)
                  refine c_sr ?_
                  refine pv hF hW (y_assign hF rfl) (fun a hF => ?_)
                  refine l_nil ?_
                  refine t_n ?_
                  refine wp_block ?_
                  refine c_loop (G := Nat) (fun k : Nat => [(11, .int .i64 (k : Int))]) (fun k : Nat => []) (fun k : Nat => k ≤ x.parts.length ∧ ∀ q, q < k → ∀ i, i < (x.parts.getD q P0).1.code.length → insOk x.chans q ((x.parts.getD q P0).1.code.getD i I0) = true) (fun k : Nat => x.parts.length - k) 0 (Fr.cons hF (t := 0) rfl rfl (Fr.cons hF (t := 1) rfl rfl (Fr.cons hF (t := 3) rfl rfl (Fr.cons hF (t := 4) rfl rfl (Fr.cons hF (t := 5) rfl rfl (Fr.cons hF (t := 7) rfl rfl (Fr.cons hF (t := 8) rfl rfl (Fr.cons hF (t := 10) rfl rfl (Fr.cons hF (t := 32) rfl rfl (Fr.cons hF (t := 35) rfl rfl (Fr.cons hF (t := 48) rfl rfl (Fr.cons hF (t := 65) rfl rfl (Fr.cons hF (t := 80) rfl rfl (Fr.cons hF (t := 113) rfl rfl (Fr.nil hF))))))))))))))) (Fr.cons hF (t := 11) rfl (by first | rfl | (simp; done)) (Fr.nil hF)) (hW) ?_ ?_
                  · exact ⟨by omega, fun i hi => by omega⟩
                  clear hF hW
                  try clear a
                  intro k a wc hC hF hW
                  obtain ⟨hk, hnm⟩ := hC
                  refine c_s ?_
                  refine c_sr ?_
                  refine pv hF hW (y_move hF rfl) (fun a hF => ?_)
                  refine pv hF hW (y_move hF rfl) (fun a hF => ?_)
                  refine pv hF hW (y_lss hF rfl rfl) (fun a hF => ?_)
                  refine Fr.splitD hF ?_ ?_
                  · intro h19 hF
                    refine l_nil ?_
                    replace hF := (hF.k 0 rfl (hF.k 1 rfl (hF.k 3 rfl (hF.k 4 rfl (hF.k 5 rfl (hF.k 7 rfl (hF.k 8 rfl (hF.k 10 rfl (hF.k 11 rfl (hF.k 32 rfl (hF.k 35 rfl (hF.k 48 rfl (hF.k 65 rfl (hF.k 80 rfl (hF.k 113 rfl (hF.k 138 rfl hF.nil))))))))))))))))
                    refine t_n ?_
                    refine c_t hF rfl ?_
                    refine wp_skip ?_
                    refine t_n ?_
                    refine c_s ?_
                    refine wp_block ?_
                    have hcl := code_le HFC (k := k) (by omega)
                    refine c_sr ?_
                    refine pv hF hW (y_assign hF rfl) (fun a hF => ?_)
                    refine l_nil ?_
                    refine t_n ?_
                    refine wp_block ?_
                    refine c_loop (G := Nat) (fun m : Nat => [(12, .int .i64 (m : Int))]) (fun m : Nat => []) (fun m : Nat => m ≤ (x.parts.getD k P0).1.code.length ∧ ∀ i, i < m → insOk x.chans k ((x.parts.getD k P0).1.code.getD i I0) = true) (fun m : Nat => (x.parts.getD k P0).1.code.length - m) 0 (Fr.cons hF (t := 0) rfl rfl (Fr.cons hF (t := 1) rfl rfl (Fr.cons hF (t := 3) rfl rfl (Fr.cons hF (t := 4) rfl rfl (Fr.cons hF (t := 5) rfl rfl (Fr.cons hF (t := 7) rfl rfl (Fr.cons hF (t := 8) rfl rfl (Fr.cons hF (t := 10) rfl rfl (Fr.cons hF (t := 11) rfl rfl (Fr.cons hF (t := 32) rfl rfl (Fr.cons hF (t := 35) rfl rfl (Fr.cons hF (t := 48) rfl rfl (Fr.cons hF (t := 65) rfl rfl (Fr.cons hF (t := 80) rfl rfl (Fr.cons hF (t := 113) rfl rfl (Fr.cons hF (t := 138) rfl rfl (Fr.nil hF))))))))))))))))) (Fr.cons hF (t := 12) rfl (by first | rfl | (simp; done)) (Fr.nil hF)) (hW) ?_ ?_
                    · exact ⟨by omega, fun i hi => by omega⟩
                    clear hF hW
                    try clear a
                    intro m a wc hC hF hW
                    obtain ⟨hm, hin⟩ := hC
                    refine c_s ?_
                    refine c_sr ?_
                    refine pv hF hW (y_move hF rfl) (fun a hF => ?_)
                    refine pv hF hW (y_fieldOwn hF rfl fa_68_0) (fun a hF => ?_)
                    refine pv hF hW (y_loadOwn hF rfl 0 rfl rfl Try.underlying64 rfl) (fun a hF => ?_)
                    refine pv hF hW (y_move hF rfl) (fun a hF => ?_)
                    refine pv hF hW (y_indexS hF rfl rfl (by first | omega | decide) Try.underlying64 sz_42 (fun w h => (hx.partsR).wd h)) (fun a hF => ?_)
                    refine pv hF hW (y_fieldRow hF rfl fa_42_0) (fun a hF => ?_)
                    refine pv hF hW (y_loadRow hF rfl (fun w h => (hx.partsR).wd h) (by first | omega | decide) rfl Try.underlying40 rfl) (fun a hF => ?_)
                    refine pv hF hW (y_len hF rfl Try.underlying40) (fun a hF => ?_)
                    refine pv hF hW (y_lss hF rfl rfl) (fun a hF => ?_)
                    refine Fr.splitD hF ?_ ?_
                    · intro h20 hF
                      refine l_nil ?_
                      replace hF := (hF.k 0 rfl (hF.k 1 rfl (hF.k 3 rfl (hF.k 4 rfl (hF.k 5 rfl (hF.k 7 rfl (hF.k 8 rfl (hF.k 10 rfl (hF.k 11 rfl (hF.k 12 rfl (hF.k 32 rfl (hF.k 35 rfl (hF.k 48 rfl (hF.k 65 rfl (hF.k 80 rfl (hF.k 113 rfl (hF.k 138 rfl (hF.k 149 rfl hF.nil))))))))))))))))))
                      refine t_n ?_
                      refine c_t hF rfl ?_
                      refine wp_skip ?_
                      refine t_n ?_
                      refine c_s ?_
                      refine wp_block ?_
                      refine c_sr ?_
                      refine pv hF hW (y_fieldOwn hF rfl fa_68_0) (fun a hF => ?_)
                      refine pv hF hW (y_loadOwn hF rfl 0 rfl rfl Try.underlying64 rfl) (fun a hF => ?_)
                      refine pv hF hW (y_move hF rfl) (fun a hF => ?_)
                      refine pv hF hW (y_indexS hF rfl rfl (by first | omega | decide) Try.underlying64 sz_42 (fun w h => (hx.partsR).wd h)) (fun a hF => ?_)
                      refine pv hF hW (y_fieldRow hF rfl fa_42_0) (fun a hF => ?_)
                      refine pv hF hW (y_loadRow hF rfl (fun w h => (hx.partsR).wd h) (by first | omega | decide) rfl Try.underlying40 rfl) (fun a hF => ?_)
                      refine pv hF hW (y_move hF rfl) (fun a hF => ?_)
                      refine pv hF hW (y_indexS hF rfl rfl (by first | omega | decide) Try.underlying40 sz_95 (fun w h => ((hx.codeR (k := k) (by omega))).wd h)) (fun a hF => ?_)
                      refine pv hF hW (y_loadRowW hF rfl (fun w h => ((hx.codeR (k := k) (by omega))).wd h) (by first | omega | decide) Try.underlying95 rfl sz_95) (fun a hF => ?_)
                      refine pe (e_alloc hF hW ze_95 rfl rfl rfl ?_)
                      intro b21 a wc hF hW
                      refine pe (e_storeAll rfl hF hW rfl rfl 0 rfl rfl rfl (by kernel_rfl) sz_95 ?_)
                      intro wc hW
                      refine l_nil ?_
                      replace hF := (hF.k 0 rfl (hF.k 1 rfl (hF.k 3 rfl (hF.k 4 rfl (hF.k 5 rfl (hF.k 7 rfl (hF.k 8 rfl (hF.k 10 rfl (hF.k 11 rfl (hF.k 12 rfl (hF.k 13 rfl (hF.k 32 rfl (hF.k 35 rfl (hF.k 48 rfl (hF.k 65 rfl (hF.k 80 rfl (hF.k 113 rfl (hF.k 138 rfl (hF.k 149 rfl hF.nil)))))))))))))))))))
                      refine t_n ?_
                      refine c_sr ?_
                      refine pv hF hW (y_fieldOwn hF rfl fa_95_0) (fun a hF => ?_)
                      refine pv hF hW (y_loadOwn hF rfl 0 rfl rfl Try.underlying3 rfl) (fun a hF => ?_)
                      refine pv hF hW (y_eql hF rfl rfl) (fun a hF => ?_)
                      refine Fr.splitD hF ?_ ?_
                      · intro h22 hF
                        refine pv hF hW (y_move hF rfl) (fun a hF => ?_)
                        refine pv hF hW (y_fieldOwn hF rfl fa_95_3) (fun a hF => ?_) (ws hF rfl rfl)
                        refine pv hF hW (y_loadOwn hF rfl 0 rfl rfl Try.underlying3 rfl) (fun a hF => ?_) (ws hF rfl rfl)
                        refine pv hF hW (y_fieldOwn hF rfl fa_68_1) (fun a hF => ?_) (ws hF rfl rfl)
                        refine pv hF hW (y_loadOwn hF rfl 1 rfl rfl Try.underlying65 rfl) (fun a hF => ?_) (ws hF rfl rfl)
                        refine pv hF hW (y_len hF rfl Try.underlying65) (fun a hF => ?_) (ws hF rfl rfl)
                        refine pv hF hW (y_geq hF rfl rfl) (fun a hF => ?_) (ws hF rfl rfl)
                        refine Fr.splitD hF ?_ ?_
                        · intro h23 hF
                          refine pv hF hW (y_move hF rfl) (fun a hF => ?_) (ws hF rfl rfl)
                          refine p_skip hF (wn hF rfl rfl rfl) rfl rfl (fun a hF => ?_)
                          refine p_skip hF (wn hF rfl rfl rfl) rfl rfl (fun a hF => ?_)
                          refine p_skip hF (wn hF rfl rfl rfl) rfl rfl (fun a hF => ?_)
                          refine p_skip hF (wn hF rfl rfl rfl) rfl rfl (fun a hF => ?_)
                          refine p_skip hF (wn hF rfl rfl rfl) rfl rfl (fun a hF => ?_)
                          refine p_skip hF (wn hF rfl rfl rfl) rfl rfl (fun a hF => ?_)
                          refine p_skip hF (wn hF rfl rfl rfl) rfl rfl (fun a hF => ?_)
                          refine p_skip hF (wn hF rfl rfl rfl) rfl rfl (fun a hF => ?_)
                          refine p_skip hF (wn hF rfl rfl rfl) rfl rfl (fun a hF => ?_)
                          refine pv hF hW (y_pick hF rfl rfl) (fun a hF => ?_) (ws hF rfl rfl)
                          refine pv hF hW (y_pick hF rfl rfl) (fun a hF => ?_)
                          refine pv hF hW (y_move hF rfl) (fun a hF => ?_)
                          refine p_skip hF (wn hF rfl rfl rfl) rfl rfl (fun a hF => ?_)
                          refine p_skip hF (wn hF rfl rfl rfl) rfl rfl (fun a hF => ?_)
                          refine p_skip hF (wn hF rfl rfl rfl) rfl rfl (fun a hF => ?_)
                          refine p_skip hF (wn hF rfl rfl rfl) rfl rfl (fun a hF => ?_)
                          refine p_skip hF (wu hF rfl rfl) rfl rfl (fun a hF => ?_)
                          refine p_skip hF (wu hF rfl rfl) rfl rfl (fun a hF => ?_)
                          refine p_skip hF (wu hF rfl rfl) rfl rfl (fun a hF => ?_)
                          refine p_skip hF (wu hF rfl rfl) rfl rfl (fun a hF => ?_)
                          refine p_skip hF (wu hF rfl rfl) rfl rfl (fun a hF => ?_)
                          refine p_skip hF (wu hF rfl rfl) rfl rfl (fun a hF => ?_)
                          refine p_skip hF (wu hF rfl rfl) rfl rfl (fun a hF => ?_)
                          refine p_skip hF (wu hF rfl rfl) rfl rfl (fun a hF => ?_)
                          refine p_skip hF (wu hF rfl rfl) rfl rfl (fun a hF => ?_)
                          refine p_skip hF (wu hF rfl rfl) rfl rfl (fun a hF => ?_)
                          refine p_skip hF (wu hF rfl rfl) rfl rfl (fun a hF => ?_)
                          refine p_skip hF (wu hF rfl rfl) rfl rfl (fun a hF => ?_)
                          refine p_skip hF (wu hF rfl rfl) rfl rfl (fun a hF => ?_)
                          refine p_skip hF (wu hF rfl rfl) rfl rfl (fun a hF => ?_)
                          refine p_skip hF (wu hF rfl rfl) rfl rfl (fun a hF => ?_)
                          refine p_skip hF (wu hF rfl rfl) rfl rfl (fun a hF => ?_)
                          refine p_skip hF (wu hF rfl rfl) rfl rfl (fun a hF => ?_)
                          refine p_skip hF (wn hF rfl rfl rfl) rfl rfl (fun a hF => ?_)
                          refine pv hF hW (y_pick hF rfl rfl) (fun a hF => ?_)
                          refine l_nil ?_
                          replace hF := (hF.k 0 rfl (hF.k 1 rfl (hF.k 3 rfl (hF.k 4 rfl (hF.k 5 rfl (hF.k 7 rfl (hF.k 8 rfl (hF.k 10 rfl (hF.k 11 rfl (hF.k 12 rfl (hF.k 13 rfl (hF.k 32 rfl (hF.k 35 rfl (hF.k 48 rfl (hF.k 65 rfl (hF.k 80 rfl (hF.k 113 rfl (hF.k 138 rfl (hF.k 149 rfl (hF.k 206 rfl hF.nil))))))))))))))))))))
                          refine t_n ?_
                          refine c_t hF rfl ?_
                          refine c_sr ?_
                          refine pv hF hW (y_assign hF rfl) (fun a hF => ?_)
                          refine l_nil ?_
                          refine t_n ?_
                          refine wp_ret ?_
                          refine b_r ?_
                          refine t_r ?_
                          refine t_r ?_
                          refine b_r ?_
                          refine b_r ?_
                          refine t_r ?_
                          refine t_r ?_
                          refine b_r ?_
                          refine t_r ?_
                          refine ret1 Try.results36 hF (rv_t hF rfl) ?_
                          exact ⟨by rw [chkSys_1 HS HFC HKD HCH HSL (names_false (k := k) (i := m) (by omega) (by omega) (ins_bad12 (by omega) (by omega)))], hW.below⟩
                        · intro h23 hF
                          refine pv hF hW (y_move hF rfl) (fun a hF => ?_) (ws hF rfl rfl)
                          refine pv hF hW (y_fieldOwn hF rfl fa_68_1) (fun a hF => ?_) (ws hF rfl rfl)
                          refine pv hF hW (y_loadOwn hF rfl 1 rfl rfl Try.underlying65 rfl) (fun a hF => ?_) (ws hF rfl rfl)
                          refine pv hF hW (y_fieldOwn hF rfl fa_95_3) (fun a hF => ?_) (ws hF rfl rfl)
                          refine pv hF hW (y_loadOwn hF rfl 0 rfl rfl Try.underlying3 rfl) (fun a hF => ?_) (ws hF rfl rfl)
                          replace hF := Fr.cast (v' := .int .i64 ((((x.parts.getD k P0).1.code.getD m I0).n.toNat : Nat) : Int)) (by exact chan_nat HFC (by omega) (by omega) (by omega)) hF
                          refine pv hF hW (y_indexS hF rfl rfl (by have := chan_num HFC (k := k) (i := m) (by omega) (by omega) (by omega); omega) Try.underlying65 sz_105 (fun w h => (hx.chansR).wd h)) (fun a hF => ?_) (ws hF rfl rfl)
                          refine pv hF hW (y_fieldRow hF rfl fa_105_1) (fun a hF => ?_) (ws hF rfl rfl)
                          refine pv hF hW (y_loadRow hF rfl (fun w h => (hx.chansR).wd h) (by have := chan_num HFC (k := k) (i := m) (by omega) (by omega) (by omega); omega) rfl Try.underlying3 rfl) (fun a hF => ?_) (ws hF rfl rfl)
                          refine pv hF hW (y_move hF rfl) (fun a hF => ?_) (ws hF rfl rfl)
                          refine pv hF hW (y_neq hF rfl rfl) (fun a hF => ?_) (ws hF rfl rfl)
                          refine Fr.splitD hF ?_ ?_
                          · intro h24 hF
                            refine pv hF hW (y_pick hF rfl rfl) (fun a hF => ?_) (ws hF rfl rfl)
                            refine pv hF hW (y_pick hF rfl rfl) (fun a hF => ?_)
                            refine pv hF hW (y_move hF rfl) (fun a hF => ?_)
                            refine p_skip hF (wn hF rfl rfl rfl) rfl rfl (fun a hF => ?_)
                            refine p_skip hF (wn hF rfl rfl rfl) rfl rfl (fun a hF => ?_)
                            refine p_skip hF (wn hF rfl rfl rfl) rfl rfl (fun a hF => ?_)
                            refine p_skip hF (wn hF rfl rfl rfl) rfl rfl (fun a hF => ?_)
                            refine p_skip hF (wu hF rfl rfl) rfl rfl (fun a hF => ?_)
                            refine p_skip hF (wu hF rfl rfl) rfl rfl (fun a hF => ?_)
                            refine p_skip hF (wu hF rfl rfl) rfl rfl (fun a hF => ?_)
                            refine p_skip hF (wu hF rfl rfl) rfl rfl (fun a hF => ?_)
                            refine p_skip hF (wu hF rfl rfl) rfl rfl (fun a hF => ?_)
                            refine p_skip hF (wu hF rfl rfl) rfl rfl (fun a hF => ?_)
                            refine p_skip hF (wu hF rfl rfl) rfl rfl (fun a hF => ?_)
                            refine p_skip hF (wu hF rfl rfl) rfl rfl (fun a hF => ?_)
                            refine p_skip hF (wu hF rfl rfl) rfl rfl (fun a hF => ?_)
                            refine p_skip hF (wu hF rfl rfl) rfl rfl (fun a hF => ?_)
                            refine p_skip hF (wu hF rfl rfl) rfl rfl (fun a hF => ?_)
                            refine p_skip hF (wu hF rfl rfl) rfl rfl (fun a hF => ?_)
                            refine p_skip hF (wu hF rfl rfl) rfl rfl (fun a hF => ?_)
                            refine p_skip hF (wu hF rfl rfl) rfl rfl (fun a hF => ?_)
                            refine p_skip hF (wu hF rfl rfl) rfl rfl (fun a hF => ?_)
                            refine p_skip hF (wu hF rfl rfl) rfl rfl (fun a hF => ?_)
                            refine p_skip hF (wu hF rfl rfl) rfl rfl (fun a hF => ?_)
                            refine p_skip hF (wn hF rfl rfl rfl) rfl rfl (fun a hF => ?_)
                            refine pv hF hW (y_pick hF rfl rfl) (fun a hF => ?_)
                            refine l_nil ?_
                            replace hF := (hF.k 0 rfl (hF.k 1 rfl (hF.k 3 rfl (hF.k 4 rfl (hF.k 5 rfl (hF.k 7 rfl (hF.k 8 rfl (hF.k 10 rfl (hF.k 11 rfl (hF.k 12 rfl (hF.k 13 rfl (hF.k 32 rfl (hF.k 35 rfl (hF.k 48 rfl (hF.k 65 rfl (hF.k 80 rfl (hF.k 113 rfl (hF.k 138 rfl (hF.k 149 rfl (hF.k 206 rfl hF.nil))))))))))))))))))))
                            refine t_n ?_
                            refine c_t hF rfl ?_
                            refine c_sr ?_
                            refine pv hF hW (y_assign hF rfl) (fun a hF => ?_)
                            refine l_nil ?_
                            refine t_n ?_
                            refine wp_ret ?_
                            refine b_r ?_
                            refine t_r ?_
                            refine t_r ?_
                            refine b_r ?_
                            refine b_r ?_
                            refine t_r ?_
                            refine t_r ?_
                            refine b_r ?_
                            refine t_r ?_
                            refine ret1 Try.results36 hF (rv_t hF rfl) ?_
                            exact ⟨by rw [chkSys_1 HS HFC HKD HCH HSL (names_false (k := k) (i := m) (by omega) (by omega) (ins_bad12 (by omega) (by omega)))], hW.below⟩
                          · intro h24 hF
                            refine pv hF hW (y_pick hF rfl rfl) (fun a hF => ?_) (ws hF rfl rfl)
                            refine pv hF hW (y_pick hF rfl rfl) (fun a hF => ?_)
                            refine pv hF hW (y_move hF rfl) (fun a hF => ?_)
                            refine pv hF hW (y_fieldOwn hF rfl fa_95_0) (fun a hF => ?_) (ws hF rfl rfl)
                            refine pv hF hW (y_loadOwn hF rfl 0 rfl rfl Try.underlying3 rfl) (fun a hF => ?_) (ws hF rfl rfl)
                            refine pv hF hW (y_eql hF rfl rfl) (fun a hF => ?_) (ws hF rfl rfl)
                            refine Fr.splitD hF ?_ ?_
                            · intro h25 hF
                              refine pv hF hW (y_move hF rfl) (fun a hF => ?_) (ws hF rfl rfl)
                              refine pv hF hW (y_fieldOwn hF rfl fa_95_3) (fun a hF => ?_) (ws hF rfl rfl)
                              refine pv hF hW (y_loadOwn hF rfl 0 rfl rfl Try.underlying3 rfl) (fun a hF => ?_) (ws hF rfl rfl)
                              refine pv hF hW (y_fieldOwn hF rfl fa_68_1) (fun a hF => ?_) (ws hF rfl rfl)
                              refine pv hF hW (y_loadOwn hF rfl 1 rfl rfl Try.underlying65 rfl) (fun a hF => ?_) (ws hF rfl rfl)
                              refine pv hF hW (y_len hF rfl Try.underlying65) (fun a hF => ?_) (ws hF rfl rfl)
                              refine pv hF hW (y_geq hF rfl rfl) (fun a hF => ?_) (ws hF rfl rfl)
                              refine Fr.splitD hF ?_ ?_
                              · intro h26 hF
                                refine pv hF hW (y_move hF rfl) (fun a hF => ?_) (ws hF rfl rfl)
                                refine p_skip hF (wn hF rfl rfl rfl) rfl rfl (fun a hF => ?_)
                                refine p_skip hF (wn hF rfl rfl rfl) rfl rfl (fun a hF => ?_)
                                refine p_skip hF (wn hF rfl rfl rfl) rfl rfl (fun a hF => ?_)
                                refine p_skip hF (wn hF rfl rfl rfl) rfl rfl (fun a hF => ?_)
                                refine p_skip hF (wn hF rfl rfl rfl) rfl rfl (fun a hF => ?_)
                                refine p_skip hF (wn hF rfl rfl rfl) rfl rfl (fun a hF => ?_)
                                refine p_skip hF (wn hF rfl rfl rfl) rfl rfl (fun a hF => ?_)
                                refine p_skip hF (wn hF rfl rfl rfl) rfl rfl (fun a hF => ?_)
                                refine p_skip hF (wn hF rfl rfl rfl) rfl rfl (fun a hF => ?_)
                                refine pv hF hW (y_pick hF rfl rfl) (fun a hF => ?_) (ws hF rfl rfl)
                                refine pv hF hW (y_pick hF rfl rfl) (fun a hF => ?_) (ws hF rfl rfl)
                                refine pv hF hW (y_pick hF rfl rfl) (fun a hF => ?_)
                                refine l_nil ?_
                                replace hF := (hF.k 0 rfl (hF.k 1 rfl (hF.k 3 rfl (hF.k 4 rfl (hF.k 5 rfl (hF.k 7 rfl (hF.k 8 rfl (hF.k 10 rfl (hF.k 11 rfl (hF.k 12 rfl (hF.k 13 rfl (hF.k 32 rfl (hF.k 35 rfl (hF.k 48 rfl (hF.k 65 rfl (hF.k 80 rfl (hF.k 113 rfl (hF.k 138 rfl (hF.k 149 rfl (hF.k 206 rfl hF.nil))))))))))))))))))))
                                refine t_n ?_
                                refine c_t hF rfl ?_
                                refine c_sr ?_
                                refine pv hF hW (y_assign hF rfl) (fun a hF => ?_)
                                refine l_nil ?_
                                refine t_n ?_
                                refine wp_ret ?_
                                refine b_r ?_
                                refine t_r ?_
                                refine t_r ?_
                                refine b_r ?_
                                refine b_r ?_
                                refine t_r ?_
                                refine t_r ?_
                                refine b_r ?_
                                refine t_r ?_
                                refine ret1 Try.results36 hF (rv_t hF rfl) ?_
                                exact ⟨by rw [chkSys_1 HS HFC HKD HCH HSL (names_false (k := k) (i := m) (by omega) (by omega) (ins_bad13 (by omega) (by omega)))], hW.below⟩
                              · intro h26 hF
                                refine pv hF hW (y_move hF rfl) (fun a hF => ?_) (ws hF rfl rfl)
                                refine pv hF hW (y_fieldOwn hF rfl fa_68_1) (fun a hF => ?_) (ws hF rfl rfl)
                                refine pv hF hW (y_loadOwn hF rfl 1 rfl rfl Try.underlying65 rfl) (fun a hF => ?_) (ws hF rfl rfl)
                                refine pv hF hW (y_fieldOwn hF rfl fa_95_3) (fun a hF => ?_) (ws hF rfl rfl)
                                refine pv hF hW (y_loadOwn hF rfl 0 rfl rfl Try.underlying3 rfl) (fun a hF => ?_) (ws hF rfl rfl)
                                replace hF := Fr.cast (v' := .int .i64 ((((x.parts.getD k P0).1.code.getD m I0).n.toNat : Nat) : Int)) (by exact chan_nat HFC (by omega) (by omega) (by omega)) hF
                                refine pv hF hW (y_indexS hF rfl rfl (by have := chan_num HFC (k := k) (i := m) (by omega) (by omega) (by omega); omega) Try.underlying65 sz_105 (fun w h => (hx.chansR).wd h)) (fun a hF => ?_) (ws hF rfl rfl)
                                refine pv hF hW (y_fieldRow hF rfl fa_105_2) (fun a hF => ?_) (ws hF rfl rfl)
                                refine pv hF hW (y_loadRow hF rfl (fun w h => (hx.chansR).wd h) (by have := chan_num HFC (k := k) (i := m) (by omega) (by omega) (by omega); omega) rfl Try.underlying3 rfl) (fun a hF => ?_) (ws hF rfl rfl)
                                refine pv hF hW (y_move hF rfl) (fun a hF => ?_) (ws hF rfl rfl)
                                refine pv hF hW (y_neq hF rfl rfl) (fun a hF => ?_) (ws hF rfl rfl)
                                refine Fr.splitD hF ?_ ?_
                                · intro h27 hF
                                  refine pv hF hW (y_pick hF rfl rfl) (fun a hF => ?_) (ws hF rfl rfl)
                                  refine pv hF hW (y_pick hF rfl rfl) (fun a hF => ?_) (ws hF rfl rfl)
                                  refine pv hF hW (y_pick hF rfl rfl) (fun a hF => ?_)
                                  refine l_nil ?_
                                  replace hF := (hF.k 0 rfl (hF.k 1 rfl (hF.k 3 rfl (hF.k 4 rfl (hF.k 5 rfl (hF.k 7 rfl (hF.k 8 rfl (hF.k 10 rfl (hF.k 11 rfl (hF.k 12 rfl (hF.k 13 rfl (hF.k 32 rfl (hF.k 35 rfl (hF.k 48 rfl (hF.k 65 rfl (hF.k 80 rfl (hF.k 113 rfl (hF.k 138 rfl (hF.k 149 rfl (hF.k 206 rfl hF.nil))))))))))))))))))))
                                  refine t_n ?_
                                  refine c_t hF rfl ?_
                                  refine c_sr ?_
                                  refine pv hF hW (y_assign hF rfl) (fun a hF => ?_)
                                  refine l_nil ?_
                                  refine t_n ?_
                                  refine wp_ret ?_
                                  refine b_r ?_
                                  refine t_r ?_
                                  refine t_r ?_
                                  refine b_r ?_
                                  refine b_r ?_
                                  refine t_r ?_
                                  refine t_r ?_
                                  refine b_r ?_
                                  refine t_r ?_
                                  refine ret1 Try.results36 hF (rv_t hF rfl) ?_
                                  exact ⟨by rw [chkSys_1 HS HFC HKD HCH HSL (names_false (k := k) (i := m) (by omega) (by omega) (ins_bad13 (by omega) (by omega)))], hW.below⟩
                                · intro h27 hF
                                  refine pv hF hW (y_pick hF rfl rfl) (fun a hF => ?_) (ws hF rfl rfl)
                                  refine pv hF hW (y_pick hF rfl rfl) (fun a hF => ?_) (ws hF rfl rfl)
                                  refine pv hF hW (y_pick hF rfl rfl) (fun a hF => ?_)
                                  refine l_nil ?_
                                  replace hF := (hF.k 0 rfl (hF.k 1 rfl (hF.k 3 rfl (hF.k 4 rfl (hF.k 5 rfl (hF.k 7 rfl (hF.k 8 rfl (hF.k 10 rfl (hF.k 11 rfl (hF.k 12 rfl (hF.k 13 rfl (hF.k 32 rfl (hF.k 35 rfl (hF.k 48 rfl (hF.k 65 rfl (hF.k 80 rfl (hF.k 113 rfl (hF.k 138 rfl (hF.k 149 rfl (hF.k 206 rfl hF.nil))))))))))))))))))))
                                  refine t_n ?_
                                  refine c_f hF rfl ?_
                                  refine wp_skip ?_
                                  refine b_n ?_
                                  refine t_n ?_
                                  refine c_r ?_
                                  refine pv hF hW (y_move hF rfl) (fun a hF => ?_)
                                  refine pv hF hW (y_add hF rfl rfl (IntWalk.i64_in _ (by omega))) (fun a hF => ?_)
                                  replace hF := hF.drop 12
                                  refine pv hF hW (y_assign hF rfl) (fun a hF => ?_)
                                  refine l_nil ?_
                                  replace hF := (hF.k 0 rfl (hF.k 1 rfl (hF.k 3 rfl (hF.k 4 rfl (hF.k 5 rfl (hF.k 7 rfl (hF.k 8 rfl (hF.k 10 rfl (hF.k 11 rfl (hF.k 12 rfl (hF.k 13 rfl (hF.k 32 rfl (hF.k 35 rfl (hF.k 48 rfl (hF.k 65 rfl (hF.k 80 rfl (hF.k 113 rfl (hF.k 138 rfl (hF.k 149 rfl (hF.k 206 rfl hF.nil))))))))))))))))))))
                                  replace hW := hW.del 0 rfl
                                  refine t_n ?_
                                  refine ⟨(m + 1), ?_, ?_, ?_, ?_⟩
                                  · exact ⟨by omega, fun i hi => by rcases Nat.lt_or_ge i m with h | h; exact hin i h; (have hik : i = m := by omega); rw [hik]; exact ins_good (fun _ => ⟨by omega, by omega⟩) (fun _ => ⟨by omega, by omega⟩)⟩
                                  · first | omega | (dsimp only; omega)
                                  · exact Fr.app (Fr.cons hF (t := 12) rfl (by first | rfl | (simp; done) | omega) (Fr.nil hF)) (Fr.cons hF (t := 0) rfl rfl (Fr.cons hF (t := 1) rfl rfl (Fr.cons hF (t := 3) rfl rfl (Fr.cons hF (t := 4) rfl rfl (Fr.cons hF (t := 5) rfl rfl (Fr.cons hF (t := 7) rfl rfl (Fr.cons hF (t := 8) rfl rfl (Fr.cons hF (t := 10) rfl rfl (Fr.cons hF (t := 11) rfl rfl (Fr.cons hF (t := 32) rfl rfl (Fr.cons hF (t := 35) rfl rfl (Fr.cons hF (t := 48) rfl rfl (Fr.cons hF (t := 65) rfl rfl (Fr.cons hF (t := 80) rfl rfl (Fr.cons hF (t := 113) rfl rfl (Fr.cons hF (t := 138) rfl rfl (Fr.nil hF)))))))))))))))))
                                  · exact hW
                            · intro h25 hF
                              refine pv hF hW (y_move hF rfl) (fun a hF => ?_) (ws hF rfl rfl)
                              refine p_skip hF (wn hF rfl rfl rfl) rfl rfl (fun a hF => ?_)
                              refine p_skip hF (wn hF rfl rfl rfl) rfl rfl (fun a hF => ?_)
                              refine p_skip hF (wn hF rfl rfl rfl) rfl rfl (fun a hF => ?_)
                              refine p_skip hF (wn hF rfl rfl rfl) rfl rfl (fun a hF => ?_)
                              refine p_skip hF (wn hF rfl rfl rfl) rfl rfl (fun a hF => ?_)
                              refine p_skip hF (wn hF rfl rfl rfl) rfl rfl (fun a hF => ?_)
                              refine p_skip hF (wn hF rfl rfl rfl) rfl rfl (fun a hF => ?_)
                              refine p_skip hF (wu hF rfl rfl) rfl rfl (fun a hF => ?_)
                              refine p_skip hF (wu hF rfl rfl) rfl rfl (fun a hF => ?_)
                              refine p_skip hF (wu hF rfl rfl) rfl rfl (fun a hF => ?_)
                              refine p_skip hF (wu hF rfl rfl) rfl rfl (fun a hF => ?_)
                              refine p_skip hF (wu hF rfl rfl) rfl rfl (fun a hF => ?_)
                              refine p_skip hF (wu hF rfl rfl) rfl rfl (fun a hF => ?_)
                              refine p_skip hF (wu hF rfl rfl) rfl rfl (fun a hF => ?_)
                              refine p_skip hF (wu hF rfl rfl) rfl rfl (fun a hF => ?_)
                              refine p_skip hF (wu hF rfl rfl) rfl rfl (fun a hF => ?_)
                              refine p_skip hF (wn hF rfl rfl rfl) rfl rfl (fun a hF => ?_)
                              refine pv hF hW (y_pick hF rfl rfl) (fun a hF => ?_) (ws hF rfl rfl)
                              refine pv hF hW (y_pick hF rfl rfl) (fun a hF => ?_)
                              refine l_nil ?_
                              replace hF := (hF.k 0 rfl (hF.k 1 rfl (hF.k 3 rfl (hF.k 4 rfl (hF.k 5 rfl (hF.k 7 rfl (hF.k 8 rfl (hF.k 10 rfl (hF.k 11 rfl (hF.k 12 rfl (hF.k 13 rfl (hF.k 32 rfl (hF.k 35 rfl (hF.k 48 rfl (hF.k 65 rfl (hF.k 80 rfl (hF.k 113 rfl (hF.k 138 rfl (hF.k 149 rfl (hF.k 206 rfl hF.nil))))))))))))))))))))
                              refine t_n ?_
                              refine c_f hF rfl ?_
                              refine wp_skip ?_
                              refine b_n ?_
                              refine t_n ?_
                              refine c_r ?_
                              refine pv hF hW (y_move hF rfl) (fun a hF => ?_)
                              refine pv hF hW (y_add hF rfl rfl (IntWalk.i64_in _ (by omega))) (fun a hF => ?_)
                              replace hF := hF.drop 12
                              refine pv hF hW (y_assign hF rfl) (fun a hF => ?_)
                              refine l_nil ?_
                              replace hF := (hF.k 0 rfl (hF.k 1 rfl (hF.k 3 rfl (hF.k 4 rfl (hF.k 5 rfl (hF.k 7 rfl (hF.k 8 rfl (hF.k 10 rfl (hF.k 11 rfl (hF.k 12 rfl (hF.k 13 rfl (hF.k 32 rfl (hF.k 35 rfl (hF.k 48 rfl (hF.k 65 rfl (hF.k 80 rfl (hF.k 113 rfl (hF.k 138 rfl (hF.k 149 rfl (hF.k 206 rfl hF.nil))))))))))))))))))))
                              replace hW := hW.del 0 rfl
                              refine t_n ?_
                              refine ⟨(m + 1), ?_, ?_, ?_, ?_⟩
                              · exact ⟨by omega, fun i hi => by rcases Nat.lt_or_ge i m with h | h; exact hin i h; (have hik : i = m := by omega); rw [hik]; exact ins_good (fun _ => ⟨by omega, by omega⟩) (fun _ => ⟨by omega, by omega⟩)⟩
                              · first | omega | (dsimp only; omega)
                              · exact Fr.app (Fr.cons hF (t := 12) rfl (by first | rfl | (simp; done) | omega) (Fr.nil hF)) (Fr.cons hF (t := 0) rfl rfl (Fr.cons hF (t := 1) rfl rfl (Fr.cons hF (t := 3) rfl rfl (Fr.cons hF (t := 4) rfl rfl (Fr.cons hF (t := 5) rfl rfl (Fr.cons hF (t := 7) rfl rfl (Fr.cons hF (t := 8) rfl rfl (Fr.cons hF (t := 10) rfl rfl (Fr.cons hF (t := 11) rfl rfl (Fr.cons hF (t := 32) rfl rfl (Fr.cons hF (t := 35) rfl rfl (Fr.cons hF (t := 48) rfl rfl (Fr.cons hF (t := 65) rfl rfl (Fr.cons hF (t := 80) rfl rfl (Fr.cons hF (t := 113) rfl rfl (Fr.cons hF (t := 138) rfl rfl (Fr.nil hF)))))))))))))))))
                              · exact hW
                      · intro h22 hF
                        refine pv hF hW (y_move hF rfl) (fun a hF => ?_)
                        refine p_skip hF (wn hF rfl rfl rfl) rfl rfl (fun a hF => ?_)
                        refine p_skip hF (wn hF rfl rfl rfl) rfl rfl (fun a hF => ?_)
                        refine p_skip hF (wn hF rfl rfl rfl) rfl rfl (fun a hF => ?_)
                        refine p_skip hF (wn hF rfl rfl rfl) rfl rfl (fun a hF => ?_)
                        refine p_skip hF (wn hF rfl rfl rfl) rfl rfl (fun a hF => ?_)
                        refine p_skip hF (wn hF rfl rfl rfl) rfl rfl (fun a hF => ?_)
                        refine p_skip hF (wn hF rfl rfl rfl) rfl rfl (fun a hF => ?_)
                        refine p_skip hF (wu hF rfl rfl) rfl rfl (fun a hF => ?_)
                        refine p_skip hF (wu hF rfl rfl) rfl rfl (fun a hF => ?_)
                        refine p_skip hF (wu hF rfl rfl) rfl rfl (fun a hF => ?_)
                        refine p_skip hF (wu hF rfl rfl) rfl rfl (fun a hF => ?_)
                        refine p_skip hF (wu hF rfl rfl) rfl rfl (fun a hF => ?_)
                        refine p_skip hF (wu hF rfl rfl) rfl rfl (fun a hF => ?_)
                        refine p_skip hF (wu hF rfl rfl) rfl rfl (fun a hF => ?_)
                        refine p_skip hF (wu hF rfl rfl) rfl rfl (fun a hF => ?_)
                        refine p_skip hF (wu hF rfl rfl) rfl rfl (fun a hF => ?_)
                        refine p_skip hF (wn hF rfl rfl rfl) rfl rfl (fun a hF => ?_)
                        refine pv hF hW (y_pick hF rfl rfl) (fun a hF => ?_)
                        refine pv hF hW (y_move hF rfl) (fun a hF => ?_)
                        refine pv hF hW (y_fieldOwn hF rfl fa_95_0) (fun a hF => ?_) (ws hF rfl rfl)
                        refine pv hF hW (y_loadOwn hF rfl 0 rfl rfl Try.underlying3 rfl) (fun a hF => ?_) (ws hF rfl rfl)
                        refine pv hF hW (y_eql hF rfl rfl) (fun a hF => ?_) (ws hF rfl rfl)
                        refine Fr.splitD hF ?_ ?_
                        · intro h28 hF
                          refine pv hF hW (y_move hF rfl) (fun a hF => ?_) (ws hF rfl rfl)
                          refine pv hF hW (y_fieldOwn hF rfl fa_95_3) (fun a hF => ?_) (ws hF rfl rfl)
                          refine pv hF hW (y_loadOwn hF rfl 0 rfl rfl Try.underlying3 rfl) (fun a hF => ?_) (ws hF rfl rfl)
                          refine pv hF hW (y_fieldOwn hF rfl fa_68_1) (fun a hF => ?_) (ws hF rfl rfl)
                          refine pv hF hW (y_loadOwn hF rfl 1 rfl rfl Try.underlying65 rfl) (fun a hF => ?_) (ws hF rfl rfl)
                          refine pv hF hW (y_len hF rfl Try.underlying65) (fun a hF => ?_) (ws hF rfl rfl)
                          refine pv hF hW (y_geq hF rfl rfl) (fun a hF => ?_) (ws hF rfl rfl)
                          refine Fr.splitD hF ?_ ?_
                          · intro h29 hF
                            refine pv hF hW (y_move hF rfl) (fun a hF => ?_) (ws hF rfl rfl)
                            refine p_skip hF (wn hF rfl rfl rfl) rfl rfl (fun a hF => ?_)
                            refine p_skip hF (wn hF rfl rfl rfl) rfl rfl (fun a hF => ?_)
                            refine p_skip hF (wn hF rfl rfl rfl) rfl rfl (fun a hF => ?_)
                            refine p_skip hF (wn hF rfl rfl rfl) rfl rfl (fun a hF => ?_)
                            refine p_skip hF (wn hF rfl rfl rfl) rfl rfl (fun a hF => ?_)
                            refine p_skip hF (wn hF rfl rfl rfl) rfl rfl (fun a hF => ?_)
                            refine p_skip hF (wn hF rfl rfl rfl) rfl rfl (fun a hF => ?_)
                            refine p_skip hF (wn hF rfl rfl rfl) rfl rfl (fun a hF => ?_)
                            refine p_skip hF (wn hF rfl rfl rfl) rfl rfl (fun a hF => ?_)
                            refine pv hF hW (y_pick hF rfl rfl) (fun a hF => ?_) (ws hF rfl rfl)
                            refine pv hF hW (y_pick hF rfl rfl) (fun a hF => ?_) (ws hF rfl rfl)
                            refine pv hF hW (y_pick hF rfl rfl) (fun a hF => ?_)
                            refine l_nil ?_
                            replace hF := (hF.k 0 rfl (hF.k 1 rfl (hF.k 3 rfl (hF.k 4 rfl (hF.k 5 rfl (hF.k 7 rfl (hF.k 8 rfl (hF.k 10 rfl (hF.k 11 rfl (hF.k 12 rfl (hF.k 13 rfl (hF.k 32 rfl (hF.k 35 rfl (hF.k 48 rfl (hF.k 65 rfl (hF.k 80 rfl (hF.k 113 rfl (hF.k 138 rfl (hF.k 149 rfl (hF.k 206 rfl hF.nil))))))))))))))))))))
                            refine t_n ?_
                            refine c_t hF rfl ?_
                            refine c_sr ?_
                            refine pv hF hW (y_assign hF rfl) (fun a hF => ?_)
                            refine l_nil ?_
                            refine t_n ?_
                            refine wp_ret ?_
                            refine b_r ?_
                            refine t_r ?_
                            refine t_r ?_
                            refine b_r ?_
                            refine b_r ?_
                            refine t_r ?_
                            refine t_r ?_
                            refine b_r ?_
                            refine t_r ?_
                            refine ret1 Try.results36 hF (rv_t hF rfl) ?_
                            exact ⟨by rw [chkSys_1 HS HFC HKD HCH HSL (names_false (k := k) (i := m) (by omega) (by omega) (ins_bad13 (by omega) (by omega)))], hW.below⟩
                          · intro h29 hF
                            refine pv hF hW (y_move hF rfl) (fun a hF => ?_) (ws hF rfl rfl)
                            refine pv hF hW (y_fieldOwn hF rfl fa_68_1) (fun a hF => ?_) (ws hF rfl rfl)
                            refine pv hF hW (y_loadOwn hF rfl 1 rfl rfl Try.underlying65 rfl) (fun a hF => ?_) (ws hF rfl rfl)
                            refine pv hF hW (y_fieldOwn hF rfl fa_95_3) (fun a hF => ?_) (ws hF rfl rfl)
                            refine pv hF hW (y_loadOwn hF rfl 0 rfl rfl Try.underlying3 rfl) (fun a hF => ?_) (ws hF rfl rfl)
                            replace hF := Fr.cast (v' := .int .i64 ((((x.parts.getD k P0).1.code.getD m I0).n.toNat : Nat) : Int)) (by exact chan_nat HFC (by omega) (by omega) (by omega)) hF
                            refine pv hF hW (y_indexS hF rfl rfl (by have := chan_num HFC (k := k) (i := m) (by omega) (by omega) (by omega); omega) Try.underlying65 sz_105 (fun w h => (hx.chansR).wd h)) (fun a hF => ?_) (ws hF rfl rfl)
                            refine pv hF hW (y_fieldRow hF rfl fa_105_2) (fun a hF => ?_) (ws hF rfl rfl)
                            refine pv hF hW (y_loadRow hF rfl (fun w h => (hx.chansR).wd h) (by have := chan_num HFC (k := k) (i := m) (by omega) (by omega) (by omega); omega) rfl Try.underlying3 rfl) (fun a hF => ?_) (ws hF rfl rfl)
                            refine pv hF hW (y_move hF rfl) (fun a hF => ?_) (ws hF rfl rfl)
                            refine pv hF hW (y_neq hF rfl rfl) (fun a hF => ?_) (ws hF rfl rfl)
                            refine Fr.splitD hF ?_ ?_
                            · intro h30 hF
                              refine pv hF hW (y_pick hF rfl rfl) (fun a hF => ?_) (ws hF rfl rfl)
                              refine pv hF hW (y_pick hF rfl rfl) (fun a hF => ?_) (ws hF rfl rfl)
                              refine pv hF hW (y_pick hF rfl rfl) (fun a hF => ?_)
                              refine l_nil ?_
                              replace hF := (hF.k 0 rfl (hF.k 1 rfl (hF.k 3 rfl (hF.k 4 rfl (hF.k 5 rfl (hF.k 7 rfl (hF.k 8 rfl (hF.k 10 rfl (hF.k 11 rfl (hF.k 12 rfl (hF.k 13 rfl (hF.k 32 rfl (hF.k 35 rfl (hF.k 48 rfl (hF.k 65 rfl (hF.k 80 rfl (hF.k 113 rfl (hF.k 138 rfl (hF.k 149 rfl (hF.k 206 rfl hF.nil))))))))))))))))))))
                              refine t_n ?_
                              refine c_t hF rfl ?_
                              refine c_sr ?_
                              refine pv hF hW (y_assign hF rfl) (fun a hF => ?_)
                              refine l_nil ?_
                              refine t_n ?_
                              refine wp_ret ?_
                              refine b_r ?_
                              refine t_r ?_
                              refine t_r ?_
                              refine b_r ?_
                              refine b_r ?_
                              refine t_r ?_
                              refine t_r ?_
                              refine b_r ?_
                              refine t_r ?_
                              refine ret1 Try.results36 hF (rv_t hF rfl) ?_
                              exact ⟨by rw [chkSys_1 HS HFC HKD HCH HSL (names_false (k := k) (i := m) (by omega) (by omega) (ins_bad13 (by omega) (by omega)))], hW.below⟩
                            · intro h30 hF
                              refine pv hF hW (y_pick hF rfl rfl) (fun a hF => ?_) (ws hF rfl rfl)
                              refine pv hF hW (y_pick hF rfl rfl) (fun a hF => ?_) (ws hF rfl rfl)
                              refine pv hF hW (y_pick hF rfl rfl) (fun a hF => ?_)
                              refine l_nil ?_
                              replace hF := (hF.k 0 rfl (hF.k 1 rfl (hF.k 3 rfl (hF.k 4 rfl (hF.k 5 rfl (hF.k 7 rfl (hF.k 8 rfl (hF.k 10 rfl (hF.k 11 rfl (hF.k 12 rfl (hF.k 13 rfl (hF.k 32 rfl (hF.k 35 rfl (hF.k 48 rfl (hF.k 65 rfl (hF.k 80 rfl (hF.k 113 rfl (hF.k 138 rfl (hF.k 149 rfl (hF.k 206 rfl hF.nil))))))))))))))))))))
                              refine t_n ?_
                              refine c_f hF rfl ?_
                              refine wp_skip ?_
                              refine b_n ?_
                              refine t_n ?_
                              refine c_r ?_
                              refine pv hF hW (y_move hF rfl) (fun a hF => ?_)
                              refine pv hF hW (y_add hF rfl rfl (IntWalk.i64_in _ (by omega))) (fun a hF => ?_)
                              replace hF := hF.drop 12
                              refine pv hF hW (y_assign hF rfl) (fun a hF => ?_)
                              refine l_nil ?_
                              replace hF := (hF.k 0 rfl (hF.k 1 rfl (hF.k 3 rfl (hF.k 4 rfl (hF.k 5 rfl (hF.k 7 rfl (hF.k 8 rfl (hF.k 10 rfl (hF.k 11 rfl (hF.k 12 rfl (hF.k 13 rfl (hF.k 32 rfl (hF.k 35 rfl (hF.k 48 rfl (hF.k 65 rfl (hF.k 80 rfl (hF.k 113 rfl (hF.k 138 rfl (hF.k 149 rfl (hF.k 206 rfl hF.nil))))))))))))))))))))
                              replace hW := hW.del 0 rfl
                              refine t_n ?_
                              refine ⟨(m + 1), ?_, ?_, ?_, ?_⟩
                              · exact ⟨by omega, fun i hi => by rcases Nat.lt_or_ge i m with h | h; exact hin i h; (have hik : i = m := by omega); rw [hik]; exact ins_good (fun _ => ⟨by omega, by omega⟩) (fun _ => ⟨by omega, by omega⟩)⟩
                              · first | omega | (dsimp only; omega)
                              · exact Fr.app (Fr.cons hF (t := 12) rfl (by first | rfl | (simp; done) | omega) (Fr.nil hF)) (Fr.cons hF (t := 0) rfl rfl (Fr.cons hF (t := 1) rfl rfl (Fr.cons hF (t := 3) rfl rfl (Fr.cons hF (t := 4) rfl rfl (Fr.cons hF (t := 5) rfl rfl (Fr.cons hF (t := 7) rfl rfl (Fr.cons hF (t := 8) rfl rfl (Fr.cons hF (t := 10) rfl rfl (Fr.cons hF (t := 11) rfl rfl (Fr.cons hF (t := 32) rfl rfl (Fr.cons hF (t := 35) rfl rfl (Fr.cons hF (t := 48) rfl rfl (Fr.cons hF (t := 65) rfl rfl (Fr.cons hF (t := 80) rfl rfl (Fr.cons hF (t := 113) rfl rfl (Fr.cons hF (t := 138) rfl rfl (Fr.nil hF)))))))))))))))))
                              · exact hW
                        · intro h28 hF
                          refine pv hF hW (y_move hF rfl) (fun a hF => ?_) (ws hF rfl rfl)
                          refine p_skip hF (wn hF rfl rfl rfl) rfl rfl (fun a hF => ?_)
                          refine p_skip hF (wn hF rfl rfl rfl) rfl rfl (fun a hF => ?_)
                          refine p_skip hF (wn hF rfl rfl rfl) rfl rfl (fun a hF => ?_)
                          refine p_skip hF (wn hF rfl rfl rfl) rfl rfl (fun a hF => ?_)
                          refine p_skip hF (wn hF rfl rfl rfl) rfl rfl (fun a hF => ?_)
                          refine p_skip hF (wn hF rfl rfl rfl) rfl rfl (fun a hF => ?_)
                          refine p_skip hF (wn hF rfl rfl rfl) rfl rfl (fun a hF => ?_)
                          refine p_skip hF (wu hF rfl rfl) rfl rfl (fun a hF => ?_)
                          refine p_skip hF (wu hF rfl rfl) rfl rfl (fun a hF => ?_)
                          refine p_skip hF (wu hF rfl rfl) rfl rfl (fun a hF => ?_)
                          refine p_skip hF (wu hF rfl rfl) rfl rfl (fun a hF => ?_)
                          refine p_skip hF (wu hF rfl rfl) rfl rfl (fun a hF => ?_)
                          refine p_skip hF (wu hF rfl rfl) rfl rfl (fun a hF => ?_)
                          refine p_skip hF (wu hF rfl rfl) rfl rfl (fun a hF => ?_)
                          refine p_skip hF (wu hF rfl rfl) rfl rfl (fun a hF => ?_)
                          refine p_skip hF (wu hF rfl rfl) rfl rfl (fun a hF => ?_)
                          refine p_skip hF (wn hF rfl rfl rfl) rfl rfl (fun a hF => ?_)
                          refine pv hF hW (y_pick hF rfl rfl) (fun a hF => ?_) (ws hF rfl rfl)
                          refine pv hF hW (y_pick hF rfl rfl) (fun a hF => ?_)
                          refine l_nil ?_
                          replace hF := (hF.k 0 rfl (hF.k 1 rfl (hF.k 3 rfl (hF.k 4 rfl (hF.k 5 rfl (hF.k 7 rfl (hF.k 8 rfl (hF.k 10 rfl (hF.k 11 rfl (hF.k 12 rfl (hF.k 13 rfl (hF.k 32 rfl (hF.k 35 rfl (hF.k 48 rfl (hF.k 65 rfl (hF.k 80 rfl (hF.k 113 rfl (hF.k 138 rfl (hF.k 149 rfl (hF.k 206 rfl hF.nil))))))))))))))))))))
                          refine t_n ?_
                          refine c_f hF rfl ?_
                          refine wp_skip ?_
                          refine b_n ?_
                          refine t_n ?_
                          refine c_r ?_
                          refine pv hF hW (y_move hF rfl) (fun a hF => ?_)
                          refine pv hF hW (y_add hF rfl rfl (IntWalk.i64_in _ (by omega))) (fun a hF => ?_)
                          replace hF := hF.drop 12
                          refine pv hF hW (y_assign hF rfl) (fun a hF => ?_)
                          refine l_nil ?_
                          replace hF := (hF.k 0 rfl (hF.k 1 rfl (hF.k 3 rfl (hF.k 4 rfl (hF.k 5 rfl (hF.k 7 rfl (hF.k 8 rfl (hF.k 10 rfl (hF.k 11 rfl (hF.k 12 rfl (hF.k 13 rfl (hF.k 32 rfl (hF.k 35 rfl (hF.k 48 rfl (hF.k 65 rfl (hF.k 80 rfl (hF.k 113 rfl (hF.k 138 rfl (hF.k 149 rfl (hF.k 206 rfl hF.nil))))))))))))))))))))
                          replace hW := hW.del 0 rfl
                          refine t_n ?_
                          refine ⟨(m + 1), ?_, ?_, ?_, ?_⟩
                          · exact ⟨by omega, fun i hi => by rcases Nat.lt_or_ge i m with h | h; exact hin i h; (have hik : i = m := by omega); rw [hik]; exact ins_good (fun _ => ⟨by omega, by omega⟩) (fun _ => ⟨by omega, by omega⟩)⟩
                          · first | omega | (dsimp only; omega)
                          · exact Fr.app (Fr.cons hF (t := 12) rfl (by first | rfl | (simp; done) | omega) (Fr.nil hF)) (Fr.cons hF (t := 0) rfl rfl (Fr.cons hF (t := 1) rfl rfl (Fr.cons hF (t := 3) rfl rfl (Fr.cons hF (t := 4) rfl rfl (Fr.cons hF (t := 5) rfl rfl (Fr.cons hF (t := 7) rfl rfl (Fr.cons hF (t := 8) rfl rfl (Fr.cons hF (t := 10) rfl rfl (Fr.cons hF (t := 11) rfl rfl (Fr.cons hF (t := 32) rfl rfl (Fr.cons hF (t := 35) rfl rfl (Fr.cons hF (t := 48) rfl rfl (Fr.cons hF (t := 65) rfl rfl (Fr.cons hF (t := 80) rfl rfl (Fr.cons hF (t := 113) rfl rfl (Fr.cons hF (t := 138) rfl rfl (Fr.nil hF)))))))))))))))))
                          · exact hW
                    · intro h20 hF
                      refine l_nil ?_
                      replace hF := (hF.k 0 rfl (hF.k 1 rfl (hF.k 3 rfl (hF.k 4 rfl (hF.k 5 rfl (hF.k 7 rfl (hF.k 8 rfl (hF.k 10 rfl (hF.k 11 rfl (hF.k 12 rfl (hF.k 32 rfl (hF.k 35 rfl (hF.k 48 rfl (hF.k 65 rfl (hF.k 80 rfl (hF.k 113 rfl (hF.k 138 rfl (hF.k 149 rfl hF.nil))))))))))))))))))
                      refine t_n ?_
                      refine c_f hF rfl ?_
                      refine wp_exit ?_
                      refine t_x ?_
                      refine t_x ?_
                      refine b_h ?_
                      refine b_n ?_
                      refine t_n ?_
                      refine c_r ?_
                      refine pv hF hW (y_move hF rfl) (fun a hF => ?_)
                      refine pv hF hW (y_add hF rfl rfl (IntWalk.i64_in _ (by omega))) (fun a hF => ?_)
                      replace hF := hF.drop 11
                      refine pv hF hW (y_assign hF rfl) (fun a hF => ?_)
                      refine l_nil ?_
                      replace hF := (hF.k 0 rfl (hF.k 1 rfl (hF.k 3 rfl (hF.k 4 rfl (hF.k 5 rfl (hF.k 7 rfl (hF.k 8 rfl (hF.k 10 rfl (hF.k 11 rfl (hF.k 12 rfl (hF.k 32 rfl (hF.k 35 rfl (hF.k 48 rfl (hF.k 65 rfl (hF.k 80 rfl (hF.k 113 rfl (hF.k 138 rfl (hF.k 149 rfl hF.nil))))))))))))))))))
                      refine t_n ?_
                      refine ⟨(k + 1), ?_, ?_, ?_, ?_⟩
                      · exact ⟨by omega, fun q hq => by rcases Nat.lt_or_ge q k with h | h; exact hnm q h; (have hik : q = k := by omega); rw [hik]; exact fun i hi => hin i (by omega)⟩
                      · first | omega | (dsimp only; omega)
                      · exact Fr.app (Fr.cons hF (t := 11) rfl (by first | rfl | (simp; done) | omega) (Fr.nil hF)) (Fr.cons hF (t := 0) rfl rfl (Fr.cons hF (t := 1) rfl rfl (Fr.cons hF (t := 3) rfl rfl (Fr.cons hF (t := 4) rfl rfl (Fr.cons hF (t := 5) rfl rfl (Fr.cons hF (t := 7) rfl rfl (Fr.cons hF (t := 8) rfl rfl (Fr.cons hF (t := 10) rfl rfl (Fr.cons hF (t := 32) rfl rfl (Fr.cons hF (t := 35) rfl rfl (Fr.cons hF (t := 48) rfl rfl (Fr.cons hF (t := 65) rfl rfl (Fr.cons hF (t := 80) rfl rfl (Fr.cons hF (t := 113) rfl rfl (Fr.nil hF)))))))))))))))
                      · exact hW
                  · intro h19 hF
                    refine l_nil ?_
                    replace hF := (hF.k 0 rfl (hF.k 1 rfl (hF.k 3 rfl (hF.k 4 rfl (hF.k 5 rfl (hF.k 7 rfl (hF.k 8 rfl (hF.k 10 rfl (hF.k 11 rfl (hF.k 32 rfl (hF.k 35 rfl (hF.k 48 rfl (hF.k 65 rfl (hF.k 80 rfl (hF.k 113 rfl (hF.k 138 rfl hF.nil))))))))))))))))
                    refine t_n ?_
                    refine c_f hF rfl ?_
                    refine wp_exit ?_
                    refine t_x ?_
                    refine t_x ?_
                    refine b_h ?_
                    refine t_n ?_
                    refine c_sr ?_
                    refine pv hF hW (y_assign hF rfl) (fun a hF => ?_)
                    refine l_nil ?_
                    refine t_n ?_
                    refine wp_ret ?_
                    refine ret1 Try.results36 hF (rv_t hF rfl) ?_
                    exact ⟨by rw [chkSys_0 HS HFC HKD HCH HSL (names_true fun q hq => hnm q (by omega))], hW.below⟩
      · intro h4 hF
        refine pv hF hW (y_not hF rfl) (fun a hF => ?_) (ws hF rfl rfl)
        replace hF := Fr.bool (t := true) (by first | decide | (simp; done) | rfl) hF
        refine pv hF hW (y_pick hF rfl rfl) (fun a hF => ?_)
        replace hF := Fr.bool (t := true) (by first | decide | (simp; done) | rfl) hF
        refine l_nil ?_
        replace hF := (hF.k 0 rfl (hF.k 1 rfl (hF.k 2 rfl (hF.k 3 rfl (hF.k 32 rfl hF.nil)))))
        refine t_n ?_
        refine c_t hF rfl ?_
        refine c_sr ?_
        replace hF := hF.drop 2
        refine pv hF hW (y_assign hF rfl) (fun a hF => ?_)
        refine l_nil ?_
        refine t_n ?_
        refine wp_ret ?_
        refine t_r ?_
        refine ret1 Try.results36 hF (rv_t hF rfl) ?_
        exact ⟨by rw [chkSys_2 (sizes_false (by simp only [decide_eq_false_iff_not, decide_eq_true_eq] at *; omega))], hW.below⟩
  · intro h2 hF
    refine pv hF hW (y_not hF rfl) (fun a hF => ?_)
    replace hF := Fr.bool (t := true) (by first | decide | (simp; done) | rfl) hF
    refine pv hF hW (y_move hF rfl) (fun a hF => ?_)
    replace hF := Fr.bool (t := true) (by first | decide | (simp; done) | rfl) hF
    refine p_skip hF (wn hF rfl rfl rfl) rfl rfl (fun a hF => ?_)
    refine p_skip hF (wn hF rfl rfl rfl) rfl rfl (fun a hF => ?_)
    refine p_skip hF (wn hF rfl rfl rfl) rfl rfl (fun a hF => ?_)
    refine p_skip hF (wn hF rfl rfl rfl) rfl rfl (fun a hF => ?_)
    refine pv hF hW (y_pick hF rfl rfl) (fun a hF => ?_)
    refine pv hF hW (y_move hF rfl) (fun a hF => ?_)
    refine p_skip hF (wn hF rfl rfl rfl) rfl rfl (fun a hF => ?_)
    refine p_skip hF (wn hF rfl rfl rfl) rfl rfl (fun a hF => ?_)
    refine p_skip hF (wn hF rfl rfl rfl) rfl rfl (fun a hF => ?_)
    refine p_skip hF (wn hF rfl rfl rfl) rfl rfl (fun a hF => ?_)
    refine p_skip hF (wn hF rfl rfl rfl) rfl rfl (fun a hF => ?_)
    refine pv hF hW (y_pick hF rfl rfl) (fun a hF => ?_)
    refine l_nil ?_
    replace hF := (hF.k 0 rfl (hF.k 1 rfl (hF.k 2 rfl (hF.k 3 rfl (hF.k 32 rfl hF.nil)))))
    refine t_n ?_
    refine c_t hF rfl ?_
    refine c_sr ?_
    replace hF := hF.drop 2
    refine pv hF hW (y_assign hF rfl) (fun a hF => ?_)
    refine l_nil ?_
    refine t_n ?_
    refine wp_ret ?_
    refine t_r ?_
    refine ret1 Try.results36 hF (rv_t hF rfl) ?_
    exact ⟨by rw [chkSys_2 (sizes_false (by simp only [decide_eq_false_iff_not, decide_eq_true_eq] at *; omega))], hW.below⟩
end Go.Proofs.Ytebklpbbglojmaa
