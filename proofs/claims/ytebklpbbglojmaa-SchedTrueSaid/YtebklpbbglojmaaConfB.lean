/- The tests that conf.Check hands to some: what each tells. -/
import Derived.Test.YtebklpbbglojmaaConfA
import Derived.Test.YtebklpbbglojmaaSys
namespace Go.Proofs.Ytebklpbbglojmaa
set_option linter.unusedVariables false
set_option linter.unusedSimpArgs false
open Go.ChangeShapes Go.WideShapes Go.ChangeAt Go.RowKit

set_option maxRecDepth 100000

theorem any_getD {α : Type} (d : α) (f : α → Bool) (l : List α) : (List.range l.length).any (fun k => f (l.getD k d)) = l.any f := by
  cases h : l.any f
  · refine any_false fun k hk => ?_
    cases hf : f (l.getD k d)
    · rfl
    · rw [List.any_eq_true.2 ⟨_, mem_getD d hk, hf⟩] at h; cases h
  · obtain ⟨y, hy, hf⟩ := List.any_eq_true.1 h
    obtain ⟨k, hk, rfl⟩ := List.mem_iff_getElem.1 hy
    refine any_true hk ?_
    rwa [List.getD, List.getElem?_eq_getElem hk]
theorem any_not {α : Type} (f : α → Bool) (l : List α) : l.any (fun y => !f y) = !l.all f := by
  induction l with
  | nil => rfl
  | cons y r ih => simp [ih]
def badPut (cs : List Chn) (p : Nat) (m : Int) : Bool := decide ((cs.length : Int) ≤ m) || (cs.getD m.toNat C0).from_ != p
def badGet (cs : List Chn) (p : Nat) (m : Int) : Bool := decide ((cs.length : Int) ≤ m) || (cs.getD m.toNat C0).to_ != p

theorem ck1_any {v : Value} {A : Option Addr} {n c : Nat} {w : World} :
    Calls Try.prog 65 #[.agg #[v, .slice A n c]] w fun e w' => e = .returned (.bool (decide (12 < n))) ∧ Below w.heap.size w w' := by
  refine enter Try.func65 rfl Try.ntmps65 rfl (fun a hF => ?_)
  have hW := Wd.start w NoB
  refine c_sr ?_
  refine pe (e_box hF hW rfl rfl rfl rfl ?_)
  intro b1 a wc hF hW
  refine pv hF hW (y_assign hF rfl) (fun a hF => ?_)
  refine l_nil ?_
  refine t_n ?_
  refine c_sr ?_
  refine pv hF hW (y_fieldOwn hF rfl fa_42_1) (fun a hF => ?_)
  refine pv hF hW (y_loadOwn hF rfl 0 rfl rfl Try.underlying22 rfl) (fun a hF => ?_)
  refine pv hF hW (y_len hF rfl Try.underlying22) (fun a hF => ?_)
  refine pv hF hW (y_gtr hF rfl rfl) (fun a hF => ?_)
  replace hF := hF.drop 2
  refine pv hF hW (y_assign hF rfl) (fun a hF => ?_)
  refine l_nil ?_
  replace hF := (hF.k 0 rfl (hF.k 1 rfl (hF.k 2 rfl hF.nil)))
  refine t_n ?_
  refine wp_ret ?_
  refine ret1 Try.results65 hF (rv_t hF rfl) ?_
  exact ⟨by simp only [show ((12 : Int) < (n : Int)) = (12 < n) from propext (by omega)], hW.below⟩
section
variable {x : SysD} {w : World} {b1 : Nat} {T1 : TypeId}
theorem ck2_any {n : Int} (hB : Blk w b1 T1 [.slice x.pa x.parts.length x.pc, .slice x.ha x.chans.length x.hc, .slice x.sa x.slots.length x.sc]) :
    Calls Try.prog 66 #[.int .i64 n, .pointer (some ⟨b1, 0, none⟩)] w fun e w' => e = .returned (.bool (partOk x.parts.length n)) ∧ Below w.heap.size w w' := by
  refine enter Try.func66 rfl Try.ntmps66 rfl (fun a hF => ?_)
  have hW := Wd.start w NoB
  refine c_sr ?_
  refine pv hF hW (y_assign hF rfl) (fun a hF => ?_)
  refine l_nil ?_
  refine t_n ?_
  refine c_sr ?_
  refine pv hF hW (y_move hF rfl) (fun a hF => ?_)
  refine pv hF hW (y_geq hF rfl rfl) (fun a hF => ?_)
  refine Fr.splitD hF ?_ ?_
  · intro h1 hF
    refine pv hF hW (y_move hF rfl) (fun a hF => ?_)
    refine pv hF hW (y_move hF rfl) (fun a hF => ?_) (ws hF rfl rfl)
    refine pv hF hW (y_fieldOwn hF rfl fa_68_0) (fun a hF => ?_) (ws hF rfl rfl)
    refine pv hF hW (y_loadB hF rfl (hB) rfl Try.underlying64 rfl) (fun a hF => ?_) (ws hF rfl rfl)
    refine pv hF hW (y_len hF rfl Try.underlying64) (fun a hF => ?_) (ws hF rfl rfl)
    refine pv hF hW (y_lss hF rfl rfl) (fun a hF => ?_) (ws hF rfl rfl)
    refine Fr.splitD hF ?_ ?_
    · intro h2 hF
      refine pv hF hW (y_pick hF rfl rfl) (fun a hF => ?_)
      replace hF := hF.drop 3
      refine pv hF hW (y_assign hF rfl) (fun a hF => ?_)
      refine l_nil ?_
      replace hF := (hF.k 0 rfl (hF.k 1 rfl (hF.k 3 rfl hF.nil)))
      refine t_n ?_
      refine wp_ret ?_
      refine ret1 Try.results66 hF (rv_t hF rfl) ?_
      exact ⟨by simp [partOk, *], hW.below⟩
    · intro h2 hF
      refine pv hF hW (y_pick hF rfl rfl) (fun a hF => ?_)
      replace hF := hF.drop 3
      refine pv hF hW (y_assign hF rfl) (fun a hF => ?_)
      refine l_nil ?_
      replace hF := (hF.k 0 rfl (hF.k 1 rfl (hF.k 3 rfl hF.nil)))
      refine t_n ?_
      refine wp_ret ?_
      refine ret1 Try.results66 hF (rv_t hF rfl) ?_
      exact ⟨by simp [partOk, *], hW.below⟩
  · intro h1 hF
    refine pv hF hW (y_move hF rfl) (fun a hF => ?_)
    refine p_skip hF (wn hF rfl rfl rfl) rfl rfl (fun a hF => ?_)
    refine p_skip hF (wn hF rfl rfl rfl) rfl rfl (fun a hF => ?_)
    refine p_skip hF (wn hF rfl rfl rfl) rfl rfl (fun a hF => ?_)
    refine p_skip hF (wn hF rfl rfl rfl) rfl rfl (fun a hF => ?_)
    refine p_skip hF (wn hF rfl rfl rfl) rfl rfl (fun a hF => ?_)
    refine pv hF hW (y_pick hF rfl rfl) (fun a hF => ?_)
    replace hF := hF.drop 3
    refine pv hF hW (y_assign hF rfl) (fun a hF => ?_)
    refine l_nil ?_
    replace hF := (hF.k 0 rfl (hF.k 1 rfl (hF.k 3 rfl hF.nil)))
    refine t_n ?_
    refine wp_ret ?_
    refine ret1 Try.results66 hF (rv_t hF rfl) ?_
    exact ⟨by simp [partOk, *], hW.below⟩
theorem ck3_any {c : Chn} :
    Calls Try.prog 68 #[.agg c.cells.toArray] w fun e w' => e = .returned (.bool (!kindOk c.kind)) ∧ Below w.heap.size w w' := by
  change Calls _ _ #[.agg #[.int .i64 c.kind, .int .i64 c.from_, .int .i64 c.to_]] _ _
  refine enter Try.func68 rfl Try.ntmps68 rfl (fun a hF => ?_)
  have hW := Wd.start w NoB
  refine c_sr ?_
  refine pe (e_box hF hW rfl rfl rfl rfl ?_)
  intro b1 a wc hF hW
  refine pv hF hW (y_assign hF rfl) (fun a hF => ?_)
  refine l_nil ?_
  refine t_n ?_
  refine c_sr ?_
  refine pv hF hW (y_fieldOwn hF rfl fa_105_0) (fun a hF => ?_)
  refine pv hF hW (y_loadOwn hF rfl 0 rfl rfl Try.underlying3 rfl) (fun a hF => ?_)
  refine pv hF hW (y_neq hF rfl rfl) (fun a hF => ?_)
  refine Fr.splitD hF ?_ ?_
  · intro h2 hF
    refine pv hF hW (y_move hF rfl) (fun a hF => ?_)
    refine pv hF hW (y_fieldOwn hF rfl fa_105_0) (fun a hF => ?_) (ws hF rfl rfl)
    refine pv hF hW (y_loadOwn hF rfl 0 rfl rfl Try.underlying3 rfl) (fun a hF => ?_) (ws hF rfl rfl)
    refine pv hF hW (y_neq hF rfl rfl) (fun a hF => ?_) (ws hF rfl rfl)
    refine Fr.splitD hF ?_ ?_
    · intro h3 hF
      refine pv hF hW (y_pick hF rfl rfl) (fun a hF => ?_)
      replace hF := hF.drop 2
      refine pv hF hW (y_assign hF rfl) (fun a hF => ?_)
      refine l_nil ?_
      replace hF := (hF.k 0 rfl (hF.k 1 rfl (hF.k 2 rfl hF.nil)))
      refine t_n ?_
      refine wp_ret ?_
      refine ret1 Try.results68 hF (rv_t hF rfl) ?_
      exact ⟨by simp [kindOk]; simp_all, hW.below⟩
    · intro h3 hF
      refine pv hF hW (y_pick hF rfl rfl) (fun a hF => ?_)
      replace hF := hF.drop 2
      refine pv hF hW (y_assign hF rfl) (fun a hF => ?_)
      refine l_nil ?_
      replace hF := (hF.k 0 rfl (hF.k 1 rfl (hF.k 2 rfl hF.nil)))
      refine t_n ?_
      refine wp_ret ?_
      refine ret1 Try.results68 hF (rv_t hF rfl) ?_
      exact ⟨by simp [kindOk]; simp_all, hW.below⟩
  · intro h2 hF
    refine pv hF hW (y_move hF rfl) (fun a hF => ?_)
    refine p_skip hF (wn hF rfl rfl rfl) rfl rfl (fun a hF => ?_)
    refine p_skip hF (wn hF rfl rfl rfl) rfl rfl (fun a hF => ?_)
    refine p_skip hF (wn hF rfl rfl rfl) rfl rfl (fun a hF => ?_)
    refine pv hF hW (y_pick hF rfl rfl) (fun a hF => ?_)
    replace hF := hF.drop 2
    refine pv hF hW (y_assign hF rfl) (fun a hF => ?_)
    refine l_nil ?_
    replace hF := (hF.k 0 rfl (hF.k 1 rfl (hF.k 2 rfl hF.nil)))
    refine t_n ?_
    refine wp_ret ?_
    refine ret1 Try.results68 hF (rv_t hF rfl) ?_
    exact ⟨by simp [kindOk]; simp_all, hW.below⟩
theorem ck4_any {c : Chn} {b6 : Nat} {T6 : TypeId} (hB : Blk w b1 T1 [.slice x.pa x.parts.length x.pc, .slice x.ha x.chans.length x.hc, .slice x.sa x.slots.length x.sc]) (h6 : Blk w b6 T6 [.func (.func 66) #[] #[.pointer (some ⟨b1, 0, none⟩)]]) :
    Calls Try.prog 69 #[.agg c.cells.toArray, .pointer (some ⟨b6, 0, none⟩)] w fun e w' => e = .returned (.bool (!chnOk x.parts.length c)) ∧ Below w.heap.size w w' := by
  change Calls _ _ #[.agg #[.int .i64 c.kind, .int .i64 c.from_, .int .i64 c.to_], _] _ _
  refine enter Try.func69 rfl Try.ntmps69 rfl (fun a hF => ?_)
  have hW := Wd.start w NoB
  refine c_sr ?_
  refine pe (e_box hF hW rfl rfl rfl rfl ?_)
  intro b1 a wc hF hW
  refine pv hF hW (y_assign hF rfl) (fun a hF => ?_)
  refine l_nil ?_
  refine t_n ?_
  refine c_sr ?_
  refine pv hF hW (y_loadB hF rfl (h6) rfl Try.underlying85 rfl) (fun a hF => ?_)
  refine pv hF hW (y_fieldOwn hF rfl fa_105_1) (fun a hF => ?_)
  refine pv hF hW (y_loadOwn hF rfl 0 rfl rfl Try.underlying3 rfl) (fun a hF => ?_)
  refine pe (e_call hF rfl rfl en_66 (by rfl) rfl rfl (ck2_any (hB.kept hW.below)) ?_)
  rintro e w1 ⟨rfl, hb⟩
  replace hW := hW.kept hb
  clear hb
  refine ⟨_, rfl, fun a hF => ?_⟩
  refine Fr.splitB hF ?_ ?_
  · intro h2 hF
    refine pv hF hW (y_not hF rfl) (fun a hF => ?_)
    replace hF := Fr.bool (t := false) (by first | decide | (simp; done) | rfl) hF
    refine pv hF hW (y_move hF rfl) (fun a hF => ?_)
    replace hF := Fr.bool (t := false) (by first | decide | (simp; done) | rfl) hF
    refine pv hF hW (y_loadB hF rfl (h6) rfl Try.underlying85 rfl) (fun a hF => ?_) (ws hF rfl rfl)
    refine pv hF hW (y_fieldOwn hF rfl fa_105_2) (fun a hF => ?_) (ws hF rfl rfl)
    refine pv hF hW (y_loadOwn hF rfl 0 rfl rfl Try.underlying3 rfl) (fun a hF => ?_) (ws hF rfl rfl)
    refine pe (e_call hF rfl rfl en_66 (by rfl) rfl rfl (ck2_any (hB.kept hW.below)) ?_) (ws hF rfl rfl)
    rintro e w1 ⟨rfl, hb⟩
    replace hW := hW.kept hb
    clear hb
    refine ⟨_, rfl, fun a hF => ?_⟩
    refine Fr.splitB hF ?_ ?_
    · intro h3 hF
      refine pv hF hW (y_not hF rfl) (fun a hF => ?_) (ws hF rfl rfl)
      replace hF := Fr.bool (t := false) (by first | decide | (simp; done) | rfl) hF
      refine pv hF hW (y_pick hF rfl rfl) (fun a hF => ?_)
      replace hF := Fr.bool (t := false) (by first | decide | (simp; done) | rfl) hF
      refine pv hF hW (y_move hF rfl) (fun a hF => ?_)
      replace hF := Fr.bool (t := false) (by first | decide | (simp; done) | rfl) hF
      refine pv hF hW (y_fieldOwn hF rfl fa_105_1) (fun a hF => ?_) (ws hF rfl rfl)
      refine pv hF hW (y_loadOwn hF rfl 0 rfl rfl Try.underlying3 rfl) (fun a hF => ?_) (ws hF rfl rfl)
      refine pv hF hW (y_fieldOwn hF rfl fa_105_2) (fun a hF => ?_) (ws hF rfl rfl)
      refine pv hF hW (y_loadOwn hF rfl 0 rfl rfl Try.underlying3 rfl) (fun a hF => ?_) (ws hF rfl rfl)
      refine pv hF hW (y_eql hF rfl rfl) (fun a hF => ?_) (ws hF rfl rfl)
      refine Fr.splitD hF ?_ ?_
      · intro h4 hF
        refine pv hF hW (y_pick hF rfl rfl) (fun a hF => ?_)
        replace hF := hF.drop 3
        refine pv hF hW (y_assign hF rfl) (fun a hF => ?_)
        refine l_nil ?_
        replace hF := (hF.k 0 rfl (hF.k 1 rfl (hF.k 2 rfl (hF.k 3 rfl hF.nil))))
        refine t_n ?_
        refine wp_ret ?_
        refine ret1 Try.results69 hF (rv_t hF rfl) ?_
        exact ⟨by simp [chnOk, *], hW.below⟩
      · intro h4 hF
        refine pv hF hW (y_pick hF rfl rfl) (fun a hF => ?_)
        replace hF := hF.drop 3
        refine pv hF hW (y_assign hF rfl) (fun a hF => ?_)
        refine l_nil ?_
        replace hF := (hF.k 0 rfl (hF.k 1 rfl (hF.k 2 rfl (hF.k 3 rfl hF.nil))))
        refine t_n ?_
        refine wp_ret ?_
        refine ret1 Try.results69 hF (rv_t hF rfl) ?_
        exact ⟨by simp [chnOk, *], hW.below⟩
    · intro h3 hF
      refine pv hF hW (y_not hF rfl) (fun a hF => ?_) (ws hF rfl rfl)
      replace hF := Fr.bool (t := true) (by first | decide | (simp; done) | rfl) hF
      refine pv hF hW (y_pick hF rfl rfl) (fun a hF => ?_)
      replace hF := Fr.bool (t := true) (by first | decide | (simp; done) | rfl) hF
      refine pv hF hW (y_move hF rfl) (fun a hF => ?_)
      replace hF := Fr.bool (t := true) (by first | decide | (simp; done) | rfl) hF
      refine p_skip hF (wn hF rfl rfl rfl) rfl rfl (fun a hF => ?_)
      refine p_skip hF (wn hF rfl rfl rfl) rfl rfl (fun a hF => ?_)
      refine p_skip hF (wn hF rfl rfl rfl) rfl rfl (fun a hF => ?_)
      refine p_skip hF (wn hF rfl rfl rfl) rfl rfl (fun a hF => ?_)
      refine p_skip hF (wn hF rfl rfl rfl) rfl rfl (fun a hF => ?_)
      refine pv hF hW (y_pick hF rfl rfl) (fun a hF => ?_)
      replace hF := hF.drop 3
      refine pv hF hW (y_assign hF rfl) (fun a hF => ?_)
      refine l_nil ?_
      replace hF := (hF.k 0 rfl (hF.k 1 rfl (hF.k 2 rfl (hF.k 3 rfl hF.nil))))
      refine t_n ?_
      refine wp_ret ?_
      refine ret1 Try.results69 hF (rv_t hF rfl) ?_
      exact ⟨by simp [chnOk, *], hW.below⟩
  · intro h2 hF
    refine pv hF hW (y_not hF rfl) (fun a hF => ?_)
    replace hF := Fr.bool (t := true) (by first | decide | (simp; done) | rfl) hF
    refine pv hF hW (y_move hF rfl) (fun a hF => ?_)
    replace hF := Fr.bool (t := true) (by first | decide | (simp; done) | rfl) hF
    refine p_skip hF (wn hF rfl rfl rfl) rfl rfl (fun a hF => ?_)
    refine p_skip hF (wn hF rfl rfl rfl) rfl rfl (fun a hF => ?_)
    refine p_skip hF (wn hF rfl rfl rfl) rfl rfl (fun a hF => ?_)
    refine p_skip hF (wn hF rfl rfl rfl) rfl rfl (fun a hF => ?_)
    refine p_skip hF (wn hF rfl rfl rfl) rfl rfl (fun a hF => ?_)
    refine pv hF hW (y_pick hF rfl rfl) (fun a hF => ?_)
    refine pv hF hW (y_move hF rfl) (fun a hF => ?_)
    refine p_skip hF (wn hF rfl rfl rfl) rfl rfl (fun a hF => ?_)
    refine p_skip hF (wn hF rfl rfl rfl) rfl rfl (fun a hF => ?_)
    refine p_skip hF (wn hF rfl rfl rfl) rfl rfl (fun a hF => ?_)
    refine p_skip hF (wn hF rfl rfl rfl) rfl rfl (fun a hF => ?_)
    refine p_skip hF (wn hF rfl rfl rfl) rfl rfl (fun a hF => ?_)
    refine pv hF hW (y_pick hF rfl rfl) (fun a hF => ?_)
    replace hF := hF.drop 3
    refine pv hF hW (y_assign hF rfl) (fun a hF => ?_)
    refine l_nil ?_
    replace hF := (hF.k 0 rfl (hF.k 1 rfl (hF.k 2 rfl (hF.k 3 rfl hF.nil))))
    refine t_n ?_
    refine wp_ret ?_
    refine ret1 Try.results69 hF (rv_t hF rfl) ?_
    exact ⟨by simp [chnOk, *], hW.below⟩
theorem ck5_any {c : Slt} {b6 : Nat} {T6 : TypeId} (hB : Blk w b1 T1 [.slice x.pa x.parts.length x.pc, .slice x.ha x.chans.length x.hc, .slice x.sa x.slots.length x.sc]) (h6 : Blk w b6 T6 [.func (.func 66) #[] #[.pointer (some ⟨b1, 0, none⟩)]]) :
    Calls Try.prog 71 #[.agg c.cells.toArray, .pointer (some ⟨b6, 0, none⟩)] w fun e w' => e = .returned (.bool (!sltOk x.parts.length c)) ∧ Below w.heap.size w w' := by
  change Calls _ _ #[.agg #[.int .i64 c.part, .int .i64 c.ticks], _] _ _
  refine enter Try.func71 rfl Try.ntmps71 rfl (fun a hF => ?_)
  have hW := Wd.start w NoB
  refine c_sr ?_
  refine pe (e_box hF hW rfl rfl rfl rfl ?_)
  intro b1 a wc hF hW
  refine pv hF hW (y_assign hF rfl) (fun a hF => ?_)
  refine l_nil ?_
  refine t_n ?_
  refine c_sr ?_
  refine pv hF hW (y_loadB hF rfl (h6) rfl Try.underlying85 rfl) (fun a hF => ?_)
  refine pv hF hW (y_fieldOwn hF rfl fa_83_0) (fun a hF => ?_)
  refine pv hF hW (y_loadOwn hF rfl 0 rfl rfl Try.underlying3 rfl) (fun a hF => ?_)
  refine pe (e_call hF rfl rfl en_66 (by rfl) rfl rfl (ck2_any (hB.kept hW.below)) ?_)
  rintro e w1 ⟨rfl, hb⟩
  replace hW := hW.kept hb
  clear hb
  refine ⟨_, rfl, fun a hF => ?_⟩
  refine Fr.splitB hF ?_ ?_
  · intro h2 hF
    refine pv hF hW (y_not hF rfl) (fun a hF => ?_)
    replace hF := Fr.bool (t := false) (by first | decide | (simp; done) | rfl) hF
    refine pv hF hW (y_move hF rfl) (fun a hF => ?_)
    replace hF := Fr.bool (t := false) (by first | decide | (simp; done) | rfl) hF
    refine pv hF hW (y_fieldOwn hF rfl fa_83_1) (fun a hF => ?_) (ws hF rfl rfl)
    refine pv hF hW (y_loadOwn hF rfl 0 rfl rfl Try.underlying3 rfl) (fun a hF => ?_) (ws hF rfl rfl)
    refine pv hF hW (y_lss hF rfl rfl) (fun a hF => ?_) (ws hF rfl rfl)
    refine Fr.splitD hF ?_ ?_
    · intro h3 hF
      refine pv hF hW (y_pick hF rfl rfl) (fun a hF => ?_)
      refine pv hF hW (y_move hF rfl) (fun a hF => ?_)
      refine p_skip hF (wn hF rfl rfl rfl) rfl rfl (fun a hF => ?_)
      refine p_skip hF (wn hF rfl rfl rfl) rfl rfl (fun a hF => ?_)
      refine p_skip hF (wn hF rfl rfl rfl) rfl rfl (fun a hF => ?_)
      refine pv hF hW (y_pick hF rfl rfl) (fun a hF => ?_)
      replace hF := hF.drop 3
      refine pv hF hW (y_assign hF rfl) (fun a hF => ?_)
      refine l_nil ?_
      replace hF := (hF.k 0 rfl (hF.k 1 rfl (hF.k 2 rfl (hF.k 3 rfl hF.nil))))
      refine t_n ?_
      refine wp_ret ?_
      refine ret1 Try.results71 hF (rv_t hF rfl) ?_
      exact ⟨by first | (simp [sltOk, *]; done) | (simp [sltOk, *]; omega), hW.below⟩
    · intro h3 hF
      refine pv hF hW (y_pick hF rfl rfl) (fun a hF => ?_)
      refine pv hF hW (y_move hF rfl) (fun a hF => ?_)
      refine pv hF hW (y_fieldOwn hF rfl fa_83_1) (fun a hF => ?_) (ws hF rfl rfl)
      refine pv hF hW (y_loadOwn hF rfl 0 rfl rfl Try.underlying3 rfl) (fun a hF => ?_) (ws hF rfl rfl)
      refine pv hF hW (y_gtr hF rfl rfl) (fun a hF => ?_) (ws hF rfl rfl)
      refine Fr.splitD hF ?_ ?_
      · intro h4 hF
        refine pv hF hW (y_pick hF rfl rfl) (fun a hF => ?_)
        replace hF := hF.drop 3
        refine pv hF hW (y_assign hF rfl) (fun a hF => ?_)
        refine l_nil ?_
        replace hF := (hF.k 0 rfl (hF.k 1 rfl (hF.k 2 rfl (hF.k 3 rfl hF.nil))))
        refine t_n ?_
        refine wp_ret ?_
        refine ret1 Try.results71 hF (rv_t hF rfl) ?_
        exact ⟨by first | (simp [sltOk, *]; done) | (simp [sltOk, *]; omega), hW.below⟩
      · intro h4 hF
        refine pv hF hW (y_pick hF rfl rfl) (fun a hF => ?_)
        replace hF := hF.drop 3
        refine pv hF hW (y_assign hF rfl) (fun a hF => ?_)
        refine l_nil ?_
        replace hF := (hF.k 0 rfl (hF.k 1 rfl (hF.k 2 rfl (hF.k 3 rfl hF.nil))))
        refine t_n ?_
        refine wp_ret ?_
        refine ret1 Try.results71 hF (rv_t hF rfl) ?_
        exact ⟨by first | (simp [sltOk, *]; done) | (simp [sltOk, *]; omega), hW.below⟩
  · intro h2 hF
    refine pv hF hW (y_not hF rfl) (fun a hF => ?_)
    replace hF := Fr.bool (t := true) (by first | decide | (simp; done) | rfl) hF
    refine pv hF hW (y_move hF rfl) (fun a hF => ?_)
    replace hF := Fr.bool (t := true) (by first | decide | (simp; done) | rfl) hF
    refine p_skip hF (wn hF rfl rfl rfl) rfl rfl (fun a hF => ?_)
    refine p_skip hF (wn hF rfl rfl rfl) rfl rfl (fun a hF => ?_)
    refine p_skip hF (wn hF rfl rfl rfl) rfl rfl (fun a hF => ?_)
    refine pv hF hW (y_pick hF rfl rfl) (fun a hF => ?_)
    refine pv hF hW (y_move hF rfl) (fun a hF => ?_)
    refine p_skip hF (wn hF rfl rfl rfl) rfl rfl (fun a hF => ?_)
    refine p_skip hF (wn hF rfl rfl rfl) rfl rfl (fun a hF => ?_)
    refine p_skip hF (wn hF rfl rfl rfl) rfl rfl (fun a hF => ?_)
    refine pv hF hW (y_pick hF rfl rfl) (fun a hF => ?_)
    replace hF := hF.drop 3
    refine pv hF hW (y_assign hF rfl) (fun a hF => ?_)
    refine l_nil ?_
    replace hF := (hF.k 0 rfl (hF.k 1 rfl (hF.k 2 rfl (hF.k 3 rfl hF.nil))))
    refine t_n ?_
    refine wp_ret ?_
    refine ret1 Try.results71 hF (rv_t hF rfl) ?_
    exact ⟨by first | (simp [sltOk, *]; done) | (simp [sltOk, *]; omega), hW.below⟩
theorem ck6_any {b7 p m : Nat} {T7 : TypeId} (hx : x.At w) (hB : Blk w b1 T1 [.slice x.pa x.parts.length x.pc, .slice x.ha x.chans.length x.hc, .slice x.sa x.slots.length x.sc]) (h7 : Blk w b7 T7 [.int .i64 p]) :
    Calls Try.prog 75 #[.int .i64 m, .pointer (some ⟨b1, 0, none⟩), .pointer (some ⟨b7, 0, none⟩)] w fun e w' => e = .returned (.bool (badPut x.chans p m)) ∧ Below w.heap.size w w' := by
  refine enter Try.func75 rfl Try.ntmps75 rfl (fun a hF => ?_)
  have hW := Wd.start w NoB
  refine c_sr ?_
  refine pv hF hW (y_assign hF rfl) (fun a hF => ?_)
  refine l_nil ?_
  refine t_n ?_
  refine c_sd mixed_ok hW (hW) ?_
  clear hW; intro wc hW hS
  refine dv 0 rfl hF hS (y_move hF rfl) (fun a hF => ?_)
  refine dv 1 rfl hF hS (y_fieldOwn hF rfl fa_68_1) (fun a hF => ?_)
  refine dv 2 rfl hF hS (y_loadB hF rfl (hB) rfl Try.underlying65 rfl) (fun a hF => ?_)
  refine dv 3 rfl hF hS (y_len hF rfl Try.underlying65) (fun a hF => ?_)
  refine dv 4 rfl hF hS (y_geq hF rfl rfl) (fun a hF => ?_)
  refine Fr.splitD hF ?_ ?_
  · intro h1 hF
    refine dv 5 rfl hF hS (y_move hF rfl) (fun a hF => ?_)
    refine d_skip 6 rfl (by kernel_rfl) (by kernel_rfl) (by kernel_rfl) (fun _ _ _ h => h) hF (wn hF rfl rfl rfl) hS rfl rfl (fun a hF => ?_)
    refine d_skip 7 rfl (by kernel_rfl) (by kernel_rfl) (by kernel_rfl) (fun _ _ _ h => h) hF (wn hF rfl rfl rfl) hS rfl rfl (fun a hF => ?_)
    refine d_skip 8 rfl (by kernel_rfl) (by kernel_rfl) (by kernel_rfl) (fun _ _ _ h => h) hF (wn hF rfl rfl rfl) hS rfl rfl (fun a hF => ?_)
    refine d_skip 9 rfl (by kernel_rfl) (by kernel_rfl) (by kernel_rfl) (fun _ _ _ h => h) hF (wn hF rfl rfl rfl) hS rfl rfl (fun a hF => ?_)
    refine d_skip 10 rfl (by kernel_rfl) (by kernel_rfl) (by kernel_rfl) (fun _ _ _ h => h) hF (wn hF rfl rfl rfl) hS rfl rfl (fun a hF => ?_)
    refine d_skip 11 rfl (by kernel_rfl) (by kernel_rfl) (by kernel_rfl) (fun _ _ _ h => h) hF (wn hF rfl rfl rfl) hS rfl rfl (fun a hF => ?_)
    refine d_skip 12 rfl (by kernel_rfl) (by kernel_rfl) (by kernel_rfl) (fun _ _ _ h => h) hF (wn hF rfl rfl rfl) hS rfl rfl (fun a hF => ?_)
    refine d_skip 13 rfl (by kernel_rfl) (by kernel_rfl) (by kernel_rfl) (fun _ _ _ h => h) hF (wn hF rfl rfl rfl) hS rfl rfl (fun a hF => ?_)
    refine dv 14 rfl hF hS (y_pick hF rfl rfl) (fun a hF => ?_)
    replace hF := hF.drop 4
    refine dv 15 rfl hF hS (y_assign hF rfl) (fun a hF => ?_)
    clear hS
    refine d_nil (by kernel_rfl) ?_
    replace hF := (hF.k 0 rfl (hF.k 1 rfl (hF.k 2 rfl (hF.k 4 rfl hF.nil))))
    refine t_n ?_
    refine wp_ret ?_
    refine ret1 Try.results75 hF (rv_t hF rfl) ?_
    exact ⟨by unfold badPut; rw [Int.toNat_natCast]; first | (rw [decide_eq_true (by omega)]; rfl) | (rw [decide_eq_false (by omega)]; simp_all), hW.below⟩
  · intro h1 hF
    refine dv 5 rfl hF hS (y_move hF rfl) (fun a hF => ?_)
    refine dv 6 rfl hF hS (y_fieldOwn hF rfl fa_68_1) (fun a hF => ?_) (ws hF rfl rfl)
    refine dv 7 rfl hF hS (y_loadB hF rfl (hB) rfl Try.underlying65 rfl) (fun a hF => ?_) (ws hF rfl rfl)
    refine dv 8 rfl hF hS (y_move hF rfl) (fun a hF => ?_) (ws hF rfl rfl)
    refine dv 9 rfl hF hS (y_indexS hF rfl rfl (by first | omega | decide) Try.underlying65 sz_105 (fun w h => (hx.chansR).wd h)) (fun a hF => ?_) (ws hF rfl rfl)
    refine dv 10 rfl hF hS (y_fieldRow hF rfl fa_105_1) (fun a hF => ?_) (ws hF rfl rfl)
    refine dv 11 rfl hF hS (y_loadRow hF rfl (fun w h => (hx.chansR).wd h) (by first | omega | decide) rfl Try.underlying3 rfl) (fun a hF => ?_) (ws hF rfl rfl)
    refine dv 12 rfl hF hS (y_loadB hF rfl (h7) rfl Try.underlying3 rfl) (fun a hF => ?_) (ws hF rfl rfl)
    refine dv 13 rfl hF hS (y_neq hF rfl rfl) (fun a hF => ?_) (ws hF rfl rfl)
    refine Fr.splitD hF ?_ ?_
    · intro h2 hF
      refine dv 14 rfl hF hS (y_pick hF rfl rfl) (fun a hF => ?_)
      replace hF := hF.drop 4
      refine dv 15 rfl hF hS (y_assign hF rfl) (fun a hF => ?_)
      clear hS
      refine d_nil (by kernel_rfl) ?_
      replace hF := (hF.k 0 rfl (hF.k 1 rfl (hF.k 2 rfl (hF.k 4 rfl hF.nil))))
      refine t_n ?_
      refine wp_ret ?_
      refine ret1 Try.results75 hF (rv_t hF rfl) ?_
      exact ⟨by unfold badPut; rw [Int.toNat_natCast]; first | (rw [decide_eq_true (by omega)]; rfl) | (rw [decide_eq_false (by omega)]; simp_all), hW.below⟩
    · intro h2 hF
      refine dv 14 rfl hF hS (y_pick hF rfl rfl) (fun a hF => ?_)
      replace hF := hF.drop 4
      refine dv 15 rfl hF hS (y_assign hF rfl) (fun a hF => ?_)
      clear hS
      refine d_nil (by kernel_rfl) ?_
      replace hF := (hF.k 0 rfl (hF.k 1 rfl (hF.k 2 rfl (hF.k 4 rfl hF.nil))))
      refine t_n ?_
      refine wp_ret ?_
      refine ret1 Try.results75 hF (rv_t hF rfl) ?_
      exact ⟨by unfold badPut; rw [Int.toNat_natCast]; first | (rw [decide_eq_true (by omega)]; rfl) | (rw [decide_eq_false (by omega)]; simp_all), hW.below⟩
theorem ck7_any {b7 p m : Nat} {T7 : TypeId} (hx : x.At w) (hB : Blk w b1 T1 [.slice x.pa x.parts.length x.pc, .slice x.ha x.chans.length x.hc, .slice x.sa x.slots.length x.sc]) (h7 : Blk w b7 T7 [.int .i64 p]) :
    Calls Try.prog 76 #[.int .i64 m, .pointer (some ⟨b1, 0, none⟩), .pointer (some ⟨b7, 0, none⟩)] w fun e w' => e = .returned (.bool (badGet x.chans p m)) ∧ Below w.heap.size w w' := by
  refine enter Try.func76 rfl Try.ntmps76 rfl (fun a hF => ?_)
  have hW := Wd.start w NoB
  refine c_sr ?_
  refine pv hF hW (y_assign hF rfl) (fun a hF => ?_)
  refine l_nil ?_
  refine t_n ?_
  refine c_sd mixed_ok hW (hW) ?_
  clear hW; intro wc hW hS
  refine dv 0 rfl hF hS (y_move hF rfl) (fun a hF => ?_)
  refine dv 1 rfl hF hS (y_fieldOwn hF rfl fa_68_1) (fun a hF => ?_)
  refine dv 2 rfl hF hS (y_loadB hF rfl (hB) rfl Try.underlying65 rfl) (fun a hF => ?_)
  refine dv 3 rfl hF hS (y_len hF rfl Try.underlying65) (fun a hF => ?_)
  refine dv 4 rfl hF hS (y_geq hF rfl rfl) (fun a hF => ?_)
  refine Fr.splitD hF ?_ ?_
  · intro h1 hF
    refine dv 5 rfl hF hS (y_move hF rfl) (fun a hF => ?_)
    refine d_skip 6 rfl (by kernel_rfl) (by kernel_rfl) (by kernel_rfl) (fun _ _ _ h => h) hF (wn hF rfl rfl rfl) hS rfl rfl (fun a hF => ?_)
    refine d_skip 7 rfl (by kernel_rfl) (by kernel_rfl) (by kernel_rfl) (fun _ _ _ h => h) hF (wn hF rfl rfl rfl) hS rfl rfl (fun a hF => ?_)
    refine d_skip 8 rfl (by kernel_rfl) (by kernel_rfl) (by kernel_rfl) (fun _ _ _ h => h) hF (wn hF rfl rfl rfl) hS rfl rfl (fun a hF => ?_)
    refine d_skip 9 rfl (by kernel_rfl) (by kernel_rfl) (by kernel_rfl) (fun _ _ _ h => h) hF (wn hF rfl rfl rfl) hS rfl rfl (fun a hF => ?_)
    refine d_skip 10 rfl (by kernel_rfl) (by kernel_rfl) (by kernel_rfl) (fun _ _ _ h => h) hF (wn hF rfl rfl rfl) hS rfl rfl (fun a hF => ?_)
    refine d_skip 11 rfl (by kernel_rfl) (by kernel_rfl) (by kernel_rfl) (fun _ _ _ h => h) hF (wn hF rfl rfl rfl) hS rfl rfl (fun a hF => ?_)
    refine d_skip 12 rfl (by kernel_rfl) (by kernel_rfl) (by kernel_rfl) (fun _ _ _ h => h) hF (wn hF rfl rfl rfl) hS rfl rfl (fun a hF => ?_)
    refine d_skip 13 rfl (by kernel_rfl) (by kernel_rfl) (by kernel_rfl) (fun _ _ _ h => h) hF (wn hF rfl rfl rfl) hS rfl rfl (fun a hF => ?_)
    refine dv 14 rfl hF hS (y_pick hF rfl rfl) (fun a hF => ?_)
    replace hF := hF.drop 4
    refine dv 15 rfl hF hS (y_assign hF rfl) (fun a hF => ?_)
    clear hS
    refine d_nil (by kernel_rfl) ?_
    replace hF := (hF.k 0 rfl (hF.k 1 rfl (hF.k 2 rfl (hF.k 4 rfl hF.nil))))
    refine t_n ?_
    refine wp_ret ?_
    refine ret1 Try.results76 hF (rv_t hF rfl) ?_
    exact ⟨by unfold badGet; rw [Int.toNat_natCast]; first | (rw [decide_eq_true (by omega)]; rfl) | (rw [decide_eq_false (by omega)]; simp_all), hW.below⟩
  · intro h1 hF
    refine dv 5 rfl hF hS (y_move hF rfl) (fun a hF => ?_)
    refine dv 6 rfl hF hS (y_fieldOwn hF rfl fa_68_1) (fun a hF => ?_) (ws hF rfl rfl)
    refine dv 7 rfl hF hS (y_loadB hF rfl (hB) rfl Try.underlying65 rfl) (fun a hF => ?_) (ws hF rfl rfl)
    refine dv 8 rfl hF hS (y_move hF rfl) (fun a hF => ?_) (ws hF rfl rfl)
    refine dv 9 rfl hF hS (y_indexS hF rfl rfl (by first | omega | decide) Try.underlying65 sz_105 (fun w h => (hx.chansR).wd h)) (fun a hF => ?_) (ws hF rfl rfl)
    refine dv 10 rfl hF hS (y_fieldRow hF rfl fa_105_2) (fun a hF => ?_) (ws hF rfl rfl)
    refine dv 11 rfl hF hS (y_loadRow hF rfl (fun w h => (hx.chansR).wd h) (by first | omega | decide) rfl Try.underlying3 rfl) (fun a hF => ?_) (ws hF rfl rfl)
    refine dv 12 rfl hF hS (y_loadB hF rfl (h7) rfl Try.underlying3 rfl) (fun a hF => ?_) (ws hF rfl rfl)
    refine dv 13 rfl hF hS (y_neq hF rfl rfl) (fun a hF => ?_) (ws hF rfl rfl)
    refine Fr.splitD hF ?_ ?_
    · intro h2 hF
      refine dv 14 rfl hF hS (y_pick hF rfl rfl) (fun a hF => ?_)
      replace hF := hF.drop 4
      refine dv 15 rfl hF hS (y_assign hF rfl) (fun a hF => ?_)
      clear hS
      refine d_nil (by kernel_rfl) ?_
      replace hF := (hF.k 0 rfl (hF.k 1 rfl (hF.k 2 rfl (hF.k 4 rfl hF.nil))))
      refine t_n ?_
      refine wp_ret ?_
      refine ret1 Try.results76 hF (rv_t hF rfl) ?_
      exact ⟨by unfold badGet; rw [Int.toNat_natCast]; first | (rw [decide_eq_true (by omega)]; rfl) | (rw [decide_eq_false (by omega)]; simp_all), hW.below⟩
    · intro h2 hF
      refine dv 14 rfl hF hS (y_pick hF rfl rfl) (fun a hF => ?_)
      replace hF := hF.drop 4
      refine dv 15 rfl hF hS (y_assign hF rfl) (fun a hF => ?_)
      clear hS
      refine d_nil (by kernel_rfl) ?_
      replace hF := (hF.k 0 rfl (hF.k 1 rfl (hF.k 2 rfl (hF.k 4 rfl hF.nil))))
      refine t_n ?_
      refine wp_ret ?_
      refine ret1 Try.results76 hF (rv_t hF rfl) ?_
      exact ⟨by unfold badGet; rw [Int.toNat_natCast]; first | (rw [decide_eq_true (by omega)]; rfl) | (rw [decide_eq_false (by omega)]; simp_all), hW.below⟩

theorem tells1 : Tells w x.parts.length (fun k => .agg (encP (x.parts.getD k P0)).toArray) 65 #[] (fun k => (fun q : PP => decide (12 < q.1.inp.length)) (x.parts.getD k P0)) := fun _ _ _ _ => ck1_any
theorem tells3 : Tells w x.chans.length (fun k => .agg (Chn.cells (x.chans.getD k C0)).toArray) 68 #[] (fun k => (fun c : Chn => !kindOk c.kind) (x.chans.getD k C0)) := fun _ _ _ _ => ck3_any
theorem tells4 {b6 : Nat} {T6 : TypeId} (hB : Blk w b1 T1 [.slice x.pa x.parts.length x.pc, .slice x.ha x.chans.length x.hc, .slice x.sa x.slots.length x.sc]) (h6 : Blk w b6 T6 [.func (.func 66) #[] #[.pointer (some ⟨b1, 0, none⟩)]]) :
    Tells w x.chans.length (fun k => .agg (Chn.cells (x.chans.getD k C0)).toArray) 69 #[.pointer (some ⟨b6, 0, none⟩)] (fun k => (fun c : Chn => !chnOk x.parts.length c) (x.chans.getD k C0)) := fun _ _ _ hb => ck4_any (hB.kept hb) (h6.kept hb)
theorem tells5 {b6 : Nat} {T6 : TypeId} (hB : Blk w b1 T1 [.slice x.pa x.parts.length x.pc, .slice x.ha x.chans.length x.hc, .slice x.sa x.slots.length x.sc]) (h6 : Blk w b6 T6 [.func (.func 66) #[] #[.pointer (some ⟨b1, 0, none⟩)]]) :
    Tells w x.slots.length (fun k => .agg (Slt.cells (x.slots.getD k S0)).toArray) 71 #[.pointer (some ⟨b6, 0, none⟩)] (fun k => (fun c : Slt => !sltOk x.parts.length c) (x.slots.getD k S0)) := fun _ _ _ hb => ck5_any (hB.kept hb) (h6.kept hb)
theorem tells6 {b7 p : Nat} {T7 : TypeId} {l : List Int} (hl : ∀ m, m ∈ l → 0 ≤ m) (hx : x.At w) (hB : Blk w b1 T1 [.slice x.pa x.parts.length x.pc, .slice x.ha x.chans.length x.hc, .slice x.sa x.slots.length x.sc]) (h7 : Blk w b7 T7 [.int .i64 p]) :
    Tells w l.length (fun k => .int .i64 (l.getD k 0)) 75 #[.pointer (some ⟨b1, 0, none⟩), .pointer (some ⟨b7, 0, none⟩)] (fun k => badPut x.chans p (l.getD k 0)) := fun k w1 hk hb => by
  obtain ⟨m, hm⟩ : ∃ m : Nat, l.getD k 0 = m := ⟨_, (Int.toNat_of_nonneg (hl _ (mem_getD 0 hk))).symm⟩
  dsimp only
  rw [hm]
  exact ck6_any (hx.below hb) (hB.kept hb) (h7.kept hb)
theorem tells7 {b7 p : Nat} {T7 : TypeId} {l : List Int} (hl : ∀ m, m ∈ l → 0 ≤ m) (hx : x.At w) (hB : Blk w b1 T1 [.slice x.pa x.parts.length x.pc, .slice x.ha x.chans.length x.hc, .slice x.sa x.slots.length x.sc]) (h7 : Blk w b7 T7 [.int .i64 p]) :
    Tells w l.length (fun k => .int .i64 (l.getD k 0)) 76 #[.pointer (some ⟨b1, 0, none⟩), .pointer (some ⟨b7, 0, none⟩)] (fun k => badGet x.chans p (l.getD k 0)) := fun k w1 hk hb => by
  obtain ⟨m, hm⟩ : ∃ m : Nat, l.getD k 0 = m := ⟨_, (Int.toNat_of_nonneg (hl _ (mem_getD 0 hk))).symm⟩
  dsimp only
  rw [hm]
  exact ck7_any (hx.below hb) (hB.kept hb) (h7.kept hb)
end
end Go.Proofs.Ytebklpbbglojmaa
