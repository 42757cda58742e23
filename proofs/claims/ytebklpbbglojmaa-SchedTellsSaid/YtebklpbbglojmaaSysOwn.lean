/- The reference's OwnSystem, calm, CalmOf, there: what they give. -/
import Derived.Test.YtebklpbbglojmaaSysRef
import Derived.Test.YtebklpbbglojmaaCloneS
namespace Go.Proofs.Ytebklpbbglojmaa
set_option linter.unusedVariables false
set_option linter.unusedSimpArgs false
open Go.ChangeShapes Go.WideShapes Go.ChangeAt Go.RowKit
theorem bs_SysOwn_22_0_  (w : World) : (Instr.buildSlice 22 0 #[]).run Try.prog w = .ok (.slice (some ⟨w.heap.size, 0, none⟩) 0 0) (w.alloc (.cells #[] 3)) := by kernel_rfl
theorem bs_SysOwn_40_0_  (w : World) : (Instr.buildSlice 40 0 #[]).run Try.prog w = .ok (.slice (some ⟨w.heap.size, 0, none⟩) 0 0) (w.alloc (.cells #[] 95)) := by kernel_rfl
theorem bs_SysOwn_40_1_0 (x0 : Int) (x1 : Int) (x2 : Int) (x3 : Int) (w : World) : (Instr.buildSlice 40 1 #[(0, (.agg #[(.int .i64 x0), (.int .i64 x1), (.int .i64 x2), (.int .i64 x3)]))]).run Try.prog w = .ok (.slice (some ⟨w.heap.size, 0, none⟩) 1 1) (w.alloc (.cells #[(.int .i64 x0), (.int .i64 x1), (.int .i64 x2), (.int .i64 x3)] 95)) := by kernel_rfl
theorem bs_SysOwn_64_1_0 (x0 : Option Addr) (x0n x0c : Nat) (x1 : Option Addr) (x1n x1c : Nat) (w : World) : (Instr.buildSlice 64 1 #[(0, (.agg #[(.slice x0 x0n x0c), (.slice x1 x1n x1c)]))]).run Try.prog w = .ok (.slice (some ⟨w.heap.size, 0, none⟩) 1 1) (w.alloc (.cells #[(.slice x0 x0n x0c), (.slice x1 x1n x1c)] 42)) := by kernel_rfl
theorem bs_SysOwn_65_0_  (w : World) : (Instr.buildSlice 65 0 #[]).run Try.prog w = .ok (.slice (some ⟨w.heap.size, 0, none⟩) 0 0) (w.alloc (.cells #[] 105)) := by kernel_rfl
theorem bs_SysOwn_66_0_  (w : World) : (Instr.buildSlice 66 0 #[]).run Try.prog w = .ok (.slice (some ⟨w.heap.size, 0, none⟩) 0 0) (w.alloc (.cells #[] 83)) := by kernel_rfl
theorem bu_SysOwn_42_0 (x0 : Option Addr) (x0n x0c : Nat) (w : World) : (Instr.build 42 #[(0, (.slice x0 x0n x0c))]).run Try.prog w = .ok (.agg #[(.slice x0 x0n x0c), (.slice none 0 0)]) w := by kernel_rfl
theorem bu_SysOwn_42_0_1 (x0 : Option Addr) (x0n x0c : Nat) (x1 : Option Addr) (x1n x1c : Nat) (w : World) : (Instr.build 42 #[(0, (.slice x0 x0n x0c)), (1, (.slice x1 x1n x1c))]).run Try.prog w = .ok (.agg #[(.slice x0 x0n x0c), (.slice x1 x1n x1c)]) w := by kernel_rfl
theorem bu_SysOwn_68_1_2 (x0 : Option Addr) (x0n x0c : Nat) (x1 : Option Addr) (x1n x1c : Nat) (w : World) : (Instr.build 68 #[(1, (.slice x0 x0n x0c)), (2, (.slice x1 x1n x1c))]).run Try.prog w = .ok (.agg #[(.slice none 0 0), (.slice x0 x0n x0c), (.slice x1 x1n x1c)]) w := by kernel_rfl
theorem bu_SysOwn_95_0 (x0 : Int) (w : World) : (Instr.build 95 #[(0, (.int .i64 x0))]).run Try.prog w = .ok (.agg #[(.int .i64 x0), (.int .i64 0), (.int .i64 0), (.int .i64 0)]) w := by kernel_rfl
set_option maxRecDepth 100000

def calmP : Prt := ⟨[⟨15, 0, 0, 0⟩], []⟩
def thereErr (s : Sys) (p : Int) : Int := if chkSys s = 0 then (if 0 ≤ p ∧ p < s.parts.length then 0 else 5) else chkSys s
def calmSys (s : Sys) (p : Nat) : Sys := ⟨s.parts.set p calmP, s.chans, s.slots⟩
theorem there_c {s : Sys} {p : Int} (h : chkSys s ≠ 0) : thereErr s p = chkSys s := if_neg h
theorem there_5 {s : Sys} {p : Int} (h : chkSys s = 0) (h2 : ¬ (0 ≤ p ∧ p < s.parts.length)) : thereErr s p = 5 := by unfold thereErr; rw [if_pos h, if_neg h2]
theorem there_0 {s : Sys} {p : Int} (h : chkSys s = 0) (h2 : 0 ≤ p ∧ p < s.parts.length) : thereErr s p = 0 := by unfold thereErr; rw [if_pos h, if_pos h2]
theorem there_zero {s : Sys} {p : Int} (h : thereErr s p = 0) : chkSys s = 0 ∧ 0 ≤ p ∧ p < s.parts.length := by
  unfold thereErr at h
  by_cases h1 : chkSys s = 0
  · rw [if_pos h1] at h
    by_cases h2 : 0 ≤ p ∧ p < s.parts.length
    · exact ⟨h1, h2⟩
    · rw [if_neg h2] at h; cases h
  · rw [if_neg h1] at h; exact absurd h h1
/-- what is known of the sizes of a right system -/
theorem chkSys_zero {s : Sys} (h : chkSys s = 0) : sizesOk s = true ∧ firstCode s.parts = 0 ∧ (s.chans.all fun c => kindOk c.kind) = true ∧ s.chans.all (chnOk s.parts.length) = true ∧ s.slots.all (sltOk s.parts.length) = true ∧ namesFrom s.chans 0 s.parts = true := by
  unfold chkSys at h
  split at h
  · cases h
  · split at h
    · exact absurd h (by assumption)
    · split at h
      · cases h
      · split at h
        · cases h
        · split at h
          · cases h
          · split at h
            · cases h
            · exact ⟨by simp_all, by simp_all, by simp_all, by simp_all, by simp_all, by simp_all⟩
theorem sizes_get {x : SysD} (h : sizesOk x.sys = true) : (1 ≤ x.parts.length ∧ x.parts.length ≤ 4) ∧ x.chans.length ≤ 6 ∧ (1 ≤ x.slots.length ∧ x.slots.length ≤ 6) ∧ ∀ k, k < x.parts.length → (x.parts.getD k P0).1.inp.length ≤ 12 := by
  simp only [sizesOk, SysD.sys, List.length_map, Bool.and_eq_true] at h
  obtain ⟨h1, h2⟩ := h
  have h3 := of_decide_eq_true h1
  refine ⟨⟨h3.1, h3.2.1⟩, h3.2.2.1, h3.2.2.2, fun k hk => ?_⟩
  have h4 := (all_getD P0.1).1 h2 k (by simpa using hk)
  rw [getD_map] at h4
  exact of_decide_eq_true h4
theorem part_len {x : SysD} {p : Int} (h : 0 ≤ p ∧ p < x.sys.parts.length) : 0 ≤ p ∧ p < x.parts.length := by
  have e : x.sys.parts.length = x.parts.length := by simp [SysD.sys]
  omega

theorem calmR_any (w : World) : Calls Try.prog 62 #[] w fun e w' => ∃ q : PP, e = .returned (.agg (encP q).toArray) ∧ q.1 = calmP ∧ Below w.heap.size w w' ∧ OwnRes w w' q.At := by
  refine enter Try.func62 rfl Try.ntmps62 rfl (fun a hF => ?_)
  have hW := Wd.start w NoB
  refine c_sr ?_
  refine pe (e_alloc hF hW ze_42 rfl rfl rfl ?_)
  intro b1 a wc hF hW
  refine l_nil ?_
  refine t_n ?_
  refine c_sr ?_
  refine pv hF hW (y_build hF rfl (fun w => bu_SysOwn_95_0 _ w)) (fun a hF => ?_)
  refine pe (e_buildSlice hF hW rfl (fun w => bs_SysOwn_40_1_0 _ _ _ _ w) rfl rfl rfl ?_)
  intro b2 a wc hF hW
  refine pv hF hW (y_build hF rfl (fun w => bu_SysOwn_42_0 _ _ _ w)) (fun a hF => ?_)
  refine pe (e_storeAll rfl hF hW rfl rfl 1 rfl rfl rfl (by kernel_rfl) sz_42 ?_)
  intro wc hW
  refine l_nil ?_
  replace hF := (hF.k 0 rfl hF.nil)
  refine t_n ?_
  refine wp_ret ?_
  refine ret1 Try.results62 hF (rv_c hF rfl hW 1 rfl Try.underlying42 rfl sz_42) ?_
  exact ⟨(calmP, ⟨some ⟨_, 0, none⟩, 1, none, 0⟩), rfl, rfl, hW.below, (hW.res_blk 0 rfl).mono fun u h => ⟨flat_blk h rfl rfl rfl (show 1 ≤ maxLen by decide), Ints.nil_⟩⟩
theorem still_any (w : World) : Calls Try.prog 59 #[] w fun e w' => ∃ q : PP, e = .returned (.agg (encP q).toArray) ∧ q.1 = calmP ∧ Below w.heap.size w w' ∧ OwnRes w w' q.At := by
  refine enter Try.func59 rfl Try.ntmps59 rfl (fun a hF => ?_)
  have hW := Wd.start w NoB
  refine c_sr ?_
  refine pe (e_alloc hF hW ze_42 rfl rfl rfl ?_)
  intro b1 a wc hF hW
  refine l_nil ?_
  refine t_n ?_
  refine c_sr ?_
  refine pv hF hW (y_build hF rfl (fun w => bu_SysOwn_95_0 _ w)) (fun a hF => ?_)
  refine pe (e_buildSlice hF hW rfl (fun w => bs_SysOwn_40_1_0 _ _ _ _ w) rfl rfl rfl ?_)
  intro b2 a wc hF hW
  refine pv hF hW (y_build hF rfl (fun w => bu_SysOwn_42_0 _ _ _ w)) (fun a hF => ?_)
  refine pe (e_storeAll rfl hF hW rfl rfl 1 rfl rfl rfl (by kernel_rfl) sz_42 ?_)
  intro wc hW
  refine l_nil ?_
  replace hF := (hF.k 0 rfl hF.nil)
  refine t_n ?_
  refine wp_ret ?_
  refine ret1 Try.results59 hF (rv_c hF rfl hW 1 rfl Try.underlying42 rfl sz_42) ?_
  exact ⟨(calmP, ⟨some ⟨_, 0, none⟩, 1, none, 0⟩), rfl, rfl, hW.below, (hW.res_blk 0 rfl).mono fun u h => ⟨flat_blk h rfl rfl rfl (show 1 ≤ maxLen by decide), Ints.nil_⟩⟩

theorem thereR_any {x : SysD} {w : World} (hx : x.At w) (p : Int) :
    Calls Try.prog 60 #[x.val, .int .i64 p] w fun e w' => e = .returned (.int .i64 (thereErr x.sys p)) ∧ Below w.heap.size w w' := by
  have hl := hx.parts.len
  unfold maxLen at hl
  have hp := fun h => part_len (x := x) (p := p) h
  have hp' : 0 ≤ p ∧ p < x.parts.length → 0 ≤ p ∧ p < x.sys.parts.length := fun h => by simpa [SysD.sys] using h
  rw [x.val_eq]
  refine enter Try.func60 rfl Try.ntmps60 rfl (fun a hF => ?_)
  have hW := Wd.start w NoB
  refine c_sr ?_
  refine pe (e_box hF hW rfl rfl rfl rfl ?_)
  intro b1 a wc hF hW
  refine pv hF hW (y_assign hF rfl) (fun a hF => ?_)
  refine l_nil ?_
  refine t_n ?_
  refine c_s ?_
  refine c_sr ?_
  refine pv hF hW (y_loadAll hF rfl 0 rfl Try.underlying68 rfl sz_68) (fun a hF => ?_)
  refine pe (e_call hF rfl rfl en_36 (by rfl) rfl rfl (checkSystem_any (hx.below hW.below)) ?_)
  rintro e w1 ⟨rfl, hb⟩
  replace hW := hW.kept hb
  clear hb
  refine ⟨_, rfl, fun a hF => ?_⟩
  refine pv hF hW (y_assign hF rfl) (fun a hF => ?_)
  refine l_nil ?_
  replace hF := (hF.k 0 rfl (hF.k 1 rfl (hF.k 2 rfl (hF.k 4 rfl (hF.k 5 rfl hF.nil)))))
  refine t_n ?_
  refine c_sr ?_
  refine pv hF hW (y_move hF rfl) (fun a hF => ?_)
  refine pv hF hW (y_neq hF rfl rfl) (fun a hF => ?_)
  refine Fr.splitD hF ?_ ?_
  · intro h2 hF
    refine l_nil ?_
    replace hF := (hF.k 0 rfl (hF.k 1 rfl (hF.k 2 rfl (hF.k 4 rfl (hF.k 5 rfl (hF.k 9 rfl hF.nil))))))
    refine t_n ?_
    refine c_t hF rfl ?_
    refine c_sr ?_
    refine pv hF hW (y_move hF rfl) (fun a hF => ?_)
    replace hF := hF.drop 4
    refine pv hF hW (y_assign hF rfl) (fun a hF => ?_)
    refine l_nil ?_
    replace hF := (hF.k 0 rfl (hF.k 1 rfl (hF.k 2 rfl (hF.k 4 rfl (hF.k 5 rfl (hF.k 9 rfl hF.nil))))))
    refine t_n ?_
    refine wp_ret ?_
    refine t_r ?_
    refine ret1 Try.results60 hF (rv_t hF rfl) ?_
    exact ⟨by rw [there_c (by assumption)], hW.below⟩
  · intro h2 hF
    refine l_nil ?_
    replace hF := (hF.k 0 rfl (hF.k 1 rfl (hF.k 2 rfl (hF.k 4 rfl (hF.k 5 rfl (hF.k 9 rfl hF.nil))))))
    refine t_n ?_
    refine c_f hF rfl ?_
    refine wp_skip ?_
    refine t_n ?_
    refine c_s ?_
    refine c_sr ?_
    refine pv hF hW (y_move hF rfl) (fun a hF => ?_)
    refine pv hF hW (y_fieldOwn hF rfl fa_68_0) (fun a hF => ?_)
    refine pv hF hW (y_loadOwn hF rfl 0 rfl rfl Try.underlying64 rfl) (fun a hF => ?_)
    refine pv hF hW (y_len hF rfl Try.underlying64) (fun a hF => ?_)
    refine pv hF hW (y_sub hF rfl rfl (IntWalk.i64_in _ (by omega))) (fun a hF => ?_)
    refine pe (e_call hF rfl rfl en_50 (by rfl) rfl rfl (withinD_any _ _ _ _) ?_)
    rintro e w1 ⟨rfl, hb⟩
    replace hW := hW.kept hb
    clear hb
    refine ⟨_, rfl, fun a hF => ?_⟩
    refine Fr.splitB hF ?_ ?_
    · intro h3 hF
      refine pv hF hW (y_not hF rfl) (fun a hF => ?_)
      replace hF := Fr.bool (t := false) (by first | decide | (simp; done) | rfl) hF
      refine l_nil ?_
      replace hF := (hF.k 0 rfl (hF.k 1 rfl (hF.k 2 rfl (hF.k 4 rfl (hF.k 5 rfl (hF.k 9 rfl (hF.k 17 rfl hF.nil)))))))
      refine t_n ?_
      refine c_f hF rfl ?_
      refine wp_skip ?_
      refine t_n ?_
      refine c_sr ?_
      replace hF := hF.drop 4
      refine pv hF hW (y_assign hF rfl) (fun a hF => ?_)
      refine l_nil ?_
      refine t_n ?_
      refine wp_ret ?_
      refine ret1 Try.results60 hF (rv_t hF rfl) ?_
      exact ⟨by rw [there_0 (by omega) (hp' (by simp only [decide_eq_true_eq] at *; omega))], hW.below⟩
    · intro h3 hF
      refine pv hF hW (y_not hF rfl) (fun a hF => ?_)
      replace hF := Fr.bool (t := true) (by first | decide | (simp; done) | rfl) hF
      refine l_nil ?_
      replace hF := (hF.k 0 rfl (hF.k 1 rfl (hF.k 2 rfl (hF.k 4 rfl (hF.k 5 rfl (hF.k 9 rfl (hF.k 17 rfl hF.nil)))))))
      refine t_n ?_
      refine c_t hF rfl ?_
      refine c_sr ?_
      replace hF := hF.drop 4
      refine pv hF hW (y_assign hF rfl) (fun a hF => ?_)
      refine l_nil ?_
      refine t_n ?_
      refine wp_ret ?_
      refine t_r ?_
      refine ret1 Try.results60 hF (rv_t hF rfl) ?_
      exact ⟨by rw [there_5 (by omega) (fun h => by have := hp h; simp only [decide_eq_false_iff_not] at *; omega)], hW.below⟩
theorem thereRR_any {x : SysD} {w : World} (hx : x.At w) (p : Int) :
    Calls Try.prog 32 #[x.val, .int .i64 p] w fun e w' => e = .returned (.int .i64 (thereErr x.sys p)) ∧ Below w.heap.size w w' := by
  rw [x.val_eq]
  refine enter Try.func32 rfl Try.ntmps32 rfl (fun a hF => ?_)
  have hW := Wd.start w NoB
  refine c_sr ?_
  refine pe (e_box hF hW rfl rfl rfl rfl ?_)
  intro b1 a wc hF hW
  refine pv hF hW (y_assign hF rfl) (fun a hF => ?_)
  refine l_nil ?_
  refine t_n ?_
  refine c_sr ?_
  refine pv hF hW (y_loadAll hF rfl 0 rfl Try.underlying68 rfl sz_68) (fun a hF => ?_)
  refine pv hF hW (y_move hF rfl) (fun a hF => ?_)
  refine pe (e_call hF rfl rfl en_60 (by rfl) rfl rfl (thereR_any (hx.below hW.below) p) ?_)
  rintro e w1 ⟨rfl, hb⟩
  replace hW := hW.kept hb
  clear hb
  refine ⟨_, rfl, fun a hF => ?_⟩
  replace hF := hF.drop 4
  refine pv hF hW (y_assign hF rfl) (fun a hF => ?_)
  refine l_nil ?_
  replace hF := (hF.k 0 rfl (hF.k 1 rfl (hF.k 2 rfl (hF.k 4 rfl hF.nil))))
  refine t_n ?_
  refine wp_ret ?_
  refine ret1 Try.results32 hF (rv_t hF rfl) ?_
  exact ⟨rfl, hW.below⟩

/-- what hangs on a copy of a system, beside the row of its parts -/
def SysD.Rest (y : SysD) (u : World) : Prop := (∀ q, q ∈ y.parts → q.At u) ∧ Flat Chn.cells 3 u (.slice y.ha y.chans.length y.hc) y.chans ∧ Flat Slt.cells 2 u (.slice y.sa y.slots.length y.sc) y.slots
set_option maxHeartbeats 4000000 in
theorem ownSystem_any {x : SysD} {w : World} (hx : x.At w) (hk : chkSys x.sys = 0) :
    Calls Try.prog 61 #[x.val] w fun e w' => ∃ y : SysD, e = .returned y.val ∧ y.sys = x.sys ∧ Wd w NoB [.res y.Rest, .row 42 2 (.slice y.pa y.parts.length y.pc) y.parts.length (y.parts.flatMap encP)] w' := by
  obtain ⟨hz, hfc, -⟩ := chkSys_zero hk
  obtain ⟨⟨hz1, hz2⟩, hz3, ⟨hz4, hz5⟩, hz6⟩ := sizes_get hz
  have hcl := fun k (h : k < x.parts.length) => code_le hfc h
  clear hz hfc
  rw [x.val_eq]
  refine enter Try.func61 rfl Try.ntmps61 rfl (fun a hF => ?_)
  have hW := Wd.start w NoB
  refine c_sr ?_
  refine pe (e_box hF hW rfl rfl rfl rfl ?_)
  intro b1 a wc hF hW
  refine pe (e_alloc hF hW ze_68 rfl rfl rfl ?_)
  intro b2 a wc hF hW
  refine l_nil ?_
  refine t_n ?_
  refine c_cut (G := Nat × Option Addr × Nat × Option Addr × Nat) (fun (gq : Nat × Option Addr × Nat × Option Addr × Nat) => match gq with | ⟨b3, A1, c1, A2, c2⟩ => [(3, .pointer (some ⟨b3, 0, none⟩))]) (fun (gq : Nat × Option Addr × Nat × Option Addr × Nat) => match gq with | ⟨b3, A1, c1, A2, c2⟩ => [.row 105 3 (.slice A1 x.chans.length c1) x.chans.length (x.chans.flatMap Chn.cells), .row 83 2 (.slice A2 x.slots.length c2) x.slots.length (x.slots.flatMap Slt.cells), .blk b3 68 [.slice none 0 0, .slice A1 x.chans.length c1, .slice A2 x.slots.length c2]]) (fun (gq : Nat × Option Addr × Nat × Option Addr × Nat) => match gq with | ⟨b3, A1, c1, A2, c2⟩ => True) (Fr.cons hF (t := 0) rfl rfl (Fr.cons hF (t := 1) rfl rfl (Fr.cons hF (t := 2) rfl rfl (Fr.nil hF)))) hW ?_ ?_
  · refine c_d mixed_ok hW (hW) ?_
    clear hW; intro wc hW hS
    refine dv 1 rfl hF hS (y_fieldOwn hF rfl fa_68_1) (fun a hF => ?_)
    refine dv 2 rfl hF hS (y_loadOwn hF rfl 1 rfl rfl Try.underlying65 rfl) (fun a hF => ?_)
    refine dv 5 rfl hF hS (y_fieldOwn hF rfl fa_68_2) (fun a hF => ?_)
    refine dv 6 rfl hF hS (y_loadOwn hF rfl 1 rfl rfl Try.underlying66 rfl) (fun a hF => ?_)
    refine d_3 0 4 9 (by kernel_rfl) ?_ ?_ ?_
    · refine d_op rfl rfl (e_buildSlice hF hW rfl (fun w => bs_SysOwn_65_0_  w) rfl rfl rfl ?_)
      intro b3 a wc hF hW
      refine ⟨(hW.del 0 rfl), ?_⟩
      replace hS := (hW.del 0 rfl)
      refine d_3 3 4 9 (by kernel_rfl) ?_ ?_ ?_
      · replace hW := hW.blk_row 0 rfl 3 0 rfl (by simp)
        refine d_op rfl rfl (e_append hF hW 0 rfl rfl rfl Try.underlying65 inf_105 rfl (by decide) ((hx.chans.below hW.below).rowAt) (by exact one_flat Chn.one x.chans) (show _ = x.chans.length by omega) (show _ = x.chans.flatMap Chn.cells by simp) (by first | omega | (simp; omega)) (by unfold maxLen; first | omega | (simp; omega)) rfl rfl ?_)
        intro A4 c5 a wc hF hW
        refine ⟨(hW.del 0 rfl), ?_⟩
        replace hS := (hW.del 0 rfl)
        refine d_2 4 9 (by kernel_rfl) ?_ ?_
        · refine d_op rfl rfl (e_buildSlice hF hW rfl (fun w => bs_SysOwn_66_0_  w) rfl rfl rfl ?_)
          intro b6 a wc hF hW
          refine ⟨((hW.del 0 rfl).del 0 rfl), ?_⟩
          replace hS := ((hW.del 0 rfl).del 0 rfl)
          refine d_2 7 9 (by kernel_rfl) ?_ ?_
          · replace hW := hW.blk_row 0 rfl 2 0 rfl (by simp)
            refine d_op rfl rfl (e_append hF hW 0 rfl rfl rfl Try.underlying66 inf_83 rfl (by decide) ((hx.slots.below hW.below).rowAt) (by exact one_flat Slt.one x.slots) (show _ = x.slots.length by omega) (show _ = x.slots.flatMap Slt.cells by simp) (by first | omega | (simp; omega)) (by unfold maxLen; first | omega | (simp; omega)) rfl rfl ?_)
            intro A7 c8 a wc hF hW
            refine ⟨((hW.del 0 rfl).del 0 rfl), ?_⟩
            replace hS := ((hW.del 0 rfl).del 0 rfl)
            refine dv 8 rfl hF hS (y_build hF rfl (fun w => bu_SysOwn_68_1_2 _ _ _ _ _ _ w)) (fun a hF => ?_)
            refine d_1 9 (by kernel_rfl) ?_
            refine d_op rfl rfl (e_alloc hF hW ze_68 rfl rfl rfl ?_)
            intro b9 a wc hF hW
            refine ⟨(((hW.del 0 rfl).del 0 rfl).del 0 rfl), ?_⟩
            replace hS := (((hW.del 0 rfl).del 0 rfl).del 0 rfl)
            refine d_1 10 (by kernel_rfl) ?_
            refine d_op rfl rfl (e_storeAll rfl hF hW rfl rfl 0 rfl rfl rfl (by kernel_rfl) sz_68 ?_)
            intro wc hW
            refine ⟨(((hW.del 0 rfl).del 0 rfl).del 0 rfl), ?_⟩
            replace hS := (((hW.del 0 rfl).del 0 rfl).del 0 rfl)
            clear hS
            refine d_nil (by kernel_rfl) ?_
            replace hF := (hF.k 0 rfl (hF.k 1 rfl (hF.k 2 rfl (hF.k 3 rfl hF.nil))))
            replace hW := hW.front 4 rfl rfl
            replace hW := hW.front 4 rfl rfl
            replace hW := hW.front 2 rfl rfl
            replace hW := hW.front 3 rfl rfl
            replace hW := hW.front 4 rfl rfl
            refine t_n ?_
            refine ⟨(b9, A4, c5, A7, c8), ?_, ?_, ?_⟩
            · exact Fr.app (Fr.cons hF (t := 3) rfl rfl (Fr.nil hF)) (Fr.cons hF (t := 0) rfl rfl (Fr.cons hF (t := 1) rfl rfl (Fr.cons hF (t := 2) rfl rfl (Fr.nil hF))))
            · exact hW
            · trivial
          · refine d_op rfl rfl (e_alloc hF hW ze_68 rfl rfl rfl ?_)
            intro b10 a wc hF hW
            refine ⟨(((hW.del 0 rfl).del 0 rfl).del 0 rfl), ?_⟩
            replace hS := (((hW.del 0 rfl).del 0 rfl).del 0 rfl)
            refine d_1 7 (by kernel_rfl) ?_
            replace hW := hW.blk_row 1 rfl 2 0 rfl (by simp)
            refine d_op rfl rfl (e_append hF hW 1 rfl rfl rfl Try.underlying66 inf_83 rfl (by decide) ((hx.slots.below hW.below).rowAt) (by exact one_flat Slt.one x.slots) (show _ = x.slots.length by omega) (show _ = x.slots.flatMap Slt.cells by simp) (by first | omega | (simp; omega)) (by unfold maxLen; first | omega | (simp; omega)) rfl rfl ?_)
            intro A11 c12 a wc hF hW
            refine ⟨(((hW.del 0 rfl).del 0 rfl).del 0 rfl), ?_⟩
            replace hS := (((hW.del 0 rfl).del 0 rfl).del 0 rfl)
            refine dv 8 rfl hF hS (y_build hF rfl (fun w => bu_SysOwn_68_1_2 _ _ _ _ _ _ w)) (fun a hF => ?_)
            refine d_1 10 (by kernel_rfl) ?_
            refine d_op rfl rfl (e_storeAll rfl hF hW rfl rfl 0 rfl rfl rfl (by kernel_rfl) sz_68 ?_)
            intro wc hW
            refine ⟨(((hW.del 0 rfl).del 0 rfl).del 0 rfl), ?_⟩
            replace hS := (((hW.del 0 rfl).del 0 rfl).del 0 rfl)
            clear hS
            refine d_nil (by kernel_rfl) ?_
            replace hF := (hF.k 0 rfl (hF.k 1 rfl (hF.k 2 rfl (hF.k 3 rfl hF.nil))))
            replace hW := hW.front 4 rfl rfl
            replace hW := hW.front 4 rfl rfl
            replace hW := hW.front 2 rfl rfl
            replace hW := hW.front 3 rfl rfl
            replace hW := hW.front 4 rfl rfl
            refine t_n ?_
            refine ⟨(b10, A4, c5, A11, c12), ?_, ?_, ?_⟩
            · exact Fr.app (Fr.cons hF (t := 3) rfl rfl (Fr.nil hF)) (Fr.cons hF (t := 0) rfl rfl (Fr.cons hF (t := 1) rfl rfl (Fr.cons hF (t := 2) rfl rfl (Fr.nil hF))))
            · exact hW
            · trivial
        · refine d_op rfl rfl (e_alloc hF hW ze_68 rfl rfl rfl ?_)
          intro b13 a wc hF hW
          refine ⟨((hW.del 0 rfl).del 0 rfl), ?_⟩
          replace hS := ((hW.del 0 rfl).del 0 rfl)
          refine d_1 4 (by kernel_rfl) ?_
          refine d_op rfl rfl (e_buildSlice hF hW rfl (fun w => bs_SysOwn_66_0_  w) rfl rfl rfl ?_)
          intro b14 a wc hF hW
          refine ⟨(((hW.del 0 rfl).del 0 rfl).del 0 rfl), ?_⟩
          replace hS := (((hW.del 0 rfl).del 0 rfl).del 0 rfl)
          refine d_1 7 (by kernel_rfl) ?_
          replace hW := hW.blk_row 0 rfl 2 0 rfl (by simp)
          refine d_op rfl rfl (e_append hF hW 0 rfl rfl rfl Try.underlying66 inf_83 rfl (by decide) ((hx.slots.below hW.below).rowAt) (by exact one_flat Slt.one x.slots) (show _ = x.slots.length by omega) (show _ = x.slots.flatMap Slt.cells by simp) (by first | omega | (simp; omega)) (by unfold maxLen; first | omega | (simp; omega)) rfl rfl ?_)
          intro A15 c16 a wc hF hW
          refine ⟨(((hW.del 0 rfl).del 0 rfl).del 0 rfl), ?_⟩
          replace hS := (((hW.del 0 rfl).del 0 rfl).del 0 rfl)
          refine dv 8 rfl hF hS (y_build hF rfl (fun w => bu_SysOwn_68_1_2 _ _ _ _ _ _ w)) (fun a hF => ?_)
          refine d_1 10 (by kernel_rfl) ?_
          refine d_op rfl rfl (e_storeAll rfl hF hW rfl rfl 1 rfl rfl rfl (by kernel_rfl) sz_68 ?_)
          intro wc hW
          refine ⟨(((hW.del 0 rfl).del 0 rfl).del 0 rfl), ?_⟩
          replace hS := (((hW.del 0 rfl).del 0 rfl).del 0 rfl)
          clear hS
          refine d_nil (by kernel_rfl) ?_
          replace hF := (hF.k 0 rfl (hF.k 1 rfl (hF.k 2 rfl (hF.k 3 rfl hF.nil))))
          replace hW := hW.front 4 rfl rfl
          replace hW := hW.front 4 rfl rfl
          replace hW := hW.front 3 rfl rfl
          replace hW := hW.front 3 rfl rfl
          replace hW := hW.front 4 rfl rfl
          refine t_n ?_
          refine ⟨(b13, A4, c5, A15, c16), ?_, ?_, ?_⟩
          · exact Fr.app (Fr.cons hF (t := 3) rfl rfl (Fr.nil hF)) (Fr.cons hF (t := 0) rfl rfl (Fr.cons hF (t := 1) rfl rfl (Fr.cons hF (t := 2) rfl rfl (Fr.nil hF))))
          · exact hW
          · trivial
      · refine d_op rfl rfl (e_buildSlice hF hW rfl (fun w => bs_SysOwn_66_0_  w) rfl rfl rfl ?_)
        intro b17 a wc hF hW
        refine ⟨((hW.del 0 rfl).del 0 rfl), ?_⟩
        replace hS := ((hW.del 0 rfl).del 0 rfl)
        refine d_2 3 9 (by kernel_rfl) ?_ ?_
        · replace hW := hW.blk_row 1 rfl 3 0 rfl (by simp)
          refine d_op rfl rfl (e_append hF hW 1 rfl rfl rfl Try.underlying65 inf_105 rfl (by decide) ((hx.chans.below hW.below).rowAt) (by exact one_flat Chn.one x.chans) (show _ = x.chans.length by omega) (show _ = x.chans.flatMap Chn.cells by simp) (by first | omega | (simp; omega)) (by unfold maxLen; first | omega | (simp; omega)) rfl rfl ?_)
          intro A18 c19 a wc hF hW
          refine ⟨((hW.del 0 rfl).del 0 rfl), ?_⟩
          replace hS := ((hW.del 0 rfl).del 0 rfl)
          refine d_2 7 9 (by kernel_rfl) ?_ ?_
          · replace hW := hW.blk_row 0 rfl 2 0 rfl (by simp)
            refine d_op rfl rfl (e_append hF hW 0 rfl rfl rfl Try.underlying66 inf_83 rfl (by decide) ((hx.slots.below hW.below).rowAt) (by exact one_flat Slt.one x.slots) (show _ = x.slots.length by omega) (show _ = x.slots.flatMap Slt.cells by simp) (by first | omega | (simp; omega)) (by unfold maxLen; first | omega | (simp; omega)) rfl rfl ?_)
            intro A20 c21 a wc hF hW
            refine ⟨((hW.del 0 rfl).del 0 rfl), ?_⟩
            replace hS := ((hW.del 0 rfl).del 0 rfl)
            refine dv 8 rfl hF hS (y_build hF rfl (fun w => bu_SysOwn_68_1_2 _ _ _ _ _ _ w)) (fun a hF => ?_)
            refine d_1 9 (by kernel_rfl) ?_
            refine d_op rfl rfl (e_alloc hF hW ze_68 rfl rfl rfl ?_)
            intro b22 a wc hF hW
            refine ⟨(((hW.del 0 rfl).del 0 rfl).del 0 rfl), ?_⟩
            replace hS := (((hW.del 0 rfl).del 0 rfl).del 0 rfl)
            refine d_1 10 (by kernel_rfl) ?_
            refine d_op rfl rfl (e_storeAll rfl hF hW rfl rfl 0 rfl rfl rfl (by kernel_rfl) sz_68 ?_)
            intro wc hW
            refine ⟨(((hW.del 0 rfl).del 0 rfl).del 0 rfl), ?_⟩
            replace hS := (((hW.del 0 rfl).del 0 rfl).del 0 rfl)
            clear hS
            refine d_nil (by kernel_rfl) ?_
            replace hF := (hF.k 0 rfl (hF.k 1 rfl (hF.k 2 rfl (hF.k 3 rfl hF.nil))))
            replace hW := hW.front 4 rfl rfl
            replace hW := hW.front 4 rfl rfl
            replace hW := hW.front 2 rfl rfl
            replace hW := hW.front 3 rfl rfl
            replace hW := hW.front 4 rfl rfl
            refine t_n ?_
            refine ⟨(b22, A18, c19, A20, c21), ?_, ?_, ?_⟩
            · exact Fr.app (Fr.cons hF (t := 3) rfl rfl (Fr.nil hF)) (Fr.cons hF (t := 0) rfl rfl (Fr.cons hF (t := 1) rfl rfl (Fr.cons hF (t := 2) rfl rfl (Fr.nil hF))))
            · exact hW
            · trivial
          · refine d_op rfl rfl (e_alloc hF hW ze_68 rfl rfl rfl ?_)
            intro b23 a wc hF hW
            refine ⟨(((hW.del 0 rfl).del 0 rfl).del 0 rfl), ?_⟩
            replace hS := (((hW.del 0 rfl).del 0 rfl).del 0 rfl)
            refine d_1 7 (by kernel_rfl) ?_
            replace hW := hW.blk_row 1 rfl 2 0 rfl (by simp)
            refine d_op rfl rfl (e_append hF hW 1 rfl rfl rfl Try.underlying66 inf_83 rfl (by decide) ((hx.slots.below hW.below).rowAt) (by exact one_flat Slt.one x.slots) (show _ = x.slots.length by omega) (show _ = x.slots.flatMap Slt.cells by simp) (by first | omega | (simp; omega)) (by unfold maxLen; first | omega | (simp; omega)) rfl rfl ?_)
            intro A24 c25 a wc hF hW
            refine ⟨(((hW.del 0 rfl).del 0 rfl).del 0 rfl), ?_⟩
            replace hS := (((hW.del 0 rfl).del 0 rfl).del 0 rfl)
            refine dv 8 rfl hF hS (y_build hF rfl (fun w => bu_SysOwn_68_1_2 _ _ _ _ _ _ w)) (fun a hF => ?_)
            refine d_1 10 (by kernel_rfl) ?_
            refine d_op rfl rfl (e_storeAll rfl hF hW rfl rfl 0 rfl rfl rfl (by kernel_rfl) sz_68 ?_)
            intro wc hW
            refine ⟨(((hW.del 0 rfl).del 0 rfl).del 0 rfl), ?_⟩
            replace hS := (((hW.del 0 rfl).del 0 rfl).del 0 rfl)
            clear hS
            refine d_nil (by kernel_rfl) ?_
            replace hF := (hF.k 0 rfl (hF.k 1 rfl (hF.k 2 rfl (hF.k 3 rfl hF.nil))))
            replace hW := hW.front 4 rfl rfl
            replace hW := hW.front 4 rfl rfl
            replace hW := hW.front 2 rfl rfl
            replace hW := hW.front 3 rfl rfl
            replace hW := hW.front 4 rfl rfl
            refine t_n ?_
            refine ⟨(b23, A18, c19, A24, c25), ?_, ?_, ?_⟩
            · exact Fr.app (Fr.cons hF (t := 3) rfl rfl (Fr.nil hF)) (Fr.cons hF (t := 0) rfl rfl (Fr.cons hF (t := 1) rfl rfl (Fr.cons hF (t := 2) rfl rfl (Fr.nil hF))))
            · exact hW
            · trivial
        · refine d_op rfl rfl (e_alloc hF hW ze_68 rfl rfl rfl ?_)
          intro b26 a wc hF hW
          refine ⟨(((hW.del 0 rfl).del 0 rfl).del 0 rfl), ?_⟩
          replace hS := (((hW.del 0 rfl).del 0 rfl).del 0 rfl)
          refine d_1 3 (by kernel_rfl) ?_
          replace hW := hW.blk_row 2 rfl 3 0 rfl (by simp)
          refine d_op rfl rfl (e_append hF hW 2 rfl rfl rfl Try.underlying65 inf_105 rfl (by decide) ((hx.chans.below hW.below).rowAt) (by exact one_flat Chn.one x.chans) (show _ = x.chans.length by omega) (show _ = x.chans.flatMap Chn.cells by simp) (by first | omega | (simp; omega)) (by unfold maxLen; first | omega | (simp; omega)) rfl rfl ?_)
          intro A27 c28 a wc hF hW
          refine ⟨(((hW.del 0 rfl).del 0 rfl).del 0 rfl), ?_⟩
          replace hS := (((hW.del 0 rfl).del 0 rfl).del 0 rfl)
          refine d_1 7 (by kernel_rfl) ?_
          replace hW := hW.blk_row 1 rfl 2 0 rfl (by simp)
          refine d_op rfl rfl (e_append hF hW 1 rfl rfl rfl Try.underlying66 inf_83 rfl (by decide) ((hx.slots.below hW.below).rowAt) (by exact one_flat Slt.one x.slots) (show _ = x.slots.length by omega) (show _ = x.slots.flatMap Slt.cells by simp) (by first | omega | (simp; omega)) (by unfold maxLen; first | omega | (simp; omega)) rfl rfl ?_)
          intro A29 c30 a wc hF hW
          refine ⟨(((hW.del 0 rfl).del 0 rfl).del 0 rfl), ?_⟩
          replace hS := (((hW.del 0 rfl).del 0 rfl).del 0 rfl)
          refine dv 8 rfl hF hS (y_build hF rfl (fun w => bu_SysOwn_68_1_2 _ _ _ _ _ _ w)) (fun a hF => ?_)
          refine d_1 10 (by kernel_rfl) ?_
          refine d_op rfl rfl (e_storeAll rfl hF hW rfl rfl 0 rfl rfl rfl (by kernel_rfl) sz_68 ?_)
          intro wc hW
          refine ⟨(((hW.del 0 rfl).del 0 rfl).del 0 rfl), ?_⟩
          replace hS := (((hW.del 0 rfl).del 0 rfl).del 0 rfl)
          clear hS
          refine d_nil (by kernel_rfl) ?_
          replace hF := (hF.k 0 rfl (hF.k 1 rfl (hF.k 2 rfl (hF.k 3 rfl hF.nil))))
          replace hW := hW.front 4 rfl rfl
          replace hW := hW.front 4 rfl rfl
          replace hW := hW.front 2 rfl rfl
          replace hW := hW.front 3 rfl rfl
          replace hW := hW.front 4 rfl rfl
          refine t_n ?_
          refine ⟨(b26, A27, c28, A29, c30), ?_, ?_, ?_⟩
          · exact Fr.app (Fr.cons hF (t := 3) rfl rfl (Fr.nil hF)) (Fr.cons hF (t := 0) rfl rfl (Fr.cons hF (t := 1) rfl rfl (Fr.cons hF (t := 2) rfl rfl (Fr.nil hF))))
          · exact hW
          · trivial
      · refine d_op rfl rfl (e_alloc hF hW ze_68 rfl rfl rfl ?_)
        intro b31 a wc hF hW
        refine ⟨((hW.del 0 rfl).del 0 rfl), ?_⟩
        replace hS := ((hW.del 0 rfl).del 0 rfl)
        refine d_2 3 4 (by kernel_rfl) ?_ ?_
        · replace hW := hW.blk_row 1 rfl 3 0 rfl (by simp)
          refine d_op rfl rfl (e_append hF hW 1 rfl rfl rfl Try.underlying65 inf_105 rfl (by decide) ((hx.chans.below hW.below).rowAt) (by exact one_flat Chn.one x.chans) (show _ = x.chans.length by omega) (show _ = x.chans.flatMap Chn.cells by simp) (by first | omega | (simp; omega)) (by unfold maxLen; first | omega | (simp; omega)) rfl rfl ?_)
          intro A32 c33 a wc hF hW
          refine ⟨((hW.del 0 rfl).del 0 rfl), ?_⟩
          replace hS := ((hW.del 0 rfl).del 0 rfl)
          refine d_1 4 (by kernel_rfl) ?_
          refine d_op rfl rfl (e_buildSlice hF hW rfl (fun w => bs_SysOwn_66_0_  w) rfl rfl rfl ?_)
          intro b34 a wc hF hW
          refine ⟨(((hW.del 0 rfl).del 0 rfl).del 0 rfl), ?_⟩
          replace hS := (((hW.del 0 rfl).del 0 rfl).del 0 rfl)
          refine d_1 7 (by kernel_rfl) ?_
          replace hW := hW.blk_row 0 rfl 2 0 rfl (by simp)
          refine d_op rfl rfl (e_append hF hW 0 rfl rfl rfl Try.underlying66 inf_83 rfl (by decide) ((hx.slots.below hW.below).rowAt) (by exact one_flat Slt.one x.slots) (show _ = x.slots.length by omega) (show _ = x.slots.flatMap Slt.cells by simp) (by first | omega | (simp; omega)) (by unfold maxLen; first | omega | (simp; omega)) rfl rfl ?_)
          intro A35 c36 a wc hF hW
          refine ⟨(((hW.del 0 rfl).del 0 rfl).del 0 rfl), ?_⟩
          replace hS := (((hW.del 0 rfl).del 0 rfl).del 0 rfl)
          refine dv 8 rfl hF hS (y_build hF rfl (fun w => bu_SysOwn_68_1_2 _ _ _ _ _ _ w)) (fun a hF => ?_)
          refine d_1 10 (by kernel_rfl) ?_
          refine d_op rfl rfl (e_storeAll rfl hF hW rfl rfl 1 rfl rfl rfl (by kernel_rfl) sz_68 ?_)
          intro wc hW
          refine ⟨(((hW.del 0 rfl).del 0 rfl).del 0 rfl), ?_⟩
          replace hS := (((hW.del 0 rfl).del 0 rfl).del 0 rfl)
          clear hS
          refine d_nil (by kernel_rfl) ?_
          replace hF := (hF.k 0 rfl (hF.k 1 rfl (hF.k 2 rfl (hF.k 3 rfl hF.nil))))
          replace hW := hW.front 4 rfl rfl
          replace hW := hW.front 4 rfl rfl
          replace hW := hW.front 3 rfl rfl
          replace hW := hW.front 3 rfl rfl
          replace hW := hW.front 4 rfl rfl
          refine t_n ?_
          refine ⟨(b31, A32, c33, A35, c36), ?_, ?_, ?_⟩
          · exact Fr.app (Fr.cons hF (t := 3) rfl rfl (Fr.nil hF)) (Fr.cons hF (t := 0) rfl rfl (Fr.cons hF (t := 1) rfl rfl (Fr.cons hF (t := 2) rfl rfl (Fr.nil hF))))
          · exact hW
          · trivial
        · refine d_op rfl rfl (e_buildSlice hF hW rfl (fun w => bs_SysOwn_66_0_  w) rfl rfl rfl ?_)
          intro b37 a wc hF hW
          refine ⟨(((hW.del 0 rfl).del 0 rfl).del 0 rfl), ?_⟩
          replace hS := (((hW.del 0 rfl).del 0 rfl).del 0 rfl)
          refine d_1 3 (by kernel_rfl) ?_
          replace hW := hW.blk_row 2 rfl 3 0 rfl (by simp)
          refine d_op rfl rfl (e_append hF hW 2 rfl rfl rfl Try.underlying65 inf_105 rfl (by decide) ((hx.chans.below hW.below).rowAt) (by exact one_flat Chn.one x.chans) (show _ = x.chans.length by omega) (show _ = x.chans.flatMap Chn.cells by simp) (by first | omega | (simp; omega)) (by unfold maxLen; first | omega | (simp; omega)) rfl rfl ?_)
          intro A38 c39 a wc hF hW
          refine ⟨(((hW.del 0 rfl).del 0 rfl).del 0 rfl), ?_⟩
          replace hS := (((hW.del 0 rfl).del 0 rfl).del 0 rfl)
          refine d_1 7 (by kernel_rfl) ?_
          replace hW := hW.blk_row 0 rfl 2 0 rfl (by simp)
          refine d_op rfl rfl (e_append hF hW 0 rfl rfl rfl Try.underlying66 inf_83 rfl (by decide) ((hx.slots.below hW.below).rowAt) (by exact one_flat Slt.one x.slots) (show _ = x.slots.length by omega) (show _ = x.slots.flatMap Slt.cells by simp) (by first | omega | (simp; omega)) (by unfold maxLen; first | omega | (simp; omega)) rfl rfl ?_)
          intro A40 c41 a wc hF hW
          refine ⟨(((hW.del 0 rfl).del 0 rfl).del 0 rfl), ?_⟩
          replace hS := (((hW.del 0 rfl).del 0 rfl).del 0 rfl)
          refine dv 8 rfl hF hS (y_build hF rfl (fun w => bu_SysOwn_68_1_2 _ _ _ _ _ _ w)) (fun a hF => ?_)
          refine d_1 10 (by kernel_rfl) ?_
          refine d_op rfl rfl (e_storeAll rfl hF hW rfl rfl 1 rfl rfl rfl (by kernel_rfl) sz_68 ?_)
          intro wc hW
          refine ⟨(((hW.del 0 rfl).del 0 rfl).del 0 rfl), ?_⟩
          replace hS := (((hW.del 0 rfl).del 0 rfl).del 0 rfl)
          clear hS
          refine d_nil (by kernel_rfl) ?_
          replace hF := (hF.k 0 rfl (hF.k 1 rfl (hF.k 2 rfl (hF.k 3 rfl hF.nil))))
          replace hW := hW.front 4 rfl rfl
          replace hW := hW.front 4 rfl rfl
          replace hW := hW.front 3 rfl rfl
          replace hW := hW.front 3 rfl rfl
          replace hW := hW.front 4 rfl rfl
          refine t_n ?_
          refine ⟨(b31, A38, c39, A40, c41), ?_, ?_, ?_⟩
          · exact Fr.app (Fr.cons hF (t := 3) rfl rfl (Fr.nil hF)) (Fr.cons hF (t := 0) rfl rfl (Fr.cons hF (t := 1) rfl rfl (Fr.cons hF (t := 2) rfl rfl (Fr.nil hF))))
          · exact hW
          · trivial
    · refine d_op rfl rfl (e_buildSlice hF hW rfl (fun w => bs_SysOwn_66_0_  w) rfl rfl rfl ?_)
      intro b42 a wc hF hW
      refine ⟨(hW.del 0 rfl), ?_⟩
      replace hS := (hW.del 0 rfl)
      refine d_2 0 9 (by kernel_rfl) ?_ ?_
      · refine d_op rfl rfl (e_buildSlice hF hW rfl (fun w => bs_SysOwn_65_0_  w) rfl rfl rfl ?_)
        intro b43 a wc hF hW
        refine ⟨((hW.del 0 rfl).del 0 rfl), ?_⟩
        replace hS := ((hW.del 0 rfl).del 0 rfl)
        refine d_2 3 9 (by kernel_rfl) ?_ ?_
        · replace hW := hW.blk_row 0 rfl 3 0 rfl (by simp)
          refine d_op rfl rfl (e_append hF hW 0 rfl rfl rfl Try.underlying65 inf_105 rfl (by decide) ((hx.chans.below hW.below).rowAt) (by exact one_flat Chn.one x.chans) (show _ = x.chans.length by omega) (show _ = x.chans.flatMap Chn.cells by simp) (by first | omega | (simp; omega)) (by unfold maxLen; first | omega | (simp; omega)) rfl rfl ?_)
          intro A44 c45 a wc hF hW
          refine ⟨((hW.del 0 rfl).del 0 rfl), ?_⟩
          replace hS := ((hW.del 0 rfl).del 0 rfl)
          refine d_2 7 9 (by kernel_rfl) ?_ ?_
          · replace hW := hW.blk_row 1 rfl 2 0 rfl (by simp)
            refine d_op rfl rfl (e_append hF hW 1 rfl rfl rfl Try.underlying66 inf_83 rfl (by decide) ((hx.slots.below hW.below).rowAt) (by exact one_flat Slt.one x.slots) (show _ = x.slots.length by omega) (show _ = x.slots.flatMap Slt.cells by simp) (by first | omega | (simp; omega)) (by unfold maxLen; first | omega | (simp; omega)) rfl rfl ?_)
            intro A46 c47 a wc hF hW
            refine ⟨((hW.del 0 rfl).del 0 rfl), ?_⟩
            replace hS := ((hW.del 0 rfl).del 0 rfl)
            refine dv 8 rfl hF hS (y_build hF rfl (fun w => bu_SysOwn_68_1_2 _ _ _ _ _ _ w)) (fun a hF => ?_)
            refine d_1 9 (by kernel_rfl) ?_
            refine d_op rfl rfl (e_alloc hF hW ze_68 rfl rfl rfl ?_)
            intro b48 a wc hF hW
            refine ⟨(((hW.del 0 rfl).del 0 rfl).del 0 rfl), ?_⟩
            replace hS := (((hW.del 0 rfl).del 0 rfl).del 0 rfl)
            refine d_1 10 (by kernel_rfl) ?_
            refine d_op rfl rfl (e_storeAll rfl hF hW rfl rfl 0 rfl rfl rfl (by kernel_rfl) sz_68 ?_)
            intro wc hW
            refine ⟨(((hW.del 0 rfl).del 0 rfl).del 0 rfl), ?_⟩
            replace hS := (((hW.del 0 rfl).del 0 rfl).del 0 rfl)
            clear hS
            refine d_nil (by kernel_rfl) ?_
            replace hF := (hF.k 0 rfl (hF.k 1 rfl (hF.k 2 rfl (hF.k 3 rfl hF.nil))))
            replace hW := hW.front 4 rfl rfl
            replace hW := hW.front 4 rfl rfl
            replace hW := hW.front 2 rfl rfl
            replace hW := hW.front 4 rfl rfl
            replace hW := hW.front 4 rfl rfl
            refine t_n ?_
            refine ⟨(b48, A44, c45, A46, c47), ?_, ?_, ?_⟩
            · exact Fr.app (Fr.cons hF (t := 3) rfl rfl (Fr.nil hF)) (Fr.cons hF (t := 0) rfl rfl (Fr.cons hF (t := 1) rfl rfl (Fr.cons hF (t := 2) rfl rfl (Fr.nil hF))))
            · exact hW
            · trivial
          · refine d_op rfl rfl (e_alloc hF hW ze_68 rfl rfl rfl ?_)
            intro b49 a wc hF hW
            refine ⟨(((hW.del 0 rfl).del 0 rfl).del 0 rfl), ?_⟩
            replace hS := (((hW.del 0 rfl).del 0 rfl).del 0 rfl)
            refine d_1 7 (by kernel_rfl) ?_
            replace hW := hW.blk_row 2 rfl 2 0 rfl (by simp)
            refine d_op rfl rfl (e_append hF hW 2 rfl rfl rfl Try.underlying66 inf_83 rfl (by decide) ((hx.slots.below hW.below).rowAt) (by exact one_flat Slt.one x.slots) (show _ = x.slots.length by omega) (show _ = x.slots.flatMap Slt.cells by simp) (by first | omega | (simp; omega)) (by unfold maxLen; first | omega | (simp; omega)) rfl rfl ?_)
            intro A50 c51 a wc hF hW
            refine ⟨(((hW.del 0 rfl).del 0 rfl).del 0 rfl), ?_⟩
            replace hS := (((hW.del 0 rfl).del 0 rfl).del 0 rfl)
            refine dv 8 rfl hF hS (y_build hF rfl (fun w => bu_SysOwn_68_1_2 _ _ _ _ _ _ w)) (fun a hF => ?_)
            refine d_1 10 (by kernel_rfl) ?_
            refine d_op rfl rfl (e_storeAll rfl hF hW rfl rfl 0 rfl rfl rfl (by kernel_rfl) sz_68 ?_)
            intro wc hW
            refine ⟨(((hW.del 0 rfl).del 0 rfl).del 0 rfl), ?_⟩
            replace hS := (((hW.del 0 rfl).del 0 rfl).del 0 rfl)
            clear hS
            refine d_nil (by kernel_rfl) ?_
            replace hF := (hF.k 0 rfl (hF.k 1 rfl (hF.k 2 rfl (hF.k 3 rfl hF.nil))))
            replace hW := hW.front 4 rfl rfl
            replace hW := hW.front 4 rfl rfl
            replace hW := hW.front 2 rfl rfl
            replace hW := hW.front 4 rfl rfl
            replace hW := hW.front 4 rfl rfl
            refine t_n ?_
            refine ⟨(b49, A44, c45, A50, c51), ?_, ?_, ?_⟩
            · exact Fr.app (Fr.cons hF (t := 3) rfl rfl (Fr.nil hF)) (Fr.cons hF (t := 0) rfl rfl (Fr.cons hF (t := 1) rfl rfl (Fr.cons hF (t := 2) rfl rfl (Fr.nil hF))))
            · exact hW
            · trivial
        · refine d_op rfl rfl (e_alloc hF hW ze_68 rfl rfl rfl ?_)
          intro b52 a wc hF hW
          refine ⟨(((hW.del 0 rfl).del 0 rfl).del 0 rfl), ?_⟩
          replace hS := (((hW.del 0 rfl).del 0 rfl).del 0 rfl)
          refine d_1 3 (by kernel_rfl) ?_
          replace hW := hW.blk_row 1 rfl 3 0 rfl (by simp)
          refine d_op rfl rfl (e_append hF hW 1 rfl rfl rfl Try.underlying65 inf_105 rfl (by decide) ((hx.chans.below hW.below).rowAt) (by exact one_flat Chn.one x.chans) (show _ = x.chans.length by omega) (show _ = x.chans.flatMap Chn.cells by simp) (by first | omega | (simp; omega)) (by unfold maxLen; first | omega | (simp; omega)) rfl rfl ?_)
          intro A53 c54 a wc hF hW
          refine ⟨(((hW.del 0 rfl).del 0 rfl).del 0 rfl), ?_⟩
          replace hS := (((hW.del 0 rfl).del 0 rfl).del 0 rfl)
          refine d_1 7 (by kernel_rfl) ?_
          replace hW := hW.blk_row 2 rfl 2 0 rfl (by simp)
          refine d_op rfl rfl (e_append hF hW 2 rfl rfl rfl Try.underlying66 inf_83 rfl (by decide) ((hx.slots.below hW.below).rowAt) (by exact one_flat Slt.one x.slots) (show _ = x.slots.length by omega) (show _ = x.slots.flatMap Slt.cells by simp) (by first | omega | (simp; omega)) (by unfold maxLen; first | omega | (simp; omega)) rfl rfl ?_)
          intro A55 c56 a wc hF hW
          refine ⟨(((hW.del 0 rfl).del 0 rfl).del 0 rfl), ?_⟩
          replace hS := (((hW.del 0 rfl).del 0 rfl).del 0 rfl)
          refine dv 8 rfl hF hS (y_build hF rfl (fun w => bu_SysOwn_68_1_2 _ _ _ _ _ _ w)) (fun a hF => ?_)
          refine d_1 10 (by kernel_rfl) ?_
          refine d_op rfl rfl (e_storeAll rfl hF hW rfl rfl 0 rfl rfl rfl (by kernel_rfl) sz_68 ?_)
          intro wc hW
          refine ⟨(((hW.del 0 rfl).del 0 rfl).del 0 rfl), ?_⟩
          replace hS := (((hW.del 0 rfl).del 0 rfl).del 0 rfl)
          clear hS
          refine d_nil (by kernel_rfl) ?_
          replace hF := (hF.k 0 rfl (hF.k 1 rfl (hF.k 2 rfl (hF.k 3 rfl hF.nil))))
          replace hW := hW.front 4 rfl rfl
          replace hW := hW.front 4 rfl rfl
          replace hW := hW.front 2 rfl rfl
          replace hW := hW.front 4 rfl rfl
          replace hW := hW.front 4 rfl rfl
          refine t_n ?_
          refine ⟨(b52, A53, c54, A55, c56), ?_, ?_, ?_⟩
          · exact Fr.app (Fr.cons hF (t := 3) rfl rfl (Fr.nil hF)) (Fr.cons hF (t := 0) rfl rfl (Fr.cons hF (t := 1) rfl rfl (Fr.cons hF (t := 2) rfl rfl (Fr.nil hF))))
          · exact hW
          · trivial
      · refine d_op rfl rfl (e_alloc hF hW ze_68 rfl rfl rfl ?_)
        intro b57 a wc hF hW
        refine ⟨((hW.del 0 rfl).del 0 rfl), ?_⟩
        replace hS := ((hW.del 0 rfl).del 0 rfl)
        refine d_1 0 (by kernel_rfl) ?_
        refine d_op rfl rfl (e_buildSlice hF hW rfl (fun w => bs_SysOwn_65_0_  w) rfl rfl rfl ?_)
        intro b58 a wc hF hW
        refine ⟨(((hW.del 0 rfl).del 0 rfl).del 0 rfl), ?_⟩
        replace hS := (((hW.del 0 rfl).del 0 rfl).del 0 rfl)
        refine d_1 3 (by kernel_rfl) ?_
        replace hW := hW.blk_row 0 rfl 3 0 rfl (by simp)
        refine d_op rfl rfl (e_append hF hW 0 rfl rfl rfl Try.underlying65 inf_105 rfl (by decide) ((hx.chans.below hW.below).rowAt) (by exact one_flat Chn.one x.chans) (show _ = x.chans.length by omega) (show _ = x.chans.flatMap Chn.cells by simp) (by first | omega | (simp; omega)) (by unfold maxLen; first | omega | (simp; omega)) rfl rfl ?_)
        intro A59 c60 a wc hF hW
        refine ⟨(((hW.del 0 rfl).del 0 rfl).del 0 rfl), ?_⟩
        replace hS := (((hW.del 0 rfl).del 0 rfl).del 0 rfl)
        refine d_1 7 (by kernel_rfl) ?_
        replace hW := hW.blk_row 2 rfl 2 0 rfl (by simp)
        refine d_op rfl rfl (e_append hF hW 2 rfl rfl rfl Try.underlying66 inf_83 rfl (by decide) ((hx.slots.below hW.below).rowAt) (by exact one_flat Slt.one x.slots) (show _ = x.slots.length by omega) (show _ = x.slots.flatMap Slt.cells by simp) (by first | omega | (simp; omega)) (by unfold maxLen; first | omega | (simp; omega)) rfl rfl ?_)
        intro A61 c62 a wc hF hW
        refine ⟨(((hW.del 0 rfl).del 0 rfl).del 0 rfl), ?_⟩
        replace hS := (((hW.del 0 rfl).del 0 rfl).del 0 rfl)
        refine dv 8 rfl hF hS (y_build hF rfl (fun w => bu_SysOwn_68_1_2 _ _ _ _ _ _ w)) (fun a hF => ?_)
        refine d_1 10 (by kernel_rfl) ?_
        refine d_op rfl rfl (e_storeAll rfl hF hW rfl rfl 1 rfl rfl rfl (by kernel_rfl) sz_68 ?_)
        intro wc hW
        refine ⟨(((hW.del 0 rfl).del 0 rfl).del 0 rfl), ?_⟩
        replace hS := (((hW.del 0 rfl).del 0 rfl).del 0 rfl)
        clear hS
        refine d_nil (by kernel_rfl) ?_
        replace hF := (hF.k 0 rfl (hF.k 1 rfl (hF.k 2 rfl (hF.k 3 rfl hF.nil))))
        replace hW := hW.front 4 rfl rfl
        replace hW := hW.front 4 rfl rfl
        replace hW := hW.front 3 rfl rfl
        replace hW := hW.front 4 rfl rfl
        replace hW := hW.front 4 rfl rfl
        refine t_n ?_
        refine ⟨(b57, A59, c60, A61, c62), ?_, ?_, ?_⟩
        · exact Fr.app (Fr.cons hF (t := 3) rfl rfl (Fr.nil hF)) (Fr.cons hF (t := 0) rfl rfl (Fr.cons hF (t := 1) rfl rfl (Fr.cons hF (t := 2) rfl rfl (Fr.nil hF))))
        · exact hW
        · trivial
    · refine d_op rfl rfl (e_alloc hF hW ze_68 rfl rfl rfl ?_)
      intro b63 a wc hF hW
      refine ⟨(hW.del 0 rfl), ?_⟩
      replace hS := (hW.del 0 rfl)
      refine d_2 0 4 (by kernel_rfl) ?_ ?_
      · refine d_op rfl rfl (e_buildSlice hF hW rfl (fun w => bs_SysOwn_65_0_  w) rfl rfl rfl ?_)
        intro b64 a wc hF hW
        refine ⟨((hW.del 0 rfl).del 0 rfl), ?_⟩
        replace hS := ((hW.del 0 rfl).del 0 rfl)
        refine d_2 3 4 (by kernel_rfl) ?_ ?_
        · replace hW := hW.blk_row 0 rfl 3 0 rfl (by simp)
          refine d_op rfl rfl (e_append hF hW 0 rfl rfl rfl Try.underlying65 inf_105 rfl (by decide) ((hx.chans.below hW.below).rowAt) (by exact one_flat Chn.one x.chans) (show _ = x.chans.length by omega) (show _ = x.chans.flatMap Chn.cells by simp) (by first | omega | (simp; omega)) (by unfold maxLen; first | omega | (simp; omega)) rfl rfl ?_)
          intro A65 c66 a wc hF hW
          refine ⟨((hW.del 0 rfl).del 0 rfl), ?_⟩
          replace hS := ((hW.del 0 rfl).del 0 rfl)
          refine d_1 4 (by kernel_rfl) ?_
          refine d_op rfl rfl (e_buildSlice hF hW rfl (fun w => bs_SysOwn_66_0_  w) rfl rfl rfl ?_)
          intro b67 a wc hF hW
          refine ⟨(((hW.del 0 rfl).del 0 rfl).del 0 rfl), ?_⟩
          replace hS := (((hW.del 0 rfl).del 0 rfl).del 0 rfl)
          refine d_1 7 (by kernel_rfl) ?_
          replace hW := hW.blk_row 0 rfl 2 0 rfl (by simp)
          refine d_op rfl rfl (e_append hF hW 0 rfl rfl rfl Try.underlying66 inf_83 rfl (by decide) ((hx.slots.below hW.below).rowAt) (by exact one_flat Slt.one x.slots) (show _ = x.slots.length by omega) (show _ = x.slots.flatMap Slt.cells by simp) (by first | omega | (simp; omega)) (by unfold maxLen; first | omega | (simp; omega)) rfl rfl ?_)
          intro A68 c69 a wc hF hW
          refine ⟨(((hW.del 0 rfl).del 0 rfl).del 0 rfl), ?_⟩
          replace hS := (((hW.del 0 rfl).del 0 rfl).del 0 rfl)
          refine dv 8 rfl hF hS (y_build hF rfl (fun w => bu_SysOwn_68_1_2 _ _ _ _ _ _ w)) (fun a hF => ?_)
          refine d_1 10 (by kernel_rfl) ?_
          refine d_op rfl rfl (e_storeAll rfl hF hW rfl rfl 2 rfl rfl rfl (by kernel_rfl) sz_68 ?_)
          intro wc hW
          refine ⟨(((hW.del 0 rfl).del 0 rfl).del 0 rfl), ?_⟩
          replace hS := (((hW.del 0 rfl).del 0 rfl).del 0 rfl)
          clear hS
          refine d_nil (by kernel_rfl) ?_
          replace hF := (hF.k 0 rfl (hF.k 1 rfl (hF.k 2 rfl (hF.k 3 rfl hF.nil))))
          replace hW := hW.front 4 rfl rfl
          replace hW := hW.front 4 rfl rfl
          replace hW := hW.front 4 rfl rfl
          replace hW := hW.front 3 rfl rfl
          replace hW := hW.front 4 rfl rfl
          refine t_n ?_
          refine ⟨(b63, A65, c66, A68, c69), ?_, ?_, ?_⟩
          · exact Fr.app (Fr.cons hF (t := 3) rfl rfl (Fr.nil hF)) (Fr.cons hF (t := 0) rfl rfl (Fr.cons hF (t := 1) rfl rfl (Fr.cons hF (t := 2) rfl rfl (Fr.nil hF))))
          · exact hW
          · trivial
        · refine d_op rfl rfl (e_buildSlice hF hW rfl (fun w => bs_SysOwn_66_0_  w) rfl rfl rfl ?_)
          intro b70 a wc hF hW
          refine ⟨(((hW.del 0 rfl).del 0 rfl).del 0 rfl), ?_⟩
          replace hS := (((hW.del 0 rfl).del 0 rfl).del 0 rfl)
          refine d_1 3 (by kernel_rfl) ?_
          replace hW := hW.blk_row 1 rfl 3 0 rfl (by simp)
          refine d_op rfl rfl (e_append hF hW 1 rfl rfl rfl Try.underlying65 inf_105 rfl (by decide) ((hx.chans.below hW.below).rowAt) (by exact one_flat Chn.one x.chans) (show _ = x.chans.length by omega) (show _ = x.chans.flatMap Chn.cells by simp) (by first | omega | (simp; omega)) (by unfold maxLen; first | omega | (simp; omega)) rfl rfl ?_)
          intro A71 c72 a wc hF hW
          refine ⟨(((hW.del 0 rfl).del 0 rfl).del 0 rfl), ?_⟩
          replace hS := (((hW.del 0 rfl).del 0 rfl).del 0 rfl)
          refine d_1 7 (by kernel_rfl) ?_
          replace hW := hW.blk_row 0 rfl 2 0 rfl (by simp)
          refine d_op rfl rfl (e_append hF hW 0 rfl rfl rfl Try.underlying66 inf_83 rfl (by decide) ((hx.slots.below hW.below).rowAt) (by exact one_flat Slt.one x.slots) (show _ = x.slots.length by omega) (show _ = x.slots.flatMap Slt.cells by simp) (by first | omega | (simp; omega)) (by unfold maxLen; first | omega | (simp; omega)) rfl rfl ?_)
          intro A73 c74 a wc hF hW
          refine ⟨(((hW.del 0 rfl).del 0 rfl).del 0 rfl), ?_⟩
          replace hS := (((hW.del 0 rfl).del 0 rfl).del 0 rfl)
          refine dv 8 rfl hF hS (y_build hF rfl (fun w => bu_SysOwn_68_1_2 _ _ _ _ _ _ w)) (fun a hF => ?_)
          refine d_1 10 (by kernel_rfl) ?_
          refine d_op rfl rfl (e_storeAll rfl hF hW rfl rfl 2 rfl rfl rfl (by kernel_rfl) sz_68 ?_)
          intro wc hW
          refine ⟨(((hW.del 0 rfl).del 0 rfl).del 0 rfl), ?_⟩
          replace hS := (((hW.del 0 rfl).del 0 rfl).del 0 rfl)
          clear hS
          refine d_nil (by kernel_rfl) ?_
          replace hF := (hF.k 0 rfl (hF.k 1 rfl (hF.k 2 rfl (hF.k 3 rfl hF.nil))))
          replace hW := hW.front 4 rfl rfl
          replace hW := hW.front 4 rfl rfl
          replace hW := hW.front 4 rfl rfl
          replace hW := hW.front 3 rfl rfl
          replace hW := hW.front 4 rfl rfl
          refine t_n ?_
          refine ⟨(b63, A71, c72, A73, c74), ?_, ?_, ?_⟩
          · exact Fr.app (Fr.cons hF (t := 3) rfl rfl (Fr.nil hF)) (Fr.cons hF (t := 0) rfl rfl (Fr.cons hF (t := 1) rfl rfl (Fr.cons hF (t := 2) rfl rfl (Fr.nil hF))))
          · exact hW
          · trivial
      · refine d_op rfl rfl (e_buildSlice hF hW rfl (fun w => bs_SysOwn_66_0_  w) rfl rfl rfl ?_)
        intro b75 a wc hF hW
        refine ⟨((hW.del 0 rfl).del 0 rfl), ?_⟩
        replace hS := ((hW.del 0 rfl).del 0 rfl)
        refine d_1 0 (by kernel_rfl) ?_
        refine d_op rfl rfl (e_buildSlice hF hW rfl (fun w => bs_SysOwn_65_0_  w) rfl rfl rfl ?_)
        intro b76 a wc hF hW
        refine ⟨(((hW.del 0 rfl).del 0 rfl).del 0 rfl), ?_⟩
        replace hS := (((hW.del 0 rfl).del 0 rfl).del 0 rfl)
        refine d_1 3 (by kernel_rfl) ?_
        replace hW := hW.blk_row 0 rfl 3 0 rfl (by simp)
        refine d_op rfl rfl (e_append hF hW 0 rfl rfl rfl Try.underlying65 inf_105 rfl (by decide) ((hx.chans.below hW.below).rowAt) (by exact one_flat Chn.one x.chans) (show _ = x.chans.length by omega) (show _ = x.chans.flatMap Chn.cells by simp) (by first | omega | (simp; omega)) (by unfold maxLen; first | omega | (simp; omega)) rfl rfl ?_)
        intro A77 c78 a wc hF hW
        refine ⟨(((hW.del 0 rfl).del 0 rfl).del 0 rfl), ?_⟩
        replace hS := (((hW.del 0 rfl).del 0 rfl).del 0 rfl)
        refine d_1 7 (by kernel_rfl) ?_
        replace hW := hW.blk_row 1 rfl 2 0 rfl (by simp)
        refine d_op rfl rfl (e_append hF hW 1 rfl rfl rfl Try.underlying66 inf_83 rfl (by decide) ((hx.slots.below hW.below).rowAt) (by exact one_flat Slt.one x.slots) (show _ = x.slots.length by omega) (show _ = x.slots.flatMap Slt.cells by simp) (by first | omega | (simp; omega)) (by unfold maxLen; first | omega | (simp; omega)) rfl rfl ?_)
        intro A79 c80 a wc hF hW
        refine ⟨(((hW.del 0 rfl).del 0 rfl).del 0 rfl), ?_⟩
        replace hS := (((hW.del 0 rfl).del 0 rfl).del 0 rfl)
        refine dv 8 rfl hF hS (y_build hF rfl (fun w => bu_SysOwn_68_1_2 _ _ _ _ _ _ w)) (fun a hF => ?_)
        refine d_1 10 (by kernel_rfl) ?_
        refine d_op rfl rfl (e_storeAll rfl hF hW rfl rfl 2 rfl rfl rfl (by kernel_rfl) sz_68 ?_)
        intro wc hW
        refine ⟨(((hW.del 0 rfl).del 0 rfl).del 0 rfl), ?_⟩
        replace hS := (((hW.del 0 rfl).del 0 rfl).del 0 rfl)
        clear hS
        refine d_nil (by kernel_rfl) ?_
        replace hF := (hF.k 0 rfl (hF.k 1 rfl (hF.k 2 rfl (hF.k 3 rfl hF.nil))))
        refine t_n ?_
        refine ⟨(b63, A77, c78, A79, c80), ?_, ?_, ?_⟩
        · exact Fr.app (Fr.cons hF (t := 3) rfl rfl (Fr.nil hF)) (Fr.cons hF (t := 0) rfl rfl (Fr.cons hF (t := 1) rfl rfl (Fr.cons hF (t := 2) rfl rfl (Fr.nil hF))))
        · exact hW
        · trivial
  · clear hF hW
    try clear a
    intro gq a wc hC hF hW
    obtain ⟨b3, A1, c1, A2, c2⟩ := gq
    dsimp only at hC
    clear hC
    refine c_s ?_
    refine c_sr ?_
    refine pv hF hW (y_assign hF rfl) (fun a hF => ?_)
    refine l_nil ?_
    refine t_n ?_
    refine wp_block ?_
    replace hW := hW.nil_row 42 2
    replace hW := hW.free (R := fun u => ∀ q, q ∈ ([] : List PP) → q.At u) (fun _ _ h => by cases h)
    replace hW := hW.front 4 rfl rfl
    replace hW := hW.front 2 rfl rfl
    replace hW := hW.front 2 rfl rfl
    refine c_loop (G := Nat × List PP × Option Addr × Nat) (fun (gq : Nat × List PP × Option Addr × Nat) => match gq with | ⟨k, L, A, c⟩ => [(4, .int .i64 (k : Int))]) (fun (gq : Nat × List PP × Option Addr × Nat) => match gq with | ⟨k, L, A, c⟩ => [.res (fun u => ∀ q, q ∈ L → q.At u), .row 42 2 (.slice A k c) k (L.flatMap encP), .blk b3 68 [.slice A k c, .slice A1 x.chans.length c1, .slice A2 x.slots.length c2]]) (fun (gq : Nat × List PP × Option Addr × Nat) => match gq with | ⟨k, L, A, c⟩ => L.length = k ∧ k ≤ x.parts.length ∧ ∀ i, i < k → (L.getD i P0).1 = (x.parts.getD i P0).1) (fun (gq : Nat × List PP × Option Addr × Nat) => match gq with | ⟨k, L, A, c⟩ => x.parts.length - k) (0, [], none, 0) (Fr.cons hF (t := 0) rfl rfl (Fr.cons hF (t := 1) rfl rfl (Fr.cons hF (t := 2) rfl rfl (Fr.cons hF (t := 3) rfl rfl (Fr.nil hF))))) (Fr.cons hF (t := 4) rfl (by first | rfl | (simp; done)) (Fr.nil hF)) (hW) ?_ ?_
    · exact ⟨rfl, by omega, fun i hi => by omega⟩
    clear hF hW
    try clear a
    intro gq a wc hC hF hW
    obtain ⟨k, L, A, c⟩ := gq
    dsimp only at hC
    obtain ⟨hL, hk, hq⟩ := hC
    refine c_s ?_
    refine c_sr ?_
    refine pv hF hW (y_move hF rfl) (fun a hF => ?_)
    refine pv hF hW (y_fieldOwn hF rfl fa_68_0) (fun a hF => ?_)
    refine pv hF hW (y_loadOwn hF rfl 6 rfl rfl Try.underlying64 rfl) (fun a hF => ?_)
    refine pv hF hW (y_len hF rfl Try.underlying64) (fun a hF => ?_)
    refine pv hF hW (y_lss hF rfl rfl) (fun a hF => ?_)
    refine Fr.splitD hF ?_ ?_
    · intro h81 hF
      refine l_nil ?_
      replace hF := (hF.k 0 rfl (hF.k 1 rfl (hF.k 2 rfl (hF.k 3 rfl (hF.k 4 rfl (hF.k 18 rfl hF.nil))))))
      refine t_n ?_
      refine c_t hF rfl ?_
      refine wp_skip ?_
      refine t_n ?_
      refine c_cut (G := PP × Option Addr × Nat) (fun (gq : PP × Option Addr × Nat) => match gq with | ⟨q, A', c'⟩ => []) (fun (gq : PP × Option Addr × Nat) => match gq with | ⟨q, A', c'⟩ => [.res (fun u => ∀ p, p ∈ L ++ [q] → p.At u), .row 42 2 (.slice A' (k + 1) c') (k + 1) ((L ++ [q]).flatMap encP), .blk b3 68 [.slice A' (k + 1) c', .slice A1 x.chans.length c1, .slice A2 x.slots.length c2]]) (fun (gq : PP × Option Addr × Nat) => match gq with | ⟨q, A', c'⟩ => q.1 = (x.parts.getD k P0).1) (Fr.cons hF (t := 0) rfl rfl (Fr.cons hF (t := 1) rfl rfl (Fr.cons hF (t := 2) rfl rfl (Fr.cons hF (t := 3) rfl rfl (Fr.cons hF (t := 4) rfl rfl (Fr.cons hF (t := 18) rfl rfl (Fr.nil hF))))))) (((hW.del 0 rfl).del 0 rfl).del 0 rfl) ?_ ?_
      · refine wp_block ?_
        have hcl' := hcl k (by omega)
        have hil' := hz6 k (by omega)
        refine c_d mixed_ok hW (((hW.del 1 rfl).del 1 rfl)) ?_
        clear hW; intro wc hW hS
        refine dv 0 rfl hF hS (y_fieldOwn hF rfl fa_68_0) (fun a hF => ?_)
        refine dv 3 rfl hF hS (y_fieldOwn hF rfl fa_68_0) (fun a hF => ?_)
        refine dv 4 rfl hF hS (y_loadOwn hF rfl 4 rfl rfl Try.underlying64 rfl) (fun a hF => ?_)
        refine dv 5 rfl hF hS (y_move hF rfl) (fun a hF => ?_)
        refine dv 6 rfl hF hS (y_indexS hF rfl rfl (by first | omega | decide) Try.underlying64 sz_42 (fun w h => (hx.partsR).wd h)) (fun a hF => ?_)
        refine dv 7 rfl hF hS (y_fieldRow hF rfl fa_42_0) (fun a hF => ?_)
        refine dv 8 rfl hF hS (y_loadRow hF rfl (fun w h => (hx.partsR).wd h) (by first | omega | decide) rfl Try.underlying40 rfl) (fun a hF => ?_)
        refine dv 11 rfl hF hS (y_fieldOwn hF rfl fa_68_0) (fun a hF => ?_)
        refine dv 12 rfl hF hS (y_loadOwn hF rfl 4 rfl rfl Try.underlying64 rfl) (fun a hF => ?_)
        refine dv 13 rfl hF hS (y_move hF rfl) (fun a hF => ?_)
        refine dv 14 rfl hF hS (y_indexS hF rfl rfl (by first | omega | decide) Try.underlying64 sz_42 (fun w h => (hx.partsR).wd h)) (fun a hF => ?_)
        refine dv 15 rfl hF hS (y_fieldRow hF rfl fa_42_1) (fun a hF => ?_)
        refine dv 16 rfl hF hS (y_loadRow hF rfl (fun w h => (hx.partsR).wd h) (by first | omega | decide) rfl Try.underlying22 rfl) (fun a hF => ?_)
        refine d_3 1 2 10 (by kernel_rfl) ?_ ?_ ?_
        · refine d_opval rfl hF rfl hW (y_loadOwn hF rfl 2 rfl rfl Try.underlying64 rfl) rfl rfl (fun a hF => ?_)
          refine ⟨((hW.del 1 rfl).del 1 rfl), ?_⟩
          replace hS := ((hW.del 1 rfl).del 1 rfl)
          refine d_2 2 10 (by kernel_rfl) ?_ ?_
          · refine d_op rfl rfl (e_buildSlice hF hW rfl (fun w => bs_SysOwn_40_0_  w) rfl rfl rfl ?_)
            intro b82 a wc hF hW
            refine ⟨(((hW.del 0 rfl).del 1 rfl).del 1 rfl), ?_⟩
            replace hS := (((hW.del 0 rfl).del 1 rfl).del 1 rfl)
            refine d_2 9 10 (by kernel_rfl) ?_ ?_
            · replace hW := hW.blk_row 0 rfl 4 0 rfl (by simp)
              refine d_op rfl rfl (e_append hF hW 0 rfl rfl rfl Try.underlying40 inf_95 rfl (by decide) (((hx.part (k := k) (by omega)).below hW.below).code.rowAt) (by exact one_flat Ins.one _) (show _ = (x.parts.getD k P0).1.code.length by omega) (show _ = (x.parts.getD k P0).1.code.flatMap Ins.cells by simp) (by first | omega | (simp; omega)) (by unfold maxLen; first | omega | (simp; omega)) rfl rfl ?_)
              intro A83 c84 a wc hF hW
              refine ⟨(((hW.del 0 rfl).del 1 rfl).del 1 rfl), ?_⟩
              replace hS := (((hW.del 0 rfl).del 1 rfl).del 1 rfl)
              refine d_1 10 (by kernel_rfl) ?_
              refine d_op rfl rfl (e_buildSlice hF hW rfl (fun w => bs_SysOwn_22_0_  w) rfl rfl rfl ?_)
              intro b85 a wc hF hW
              refine ⟨((((hW.del 0 rfl).del 0 rfl).del 1 rfl).del 1 rfl), ?_⟩
              replace hS := ((((hW.del 0 rfl).del 0 rfl).del 1 rfl).del 1 rfl)
              refine d_1 17 (by kernel_rfl) ?_
              replace hW := hW.blk_row 0 rfl 1 0 rfl (by simp)
              refine d_op rfl rfl (e_append hF hW 0 rfl rfl rfl Try.underlying22 inf_3 rfl (by decide) (((hx.part (k := k) (by omega)).below hW.below).inp.rowAt) (by exact oneCell_ints _) (show _ = (x.parts.getD k P0).1.inp.length by omega) (show _ = (x.parts.getD k P0).1.inp.map (.int .i64) by simp) (by first | omega | (simp; omega)) (by unfold maxLen; first | omega | (simp; omega)) rfl rfl ?_)
              intro A86 c87 a wc hF hW
              refine ⟨((((hW.del 0 rfl).del 0 rfl).del 1 rfl).del 1 rfl), ?_⟩
              replace hS := ((((hW.del 0 rfl).del 0 rfl).del 1 rfl).del 1 rfl)
              refine dv 18 rfl hF hS (y_build hF rfl (fun w => bu_SysOwn_42_0_1 _ _ _ _ _ _ w)) (fun a hF => ?_)
              refine d_1 19 (by kernel_rfl) ?_
              refine d_op rfl rfl (e_buildSlice hF hW rfl (fun w => bs_SysOwn_64_1_0 _ _ _ _ _ _ w) rfl rfl rfl ?_)
              intro b88 a wc hF hW
              refine ⟨(((((hW.del 0 rfl).del 0 rfl).del 0 rfl).del 1 rfl).del 1 rfl), ?_⟩
              replace hS := (((((hW.del 0 rfl).del 0 rfl).del 0 rfl).del 1 rfl).del 1 rfl)
              refine d_1 20 (by kernel_rfl) ?_
              refine d_op rfl rfl (e_append hF hW 4 rfl rfl rfl Try.underlying64 inf_42 rfl (by decide) (rowAt_blk (hW.blk 0 rfl) 2 1 rfl) (by simp [Value.oneCell']) (show _ = k + 1 by omega) (show _ = (L ++ [((x.parts.getD k P0).1, PX.mk A83 c84 A86 c87)]).flatMap encP by simp [encP]) (by first | omega | (simp; omega)) (by unfold maxLen; first | omega | (simp; omega)) rfl rfl ?_)
              intro A89 c90 a wc hF hW
              refine ⟨(((((hW.del 0 rfl).del 0 rfl).del 0 rfl).del 1 rfl).del 1 rfl), ?_⟩
              replace hS := (((((hW.del 0 rfl).del 0 rfl).del 0 rfl).del 1 rfl).del 1 rfl)
              refine dv 21 rfl hF hS (y_fieldOwn hF rfl fa_68_0) (fun a hF => ?_)
              refine d_1 22 (by kernel_rfl) ?_
              refine d_op rfl rfl (e_store rfl hF hW rfl rfl 5 rfl rfl rfl sz_64 ?_)
              intro wc hW
              refine ⟨(((((hW.del 0 rfl).del 0 rfl).del 0 rfl).del 1 rfl).del 1 rfl), ?_⟩
              replace hS := (((((hW.del 0 rfl).del 0 rfl).del 0 rfl).del 1 rfl).del 1 rfl)
              clear hS
              refine d_nil (by kernel_rfl) ?_
              replace hF := (hF.k 0 rfl (hF.k 1 rfl (hF.k 2 rfl (hF.k 3 rfl (hF.k 4 rfl (hF.k 18 rfl hF.nil))))))
              refine b_n ?_
              replace hW := hW.del 0 rfl
              replace hW := hW.front 8 rfl rfl
              replace hW := hW.front 8 rfl rfl
              replace hW := hW.front 8 rfl rfl
              replace hW := hW.front 8 rfl rfl
              replace hW := hW.front 8 rfl rfl
              replace hW := hW.front 8 rfl rfl
              replace hW := hW.front 8 rfl rfl
              replace hW := hW.front 7 rfl rfl
              replace hW := hW.front 8 rfl rfl
              refine t_n ?_
              refine ⟨(((x.parts.getD k P0).1, PX.mk A83 c84 A86 c87), A89, c90), ?_, ?_, ?_⟩
              · exact Fr.app (Fr.nil hF) (Fr.cons hF (t := 0) rfl rfl (Fr.cons hF (t := 1) rfl rfl (Fr.cons hF (t := 2) rfl rfl (Fr.cons hF (t := 3) rfl rfl (Fr.cons hF (t := 4) rfl rfl (Fr.cons hF (t := 18) rfl rfl (Fr.nil hF)))))))
              · exact hW.rows2 fun u h1 h2 h3 p hp => (List.mem_append.1 hp).elim (h3 p) fun h => by rw [List.mem_singleton.1 h]; exact ⟨Flat.of_own h1 rfl, Ints.of_own h2⟩
              · rfl
            · refine d_op rfl rfl (e_buildSlice hF hW rfl (fun w => bs_SysOwn_22_0_  w) rfl rfl rfl ?_)
              intro b91 a wc hF hW
              refine ⟨((((hW.del 0 rfl).del 0 rfl).del 1 rfl).del 1 rfl), ?_⟩
              replace hS := ((((hW.del 0 rfl).del 0 rfl).del 1 rfl).del 1 rfl)
              refine d_1 9 (by kernel_rfl) ?_
              replace hW := hW.blk_row 1 rfl 4 0 rfl (by simp)
              refine d_op rfl rfl (e_append hF hW 1 rfl rfl rfl Try.underlying40 inf_95 rfl (by decide) (((hx.part (k := k) (by omega)).below hW.below).code.rowAt) (by exact one_flat Ins.one _) (show _ = (x.parts.getD k P0).1.code.length by omega) (show _ = (x.parts.getD k P0).1.code.flatMap Ins.cells by simp) (by first | omega | (simp; omega)) (by unfold maxLen; first | omega | (simp; omega)) rfl rfl ?_)
              intro A92 c93 a wc hF hW
              refine ⟨((((hW.del 0 rfl).del 0 rfl).del 1 rfl).del 1 rfl), ?_⟩
              replace hS := ((((hW.del 0 rfl).del 0 rfl).del 1 rfl).del 1 rfl)
              refine d_1 17 (by kernel_rfl) ?_
              replace hW := hW.blk_row 0 rfl 1 0 rfl (by simp)
              refine d_op rfl rfl (e_append hF hW 0 rfl rfl rfl Try.underlying22 inf_3 rfl (by decide) (((hx.part (k := k) (by omega)).below hW.below).inp.rowAt) (by exact oneCell_ints _) (show _ = (x.parts.getD k P0).1.inp.length by omega) (show _ = (x.parts.getD k P0).1.inp.map (.int .i64) by simp) (by first | omega | (simp; omega)) (by unfold maxLen; first | omega | (simp; omega)) rfl rfl ?_)
              intro A94 c95 a wc hF hW
              refine ⟨((((hW.del 0 rfl).del 0 rfl).del 1 rfl).del 1 rfl), ?_⟩
              replace hS := ((((hW.del 0 rfl).del 0 rfl).del 1 rfl).del 1 rfl)
              refine dv 18 rfl hF hS (y_build hF rfl (fun w => bu_SysOwn_42_0_1 _ _ _ _ _ _ w)) (fun a hF => ?_)
              refine d_1 19 (by kernel_rfl) ?_
              refine d_op rfl rfl (e_buildSlice hF hW rfl (fun w => bs_SysOwn_64_1_0 _ _ _ _ _ _ w) rfl rfl rfl ?_)
              intro b96 a wc hF hW
              refine ⟨(((((hW.del 0 rfl).del 0 rfl).del 0 rfl).del 1 rfl).del 1 rfl), ?_⟩
              replace hS := (((((hW.del 0 rfl).del 0 rfl).del 0 rfl).del 1 rfl).del 1 rfl)
              refine d_1 20 (by kernel_rfl) ?_
              refine d_op rfl rfl (e_append hF hW 4 rfl rfl rfl Try.underlying64 inf_42 rfl (by decide) (rowAt_blk (hW.blk 0 rfl) 2 1 rfl) (by simp [Value.oneCell']) (show _ = k + 1 by omega) (show _ = (L ++ [((x.parts.getD k P0).1, PX.mk A92 c93 A94 c95)]).flatMap encP by simp [encP]) (by first | omega | (simp; omega)) (by unfold maxLen; first | omega | (simp; omega)) rfl rfl ?_)
              intro A97 c98 a wc hF hW
              refine ⟨(((((hW.del 0 rfl).del 0 rfl).del 0 rfl).del 1 rfl).del 1 rfl), ?_⟩
              replace hS := (((((hW.del 0 rfl).del 0 rfl).del 0 rfl).del 1 rfl).del 1 rfl)
              refine dv 21 rfl hF hS (y_fieldOwn hF rfl fa_68_0) (fun a hF => ?_)
              refine d_1 22 (by kernel_rfl) ?_
              refine d_op rfl rfl (e_store rfl hF hW rfl rfl 5 rfl rfl rfl sz_64 ?_)
              intro wc hW
              refine ⟨(((((hW.del 0 rfl).del 0 rfl).del 0 rfl).del 1 rfl).del 1 rfl), ?_⟩
              replace hS := (((((hW.del 0 rfl).del 0 rfl).del 0 rfl).del 1 rfl).del 1 rfl)
              clear hS
              refine d_nil (by kernel_rfl) ?_
              replace hF := (hF.k 0 rfl (hF.k 1 rfl (hF.k 2 rfl (hF.k 3 rfl (hF.k 4 rfl (hF.k 18 rfl hF.nil))))))
              refine b_n ?_
              replace hW := hW.del 0 rfl
              replace hW := hW.front 8 rfl rfl
              replace hW := hW.front 8 rfl rfl
              replace hW := hW.front 8 rfl rfl
              replace hW := hW.front 8 rfl rfl
              replace hW := hW.front 8 rfl rfl
              replace hW := hW.front 8 rfl rfl
              replace hW := hW.front 8 rfl rfl
              replace hW := hW.front 7 rfl rfl
              replace hW := hW.front 8 rfl rfl
              refine t_n ?_
              refine ⟨(((x.parts.getD k P0).1, PX.mk A92 c93 A94 c95), A97, c98), ?_, ?_, ?_⟩
              · exact Fr.app (Fr.nil hF) (Fr.cons hF (t := 0) rfl rfl (Fr.cons hF (t := 1) rfl rfl (Fr.cons hF (t := 2) rfl rfl (Fr.cons hF (t := 3) rfl rfl (Fr.cons hF (t := 4) rfl rfl (Fr.cons hF (t := 18) rfl rfl (Fr.nil hF)))))))
              · exact hW.rows2 fun u h1 h2 h3 p hp => (List.mem_append.1 hp).elim (h3 p) fun h => by rw [List.mem_singleton.1 h]; exact ⟨Flat.of_own h1 rfl, Ints.of_own h2⟩
              · rfl
          · refine d_op rfl rfl (e_buildSlice hF hW rfl (fun w => bs_SysOwn_22_0_  w) rfl rfl rfl ?_)
            intro b99 a wc hF hW
            refine ⟨(((hW.del 0 rfl).del 1 rfl).del 1 rfl), ?_⟩
            replace hS := (((hW.del 0 rfl).del 1 rfl).del 1 rfl)
            refine d_1 2 (by kernel_rfl) ?_
            refine d_op rfl rfl (e_buildSlice hF hW rfl (fun w => bs_SysOwn_40_0_  w) rfl rfl rfl ?_)
            intro b100 a wc hF hW
            refine ⟨((((hW.del 0 rfl).del 0 rfl).del 1 rfl).del 1 rfl), ?_⟩
            replace hS := ((((hW.del 0 rfl).del 0 rfl).del 1 rfl).del 1 rfl)
            refine d_1 9 (by kernel_rfl) ?_
            replace hW := hW.blk_row 0 rfl 4 0 rfl (by simp)
            refine d_op rfl rfl (e_append hF hW 0 rfl rfl rfl Try.underlying40 inf_95 rfl (by decide) (((hx.part (k := k) (by omega)).below hW.below).code.rowAt) (by exact one_flat Ins.one _) (show _ = (x.parts.getD k P0).1.code.length by omega) (show _ = (x.parts.getD k P0).1.code.flatMap Ins.cells by simp) (by first | omega | (simp; omega)) (by unfold maxLen; first | omega | (simp; omega)) rfl rfl ?_)
            intro A101 c102 a wc hF hW
            refine ⟨((((hW.del 0 rfl).del 0 rfl).del 1 rfl).del 1 rfl), ?_⟩
            replace hS := ((((hW.del 0 rfl).del 0 rfl).del 1 rfl).del 1 rfl)
            refine d_1 17 (by kernel_rfl) ?_
            replace hW := hW.blk_row 1 rfl 1 0 rfl (by simp)
            refine d_op rfl rfl (e_append hF hW 1 rfl rfl rfl Try.underlying22 inf_3 rfl (by decide) (((hx.part (k := k) (by omega)).below hW.below).inp.rowAt) (by exact oneCell_ints _) (show _ = (x.parts.getD k P0).1.inp.length by omega) (show _ = (x.parts.getD k P0).1.inp.map (.int .i64) by simp) (by first | omega | (simp; omega)) (by unfold maxLen; first | omega | (simp; omega)) rfl rfl ?_)
            intro A103 c104 a wc hF hW
            refine ⟨((((hW.del 0 rfl).del 0 rfl).del 1 rfl).del 1 rfl), ?_⟩
            replace hS := ((((hW.del 0 rfl).del 0 rfl).del 1 rfl).del 1 rfl)
            refine dv 18 rfl hF hS (y_build hF rfl (fun w => bu_SysOwn_42_0_1 _ _ _ _ _ _ w)) (fun a hF => ?_)
            refine d_1 19 (by kernel_rfl) ?_
            refine d_op rfl rfl (e_buildSlice hF hW rfl (fun w => bs_SysOwn_64_1_0 _ _ _ _ _ _ w) rfl rfl rfl ?_)
            intro b105 a wc hF hW
            refine ⟨(((((hW.del 0 rfl).del 0 rfl).del 0 rfl).del 1 rfl).del 1 rfl), ?_⟩
            replace hS := (((((hW.del 0 rfl).del 0 rfl).del 0 rfl).del 1 rfl).del 1 rfl)
            refine d_1 20 (by kernel_rfl) ?_
            refine d_op rfl rfl (e_append hF hW 4 rfl rfl rfl Try.underlying64 inf_42 rfl (by decide) (rowAt_blk (hW.blk 0 rfl) 2 1 rfl) (by simp [Value.oneCell']) (show _ = k + 1 by omega) (show _ = (L ++ [((x.parts.getD k P0).1, PX.mk A101 c102 A103 c104)]).flatMap encP by simp [encP]) (by first | omega | (simp; omega)) (by unfold maxLen; first | omega | (simp; omega)) rfl rfl ?_)
            intro A106 c107 a wc hF hW
            refine ⟨(((((hW.del 0 rfl).del 0 rfl).del 0 rfl).del 1 rfl).del 1 rfl), ?_⟩
            replace hS := (((((hW.del 0 rfl).del 0 rfl).del 0 rfl).del 1 rfl).del 1 rfl)
            refine dv 21 rfl hF hS (y_fieldOwn hF rfl fa_68_0) (fun a hF => ?_)
            refine d_1 22 (by kernel_rfl) ?_
            refine d_op rfl rfl (e_store rfl hF hW rfl rfl 5 rfl rfl rfl sz_64 ?_)
            intro wc hW
            refine ⟨(((((hW.del 0 rfl).del 0 rfl).del 0 rfl).del 1 rfl).del 1 rfl), ?_⟩
            replace hS := (((((hW.del 0 rfl).del 0 rfl).del 0 rfl).del 1 rfl).del 1 rfl)
            clear hS
            refine d_nil (by kernel_rfl) ?_
            replace hF := (hF.k 0 rfl (hF.k 1 rfl (hF.k 2 rfl (hF.k 3 rfl (hF.k 4 rfl (hF.k 18 rfl hF.nil))))))
            refine b_n ?_
            replace hW := hW.del 0 rfl
            refine t_n ?_
            refine ⟨(((x.parts.getD k P0).1, PX.mk A101 c102 A103 c104), A106, c107), ?_, ?_, ?_⟩
            · exact Fr.app (Fr.nil hF) (Fr.cons hF (t := 0) rfl rfl (Fr.cons hF (t := 1) rfl rfl (Fr.cons hF (t := 2) rfl rfl (Fr.cons hF (t := 3) rfl rfl (Fr.cons hF (t := 4) rfl rfl (Fr.cons hF (t := 18) rfl rfl (Fr.nil hF)))))))
            · exact hW.rows2 fun u h1 h2 h3 p hp => (List.mem_append.1 hp).elim (h3 p) fun h => by rw [List.mem_singleton.1 h]; exact ⟨Flat.of_own h1 rfl, Ints.of_own h2⟩
            · rfl
        · refine d_op rfl rfl (e_buildSlice hF hW rfl (fun w => bs_SysOwn_40_0_  w) rfl rfl rfl ?_)
          intro b108 a wc hF hW
          refine ⟨(((hW.del 0 rfl).del 1 rfl).del 1 rfl), ?_⟩
          replace hS := (((hW.del 0 rfl).del 1 rfl).del 1 rfl)
          refine d_3 1 9 10 (by kernel_rfl) ?_ ?_ ?_
          · refine d_opval rfl hF rfl hW (y_loadOwn hF rfl 3 rfl rfl Try.underlying64 rfl) rfl rfl (fun a hF => ?_)
            refine ⟨(((hW.del 0 rfl).del 1 rfl).del 1 rfl), ?_⟩
            replace hS := (((hW.del 0 rfl).del 1 rfl).del 1 rfl)
            refine d_2 9 10 (by kernel_rfl) ?_ ?_
            · replace hW := hW.blk_row 0 rfl 4 0 rfl (by simp)
              refine d_op rfl rfl (e_append hF hW 0 rfl rfl rfl Try.underlying40 inf_95 rfl (by decide) (((hx.part (k := k) (by omega)).below hW.below).code.rowAt) (by exact one_flat Ins.one _) (show _ = (x.parts.getD k P0).1.code.length by omega) (show _ = (x.parts.getD k P0).1.code.flatMap Ins.cells by simp) (by first | omega | (simp; omega)) (by unfold maxLen; first | omega | (simp; omega)) rfl rfl ?_)
              intro A109 c110 a wc hF hW
              refine ⟨(((hW.del 0 rfl).del 1 rfl).del 1 rfl), ?_⟩
              replace hS := (((hW.del 0 rfl).del 1 rfl).del 1 rfl)
              refine d_1 10 (by kernel_rfl) ?_
              refine d_op rfl rfl (e_buildSlice hF hW rfl (fun w => bs_SysOwn_22_0_  w) rfl rfl rfl ?_)
              intro b111 a wc hF hW
              refine ⟨((((hW.del 0 rfl).del 0 rfl).del 1 rfl).del 1 rfl), ?_⟩
              replace hS := ((((hW.del 0 rfl).del 0 rfl).del 1 rfl).del 1 rfl)
              refine d_1 17 (by kernel_rfl) ?_
              replace hW := hW.blk_row 0 rfl 1 0 rfl (by simp)
              refine d_op rfl rfl (e_append hF hW 0 rfl rfl rfl Try.underlying22 inf_3 rfl (by decide) (((hx.part (k := k) (by omega)).below hW.below).inp.rowAt) (by exact oneCell_ints _) (show _ = (x.parts.getD k P0).1.inp.length by omega) (show _ = (x.parts.getD k P0).1.inp.map (.int .i64) by simp) (by first | omega | (simp; omega)) (by unfold maxLen; first | omega | (simp; omega)) rfl rfl ?_)
              intro A112 c113 a wc hF hW
              refine ⟨((((hW.del 0 rfl).del 0 rfl).del 1 rfl).del 1 rfl), ?_⟩
              replace hS := ((((hW.del 0 rfl).del 0 rfl).del 1 rfl).del 1 rfl)
              refine dv 18 rfl hF hS (y_build hF rfl (fun w => bu_SysOwn_42_0_1 _ _ _ _ _ _ w)) (fun a hF => ?_)
              refine d_1 19 (by kernel_rfl) ?_
              refine d_op rfl rfl (e_buildSlice hF hW rfl (fun w => bs_SysOwn_64_1_0 _ _ _ _ _ _ w) rfl rfl rfl ?_)
              intro b114 a wc hF hW
              refine ⟨(((((hW.del 0 rfl).del 0 rfl).del 0 rfl).del 1 rfl).del 1 rfl), ?_⟩
              replace hS := (((((hW.del 0 rfl).del 0 rfl).del 0 rfl).del 1 rfl).del 1 rfl)
              refine d_1 20 (by kernel_rfl) ?_
              refine d_op rfl rfl (e_append hF hW 4 rfl rfl rfl Try.underlying64 inf_42 rfl (by decide) (rowAt_blk (hW.blk 0 rfl) 2 1 rfl) (by simp [Value.oneCell']) (show _ = k + 1 by omega) (show _ = (L ++ [((x.parts.getD k P0).1, PX.mk A109 c110 A112 c113)]).flatMap encP by simp [encP]) (by first | omega | (simp; omega)) (by unfold maxLen; first | omega | (simp; omega)) rfl rfl ?_)
              intro A115 c116 a wc hF hW
              refine ⟨(((((hW.del 0 rfl).del 0 rfl).del 0 rfl).del 1 rfl).del 1 rfl), ?_⟩
              replace hS := (((((hW.del 0 rfl).del 0 rfl).del 0 rfl).del 1 rfl).del 1 rfl)
              refine dv 21 rfl hF hS (y_fieldOwn hF rfl fa_68_0) (fun a hF => ?_)
              refine d_1 22 (by kernel_rfl) ?_
              refine d_op rfl rfl (e_store rfl hF hW rfl rfl 5 rfl rfl rfl sz_64 ?_)
              intro wc hW
              refine ⟨(((((hW.del 0 rfl).del 0 rfl).del 0 rfl).del 1 rfl).del 1 rfl), ?_⟩
              replace hS := (((((hW.del 0 rfl).del 0 rfl).del 0 rfl).del 1 rfl).del 1 rfl)
              clear hS
              refine d_nil (by kernel_rfl) ?_
              replace hF := (hF.k 0 rfl (hF.k 1 rfl (hF.k 2 rfl (hF.k 3 rfl (hF.k 4 rfl (hF.k 18 rfl hF.nil))))))
              refine b_n ?_
              replace hW := hW.del 0 rfl
              replace hW := hW.front 8 rfl rfl
              replace hW := hW.front 8 rfl rfl
              replace hW := hW.front 8 rfl rfl
              replace hW := hW.front 8 rfl rfl
              replace hW := hW.front 8 rfl rfl
              replace hW := hW.front 8 rfl rfl
              replace hW := hW.front 8 rfl rfl
              replace hW := hW.front 7 rfl rfl
              replace hW := hW.front 8 rfl rfl
              refine t_n ?_
              refine ⟨(((x.parts.getD k P0).1, PX.mk A109 c110 A112 c113), A115, c116), ?_, ?_, ?_⟩
              · exact Fr.app (Fr.nil hF) (Fr.cons hF (t := 0) rfl rfl (Fr.cons hF (t := 1) rfl rfl (Fr.cons hF (t := 2) rfl rfl (Fr.cons hF (t := 3) rfl rfl (Fr.cons hF (t := 4) rfl rfl (Fr.cons hF (t := 18) rfl rfl (Fr.nil hF)))))))
              · exact hW.rows2 fun u h1 h2 h3 p hp => (List.mem_append.1 hp).elim (h3 p) fun h => by rw [List.mem_singleton.1 h]; exact ⟨Flat.of_own h1 rfl, Ints.of_own h2⟩
              · rfl
            · refine d_op rfl rfl (e_buildSlice hF hW rfl (fun w => bs_SysOwn_22_0_  w) rfl rfl rfl ?_)
              intro b117 a wc hF hW
              refine ⟨((((hW.del 0 rfl).del 0 rfl).del 1 rfl).del 1 rfl), ?_⟩
              replace hS := ((((hW.del 0 rfl).del 0 rfl).del 1 rfl).del 1 rfl)
              refine d_1 9 (by kernel_rfl) ?_
              replace hW := hW.blk_row 1 rfl 4 0 rfl (by simp)
              refine d_op rfl rfl (e_append hF hW 1 rfl rfl rfl Try.underlying40 inf_95 rfl (by decide) (((hx.part (k := k) (by omega)).below hW.below).code.rowAt) (by exact one_flat Ins.one _) (show _ = (x.parts.getD k P0).1.code.length by omega) (show _ = (x.parts.getD k P0).1.code.flatMap Ins.cells by simp) (by first | omega | (simp; omega)) (by unfold maxLen; first | omega | (simp; omega)) rfl rfl ?_)
              intro A118 c119 a wc hF hW
              refine ⟨((((hW.del 0 rfl).del 0 rfl).del 1 rfl).del 1 rfl), ?_⟩
              replace hS := ((((hW.del 0 rfl).del 0 rfl).del 1 rfl).del 1 rfl)
              refine d_1 17 (by kernel_rfl) ?_
              replace hW := hW.blk_row 0 rfl 1 0 rfl (by simp)
              refine d_op rfl rfl (e_append hF hW 0 rfl rfl rfl Try.underlying22 inf_3 rfl (by decide) (((hx.part (k := k) (by omega)).below hW.below).inp.rowAt) (by exact oneCell_ints _) (show _ = (x.parts.getD k P0).1.inp.length by omega) (show _ = (x.parts.getD k P0).1.inp.map (.int .i64) by simp) (by first | omega | (simp; omega)) (by unfold maxLen; first | omega | (simp; omega)) rfl rfl ?_)
              intro A120 c121 a wc hF hW
              refine ⟨((((hW.del 0 rfl).del 0 rfl).del 1 rfl).del 1 rfl), ?_⟩
              replace hS := ((((hW.del 0 rfl).del 0 rfl).del 1 rfl).del 1 rfl)
              refine dv 18 rfl hF hS (y_build hF rfl (fun w => bu_SysOwn_42_0_1 _ _ _ _ _ _ w)) (fun a hF => ?_)
              refine d_1 19 (by kernel_rfl) ?_
              refine d_op rfl rfl (e_buildSlice hF hW rfl (fun w => bs_SysOwn_64_1_0 _ _ _ _ _ _ w) rfl rfl rfl ?_)
              intro b122 a wc hF hW
              refine ⟨(((((hW.del 0 rfl).del 0 rfl).del 0 rfl).del 1 rfl).del 1 rfl), ?_⟩
              replace hS := (((((hW.del 0 rfl).del 0 rfl).del 0 rfl).del 1 rfl).del 1 rfl)
              refine d_1 20 (by kernel_rfl) ?_
              refine d_op rfl rfl (e_append hF hW 4 rfl rfl rfl Try.underlying64 inf_42 rfl (by decide) (rowAt_blk (hW.blk 0 rfl) 2 1 rfl) (by simp [Value.oneCell']) (show _ = k + 1 by omega) (show _ = (L ++ [((x.parts.getD k P0).1, PX.mk A118 c119 A120 c121)]).flatMap encP by simp [encP]) (by first | omega | (simp; omega)) (by unfold maxLen; first | omega | (simp; omega)) rfl rfl ?_)
              intro A123 c124 a wc hF hW
              refine ⟨(((((hW.del 0 rfl).del 0 rfl).del 0 rfl).del 1 rfl).del 1 rfl), ?_⟩
              replace hS := (((((hW.del 0 rfl).del 0 rfl).del 0 rfl).del 1 rfl).del 1 rfl)
              refine dv 21 rfl hF hS (y_fieldOwn hF rfl fa_68_0) (fun a hF => ?_)
              refine d_1 22 (by kernel_rfl) ?_
              refine d_op rfl rfl (e_store rfl hF hW rfl rfl 5 rfl rfl rfl sz_64 ?_)
              intro wc hW
              refine ⟨(((((hW.del 0 rfl).del 0 rfl).del 0 rfl).del 1 rfl).del 1 rfl), ?_⟩
              replace hS := (((((hW.del 0 rfl).del 0 rfl).del 0 rfl).del 1 rfl).del 1 rfl)
              clear hS
              refine d_nil (by kernel_rfl) ?_
              replace hF := (hF.k 0 rfl (hF.k 1 rfl (hF.k 2 rfl (hF.k 3 rfl (hF.k 4 rfl (hF.k 18 rfl hF.nil))))))
              refine b_n ?_
              replace hW := hW.del 0 rfl
              replace hW := hW.front 8 rfl rfl
              replace hW := hW.front 8 rfl rfl
              replace hW := hW.front 8 rfl rfl
              replace hW := hW.front 8 rfl rfl
              replace hW := hW.front 8 rfl rfl
              replace hW := hW.front 8 rfl rfl
              replace hW := hW.front 8 rfl rfl
              replace hW := hW.front 7 rfl rfl
              replace hW := hW.front 8 rfl rfl
              refine t_n ?_
              refine ⟨(((x.parts.getD k P0).1, PX.mk A118 c119 A120 c121), A123, c124), ?_, ?_, ?_⟩
              · exact Fr.app (Fr.nil hF) (Fr.cons hF (t := 0) rfl rfl (Fr.cons hF (t := 1) rfl rfl (Fr.cons hF (t := 2) rfl rfl (Fr.cons hF (t := 3) rfl rfl (Fr.cons hF (t := 4) rfl rfl (Fr.cons hF (t := 18) rfl rfl (Fr.nil hF)))))))
              · exact hW.rows2 fun u h1 h2 h3 p hp => (List.mem_append.1 hp).elim (h3 p) fun h => by rw [List.mem_singleton.1 h]; exact ⟨Flat.of_own h1 rfl, Ints.of_own h2⟩
              · rfl
          · replace hW := hW.blk_row 0 rfl 4 0 rfl (by simp)
            refine d_op rfl rfl (e_append hF hW 0 rfl rfl rfl Try.underlying40 inf_95 rfl (by decide) (((hx.part (k := k) (by omega)).below hW.below).code.rowAt) (by exact one_flat Ins.one _) (show _ = (x.parts.getD k P0).1.code.length by omega) (show _ = (x.parts.getD k P0).1.code.flatMap Ins.cells by simp) (by first | omega | (simp; omega)) (by unfold maxLen; first | omega | (simp; omega)) rfl rfl ?_)
            intro A125 c126 a wc hF hW
            refine ⟨(((hW.del 0 rfl).del 1 rfl).del 1 rfl), ?_⟩
            replace hS := (((hW.del 0 rfl).del 1 rfl).del 1 rfl)
            refine d_2 1 10 (by kernel_rfl) ?_ ?_
            · refine d_opval rfl hF rfl hW (y_loadOwn hF rfl 3 rfl rfl Try.underlying64 rfl) rfl rfl (fun a hF => ?_)
              refine ⟨(((hW.del 0 rfl).del 1 rfl).del 1 rfl), ?_⟩
              replace hS := (((hW.del 0 rfl).del 1 rfl).del 1 rfl)
              refine d_1 10 (by kernel_rfl) ?_
              refine d_op rfl rfl (e_buildSlice hF hW rfl (fun w => bs_SysOwn_22_0_  w) rfl rfl rfl ?_)
              intro b127 a wc hF hW
              refine ⟨((((hW.del 0 rfl).del 0 rfl).del 1 rfl).del 1 rfl), ?_⟩
              replace hS := ((((hW.del 0 rfl).del 0 rfl).del 1 rfl).del 1 rfl)
              refine d_1 17 (by kernel_rfl) ?_
              replace hW := hW.blk_row 0 rfl 1 0 rfl (by simp)
              refine d_op rfl rfl (e_append hF hW 0 rfl rfl rfl Try.underlying22 inf_3 rfl (by decide) (((hx.part (k := k) (by omega)).below hW.below).inp.rowAt) (by exact oneCell_ints _) (show _ = (x.parts.getD k P0).1.inp.length by omega) (show _ = (x.parts.getD k P0).1.inp.map (.int .i64) by simp) (by first | omega | (simp; omega)) (by unfold maxLen; first | omega | (simp; omega)) rfl rfl ?_)
              intro A128 c129 a wc hF hW
              refine ⟨((((hW.del 0 rfl).del 0 rfl).del 1 rfl).del 1 rfl), ?_⟩
              replace hS := ((((hW.del 0 rfl).del 0 rfl).del 1 rfl).del 1 rfl)
              refine dv 18 rfl hF hS (y_build hF rfl (fun w => bu_SysOwn_42_0_1 _ _ _ _ _ _ w)) (fun a hF => ?_)
              refine d_1 19 (by kernel_rfl) ?_
              refine d_op rfl rfl (e_buildSlice hF hW rfl (fun w => bs_SysOwn_64_1_0 _ _ _ _ _ _ w) rfl rfl rfl ?_)
              intro b130 a wc hF hW
              refine ⟨(((((hW.del 0 rfl).del 0 rfl).del 0 rfl).del 1 rfl).del 1 rfl), ?_⟩
              replace hS := (((((hW.del 0 rfl).del 0 rfl).del 0 rfl).del 1 rfl).del 1 rfl)
              refine d_1 20 (by kernel_rfl) ?_
              refine d_op rfl rfl (e_append hF hW 4 rfl rfl rfl Try.underlying64 inf_42 rfl (by decide) (rowAt_blk (hW.blk 0 rfl) 2 1 rfl) (by simp [Value.oneCell']) (show _ = k + 1 by omega) (show _ = (L ++ [((x.parts.getD k P0).1, PX.mk A125 c126 A128 c129)]).flatMap encP by simp [encP]) (by first | omega | (simp; omega)) (by unfold maxLen; first | omega | (simp; omega)) rfl rfl ?_)
              intro A131 c132 a wc hF hW
              refine ⟨(((((hW.del 0 rfl).del 0 rfl).del 0 rfl).del 1 rfl).del 1 rfl), ?_⟩
              replace hS := (((((hW.del 0 rfl).del 0 rfl).del 0 rfl).del 1 rfl).del 1 rfl)
              refine dv 21 rfl hF hS (y_fieldOwn hF rfl fa_68_0) (fun a hF => ?_)
              refine d_1 22 (by kernel_rfl) ?_
              refine d_op rfl rfl (e_store rfl hF hW rfl rfl 5 rfl rfl rfl sz_64 ?_)
              intro wc hW
              refine ⟨(((((hW.del 0 rfl).del 0 rfl).del 0 rfl).del 1 rfl).del 1 rfl), ?_⟩
              replace hS := (((((hW.del 0 rfl).del 0 rfl).del 0 rfl).del 1 rfl).del 1 rfl)
              clear hS
              refine d_nil (by kernel_rfl) ?_
              replace hF := (hF.k 0 rfl (hF.k 1 rfl (hF.k 2 rfl (hF.k 3 rfl (hF.k 4 rfl (hF.k 18 rfl hF.nil))))))
              refine b_n ?_
              replace hW := hW.del 0 rfl
              replace hW := hW.front 8 rfl rfl
              replace hW := hW.front 8 rfl rfl
              replace hW := hW.front 8 rfl rfl
              replace hW := hW.front 8 rfl rfl
              replace hW := hW.front 8 rfl rfl
              replace hW := hW.front 8 rfl rfl
              replace hW := hW.front 8 rfl rfl
              replace hW := hW.front 7 rfl rfl
              replace hW := hW.front 8 rfl rfl
              refine t_n ?_
              refine ⟨(((x.parts.getD k P0).1, PX.mk A125 c126 A128 c129), A131, c132), ?_, ?_, ?_⟩
              · exact Fr.app (Fr.nil hF) (Fr.cons hF (t := 0) rfl rfl (Fr.cons hF (t := 1) rfl rfl (Fr.cons hF (t := 2) rfl rfl (Fr.cons hF (t := 3) rfl rfl (Fr.cons hF (t := 4) rfl rfl (Fr.cons hF (t := 18) rfl rfl (Fr.nil hF)))))))
              · exact hW.rows2 fun u h1 h2 h3 p hp => (List.mem_append.1 hp).elim (h3 p) fun h => by rw [List.mem_singleton.1 h]; exact ⟨Flat.of_own h1 rfl, Ints.of_own h2⟩
              · rfl
            · refine d_op rfl rfl (e_buildSlice hF hW rfl (fun w => bs_SysOwn_22_0_  w) rfl rfl rfl ?_)
              intro b133 a wc hF hW
              refine ⟨((((hW.del 0 rfl).del 0 rfl).del 1 rfl).del 1 rfl), ?_⟩
              replace hS := ((((hW.del 0 rfl).del 0 rfl).del 1 rfl).del 1 rfl)
              refine d_2 1 17 (by kernel_rfl) ?_ ?_
              · refine d_opval rfl hF rfl hW (y_loadOwn hF rfl 4 rfl rfl Try.underlying64 rfl) rfl rfl (fun a hF => ?_)
                refine ⟨((((hW.del 0 rfl).del 0 rfl).del 1 rfl).del 1 rfl), ?_⟩
                replace hS := ((((hW.del 0 rfl).del 0 rfl).del 1 rfl).del 1 rfl)
                refine d_1 17 (by kernel_rfl) ?_
                replace hW := hW.blk_row 0 rfl 1 0 rfl (by simp)
                refine d_op rfl rfl (e_append hF hW 0 rfl rfl rfl Try.underlying22 inf_3 rfl (by decide) (((hx.part (k := k) (by omega)).below hW.below).inp.rowAt) (by exact oneCell_ints _) (show _ = (x.parts.getD k P0).1.inp.length by omega) (show _ = (x.parts.getD k P0).1.inp.map (.int .i64) by simp) (by first | omega | (simp; omega)) (by unfold maxLen; first | omega | (simp; omega)) rfl rfl ?_)
                intro A134 c135 a wc hF hW
                refine ⟨((((hW.del 0 rfl).del 0 rfl).del 1 rfl).del 1 rfl), ?_⟩
                replace hS := ((((hW.del 0 rfl).del 0 rfl).del 1 rfl).del 1 rfl)
                refine dv 18 rfl hF hS (y_build hF rfl (fun w => bu_SysOwn_42_0_1 _ _ _ _ _ _ w)) (fun a hF => ?_)
                refine d_1 19 (by kernel_rfl) ?_
                refine d_op rfl rfl (e_buildSlice hF hW rfl (fun w => bs_SysOwn_64_1_0 _ _ _ _ _ _ w) rfl rfl rfl ?_)
                intro b136 a wc hF hW
                refine ⟨(((((hW.del 0 rfl).del 0 rfl).del 0 rfl).del 1 rfl).del 1 rfl), ?_⟩
                replace hS := (((((hW.del 0 rfl).del 0 rfl).del 0 rfl).del 1 rfl).del 1 rfl)
                refine d_1 20 (by kernel_rfl) ?_
                refine d_op rfl rfl (e_append hF hW 4 rfl rfl rfl Try.underlying64 inf_42 rfl (by decide) (rowAt_blk (hW.blk 0 rfl) 2 1 rfl) (by simp [Value.oneCell']) (show _ = k + 1 by omega) (show _ = (L ++ [((x.parts.getD k P0).1, PX.mk A125 c126 A134 c135)]).flatMap encP by simp [encP]) (by first | omega | (simp; omega)) (by unfold maxLen; first | omega | (simp; omega)) rfl rfl ?_)
                intro A137 c138 a wc hF hW
                refine ⟨(((((hW.del 0 rfl).del 0 rfl).del 0 rfl).del 1 rfl).del 1 rfl), ?_⟩
                replace hS := (((((hW.del 0 rfl).del 0 rfl).del 0 rfl).del 1 rfl).del 1 rfl)
                refine dv 21 rfl hF hS (y_fieldOwn hF rfl fa_68_0) (fun a hF => ?_)
                refine d_1 22 (by kernel_rfl) ?_
                refine d_op rfl rfl (e_store rfl hF hW rfl rfl 5 rfl rfl rfl sz_64 ?_)
                intro wc hW
                refine ⟨(((((hW.del 0 rfl).del 0 rfl).del 0 rfl).del 1 rfl).del 1 rfl), ?_⟩
                replace hS := (((((hW.del 0 rfl).del 0 rfl).del 0 rfl).del 1 rfl).del 1 rfl)
                clear hS
                refine d_nil (by kernel_rfl) ?_
                replace hF := (hF.k 0 rfl (hF.k 1 rfl (hF.k 2 rfl (hF.k 3 rfl (hF.k 4 rfl (hF.k 18 rfl hF.nil))))))
                refine b_n ?_
                replace hW := hW.del 0 rfl
                replace hW := hW.front 8 rfl rfl
                replace hW := hW.front 8 rfl rfl
                replace hW := hW.front 8 rfl rfl
                replace hW := hW.front 8 rfl rfl
                replace hW := hW.front 8 rfl rfl
                replace hW := hW.front 8 rfl rfl
                replace hW := hW.front 8 rfl rfl
                replace hW := hW.front 7 rfl rfl
                replace hW := hW.front 8 rfl rfl
                refine t_n ?_
                refine ⟨(((x.parts.getD k P0).1, PX.mk A125 c126 A134 c135), A137, c138), ?_, ?_, ?_⟩
                · exact Fr.app (Fr.nil hF) (Fr.cons hF (t := 0) rfl rfl (Fr.cons hF (t := 1) rfl rfl (Fr.cons hF (t := 2) rfl rfl (Fr.cons hF (t := 3) rfl rfl (Fr.cons hF (t := 4) rfl rfl (Fr.cons hF (t := 18) rfl rfl (Fr.nil hF)))))))
                · exact hW.rows2 fun u h1 h2 h3 p hp => (List.mem_append.1 hp).elim (h3 p) fun h => by rw [List.mem_singleton.1 h]; exact ⟨Flat.of_own h1 rfl, Ints.of_own h2⟩
                · rfl
              · replace hW := hW.blk_row 0 rfl 1 0 rfl (by simp)
                refine d_op rfl rfl (e_append hF hW 0 rfl rfl rfl Try.underlying22 inf_3 rfl (by decide) (((hx.part (k := k) (by omega)).below hW.below).inp.rowAt) (by exact oneCell_ints _) (show _ = (x.parts.getD k P0).1.inp.length by omega) (show _ = (x.parts.getD k P0).1.inp.map (.int .i64) by simp) (by first | omega | (simp; omega)) (by unfold maxLen; first | omega | (simp; omega)) rfl rfl ?_)
                intro A139 c140 a wc hF hW
                refine ⟨((((hW.del 0 rfl).del 0 rfl).del 1 rfl).del 1 rfl), ?_⟩
                replace hS := ((((hW.del 0 rfl).del 0 rfl).del 1 rfl).del 1 rfl)
                refine dv 18 rfl hF hS (y_build hF rfl (fun w => bu_SysOwn_42_0_1 _ _ _ _ _ _ w)) (fun a hF => ?_)
                refine d_2 1 19 (by kernel_rfl) ?_ ?_
                · refine d_opval rfl hF rfl hW (y_loadOwn hF rfl 4 rfl rfl Try.underlying64 rfl) rfl rfl (fun a hF => ?_)
                  refine ⟨((((hW.del 0 rfl).del 0 rfl).del 1 rfl).del 1 rfl), ?_⟩
                  replace hS := ((((hW.del 0 rfl).del 0 rfl).del 1 rfl).del 1 rfl)
                  refine d_1 19 (by kernel_rfl) ?_
                  refine d_op rfl rfl (e_buildSlice hF hW rfl (fun w => bs_SysOwn_64_1_0 _ _ _ _ _ _ w) rfl rfl rfl ?_)
                  intro b141 a wc hF hW
                  refine ⟨(((((hW.del 0 rfl).del 0 rfl).del 0 rfl).del 1 rfl).del 1 rfl), ?_⟩
                  replace hS := (((((hW.del 0 rfl).del 0 rfl).del 0 rfl).del 1 rfl).del 1 rfl)
                  refine d_1 20 (by kernel_rfl) ?_
                  refine d_op rfl rfl (e_append hF hW 4 rfl rfl rfl Try.underlying64 inf_42 rfl (by decide) (rowAt_blk (hW.blk 0 rfl) 2 1 rfl) (by simp [Value.oneCell']) (show _ = k + 1 by omega) (show _ = (L ++ [((x.parts.getD k P0).1, PX.mk A125 c126 A139 c140)]).flatMap encP by simp [encP]) (by first | omega | (simp; omega)) (by unfold maxLen; first | omega | (simp; omega)) rfl rfl ?_)
                  intro A142 c143 a wc hF hW
                  refine ⟨(((((hW.del 0 rfl).del 0 rfl).del 0 rfl).del 1 rfl).del 1 rfl), ?_⟩
                  replace hS := (((((hW.del 0 rfl).del 0 rfl).del 0 rfl).del 1 rfl).del 1 rfl)
                  refine dv 21 rfl hF hS (y_fieldOwn hF rfl fa_68_0) (fun a hF => ?_)
                  refine d_1 22 (by kernel_rfl) ?_
                  refine d_op rfl rfl (e_store rfl hF hW rfl rfl 5 rfl rfl rfl sz_64 ?_)
                  intro wc hW
                  refine ⟨(((((hW.del 0 rfl).del 0 rfl).del 0 rfl).del 1 rfl).del 1 rfl), ?_⟩
                  replace hS := (((((hW.del 0 rfl).del 0 rfl).del 0 rfl).del 1 rfl).del 1 rfl)
                  clear hS
                  refine d_nil (by kernel_rfl) ?_
                  replace hF := (hF.k 0 rfl (hF.k 1 rfl (hF.k 2 rfl (hF.k 3 rfl (hF.k 4 rfl (hF.k 18 rfl hF.nil))))))
                  refine b_n ?_
                  replace hW := hW.del 0 rfl
                  replace hW := hW.front 8 rfl rfl
                  replace hW := hW.front 8 rfl rfl
                  replace hW := hW.front 8 rfl rfl
                  replace hW := hW.front 8 rfl rfl
                  replace hW := hW.front 8 rfl rfl
                  replace hW := hW.front 8 rfl rfl
                  replace hW := hW.front 8 rfl rfl
                  replace hW := hW.front 7 rfl rfl
                  replace hW := hW.front 8 rfl rfl
                  refine t_n ?_
                  refine ⟨(((x.parts.getD k P0).1, PX.mk A125 c126 A139 c140), A142, c143), ?_, ?_, ?_⟩
                  · exact Fr.app (Fr.nil hF) (Fr.cons hF (t := 0) rfl rfl (Fr.cons hF (t := 1) rfl rfl (Fr.cons hF (t := 2) rfl rfl (Fr.cons hF (t := 3) rfl rfl (Fr.cons hF (t := 4) rfl rfl (Fr.cons hF (t := 18) rfl rfl (Fr.nil hF)))))))
                  · exact hW.rows2 fun u h1 h2 h3 p hp => (List.mem_append.1 hp).elim (h3 p) fun h => by rw [List.mem_singleton.1 h]; exact ⟨Flat.of_own h1 rfl, Ints.of_own h2⟩
                  · rfl
                · refine d_op rfl rfl (e_buildSlice hF hW rfl (fun w => bs_SysOwn_64_1_0 _ _ _ _ _ _ w) rfl rfl rfl ?_)
                  intro b144 a wc hF hW
                  refine ⟨(((((hW.del 0 rfl).del 0 rfl).del 0 rfl).del 1 rfl).del 1 rfl), ?_⟩
                  replace hS := (((((hW.del 0 rfl).del 0 rfl).del 0 rfl).del 1 rfl).del 1 rfl)
                  refine d_1 1 (by kernel_rfl) ?_
                  refine d_opval rfl hF rfl hW (y_loadOwn hF rfl 5 rfl rfl Try.underlying64 rfl) rfl rfl (fun a hF => ?_)
                  refine ⟨(((((hW.del 0 rfl).del 0 rfl).del 0 rfl).del 1 rfl).del 1 rfl), ?_⟩
                  replace hS := (((((hW.del 0 rfl).del 0 rfl).del 0 rfl).del 1 rfl).del 1 rfl)
                  refine d_1 20 (by kernel_rfl) ?_
                  refine d_op rfl rfl (e_append hF hW 4 rfl rfl rfl Try.underlying64 inf_42 rfl (by decide) (rowAt_blk (hW.blk 0 rfl) 2 1 rfl) (by simp [Value.oneCell']) (show _ = k + 1 by omega) (show _ = (L ++ [((x.parts.getD k P0).1, PX.mk A125 c126 A139 c140)]).flatMap encP by simp [encP]) (by first | omega | (simp; omega)) (by unfold maxLen; first | omega | (simp; omega)) rfl rfl ?_)
                  intro A145 c146 a wc hF hW
                  refine ⟨(((((hW.del 0 rfl).del 0 rfl).del 0 rfl).del 1 rfl).del 1 rfl), ?_⟩
                  replace hS := (((((hW.del 0 rfl).del 0 rfl).del 0 rfl).del 1 rfl).del 1 rfl)
                  refine dv 21 rfl hF hS (y_fieldOwn hF rfl fa_68_0) (fun a hF => ?_)
                  refine d_1 22 (by kernel_rfl) ?_
                  refine d_op rfl rfl (e_store rfl hF hW rfl rfl 5 rfl rfl rfl sz_64 ?_)
                  intro wc hW
                  refine ⟨(((((hW.del 0 rfl).del 0 rfl).del 0 rfl).del 1 rfl).del 1 rfl), ?_⟩
                  replace hS := (((((hW.del 0 rfl).del 0 rfl).del 0 rfl).del 1 rfl).del 1 rfl)
                  clear hS
                  refine d_nil (by kernel_rfl) ?_
                  replace hF := (hF.k 0 rfl (hF.k 1 rfl (hF.k 2 rfl (hF.k 3 rfl (hF.k 4 rfl (hF.k 18 rfl hF.nil))))))
                  refine b_n ?_
                  replace hW := hW.del 0 rfl
                  replace hW := hW.front 8 rfl rfl
                  replace hW := hW.front 8 rfl rfl
                  replace hW := hW.front 8 rfl rfl
                  replace hW := hW.front 8 rfl rfl
                  replace hW := hW.front 8 rfl rfl
                  replace hW := hW.front 8 rfl rfl
                  replace hW := hW.front 8 rfl rfl
                  replace hW := hW.front 7 rfl rfl
                  replace hW := hW.front 8 rfl rfl
                  refine t_n ?_
                  refine ⟨(((x.parts.getD k P0).1, PX.mk A125 c126 A139 c140), A145, c146), ?_, ?_, ?_⟩
                  · exact Fr.app (Fr.nil hF) (Fr.cons hF (t := 0) rfl rfl (Fr.cons hF (t := 1) rfl rfl (Fr.cons hF (t := 2) rfl rfl (Fr.cons hF (t := 3) rfl rfl (Fr.cons hF (t := 4) rfl rfl (Fr.cons hF (t := 18) rfl rfl (Fr.nil hF)))))))
                  · exact hW.rows2 fun u h1 h2 h3 p hp => (List.mem_append.1 hp).elim (h3 p) fun h => by rw [List.mem_singleton.1 h]; exact ⟨Flat.of_own h1 rfl, Ints.of_own h2⟩
                  · rfl
          · refine d_op rfl rfl (e_buildSlice hF hW rfl (fun w => bs_SysOwn_22_0_  w) rfl rfl rfl ?_)
            intro b147 a wc hF hW
            refine ⟨((((hW.del 0 rfl).del 0 rfl).del 1 rfl).del 1 rfl), ?_⟩
            replace hS := ((((hW.del 0 rfl).del 0 rfl).del 1 rfl).del 1 rfl)
            refine d_2 1 9 (by kernel_rfl) ?_ ?_
            · refine d_opval rfl hF rfl hW (y_loadOwn hF rfl 4 rfl rfl Try.underlying64 rfl) rfl rfl (fun a hF => ?_)
              refine ⟨((((hW.del 0 rfl).del 0 rfl).del 1 rfl).del 1 rfl), ?_⟩
              replace hS := ((((hW.del 0 rfl).del 0 rfl).del 1 rfl).del 1 rfl)
              refine d_1 9 (by kernel_rfl) ?_
              replace hW := hW.blk_row 1 rfl 4 0 rfl (by simp)
              refine d_op rfl rfl (e_append hF hW 1 rfl rfl rfl Try.underlying40 inf_95 rfl (by decide) (((hx.part (k := k) (by omega)).below hW.below).code.rowAt) (by exact one_flat Ins.one _) (show _ = (x.parts.getD k P0).1.code.length by omega) (show _ = (x.parts.getD k P0).1.code.flatMap Ins.cells by simp) (by first | omega | (simp; omega)) (by unfold maxLen; first | omega | (simp; omega)) rfl rfl ?_)
              intro A148 c149 a wc hF hW
              refine ⟨((((hW.del 0 rfl).del 0 rfl).del 1 rfl).del 1 rfl), ?_⟩
              replace hS := ((((hW.del 0 rfl).del 0 rfl).del 1 rfl).del 1 rfl)
              refine d_1 17 (by kernel_rfl) ?_
              replace hW := hW.blk_row 0 rfl 1 0 rfl (by simp)
              refine d_op rfl rfl (e_append hF hW 0 rfl rfl rfl Try.underlying22 inf_3 rfl (by decide) (((hx.part (k := k) (by omega)).below hW.below).inp.rowAt) (by exact oneCell_ints _) (show _ = (x.parts.getD k P0).1.inp.length by omega) (show _ = (x.parts.getD k P0).1.inp.map (.int .i64) by simp) (by first | omega | (simp; omega)) (by unfold maxLen; first | omega | (simp; omega)) rfl rfl ?_)
              intro A150 c151 a wc hF hW
              refine ⟨((((hW.del 0 rfl).del 0 rfl).del 1 rfl).del 1 rfl), ?_⟩
              replace hS := ((((hW.del 0 rfl).del 0 rfl).del 1 rfl).del 1 rfl)
              refine dv 18 rfl hF hS (y_build hF rfl (fun w => bu_SysOwn_42_0_1 _ _ _ _ _ _ w)) (fun a hF => ?_)
              refine d_1 19 (by kernel_rfl) ?_
              refine d_op rfl rfl (e_buildSlice hF hW rfl (fun w => bs_SysOwn_64_1_0 _ _ _ _ _ _ w) rfl rfl rfl ?_)
              intro b152 a wc hF hW
              refine ⟨(((((hW.del 0 rfl).del 0 rfl).del 0 rfl).del 1 rfl).del 1 rfl), ?_⟩
              replace hS := (((((hW.del 0 rfl).del 0 rfl).del 0 rfl).del 1 rfl).del 1 rfl)
              refine d_1 20 (by kernel_rfl) ?_
              refine d_op rfl rfl (e_append hF hW 4 rfl rfl rfl Try.underlying64 inf_42 rfl (by decide) (rowAt_blk (hW.blk 0 rfl) 2 1 rfl) (by simp [Value.oneCell']) (show _ = k + 1 by omega) (show _ = (L ++ [((x.parts.getD k P0).1, PX.mk A148 c149 A150 c151)]).flatMap encP by simp [encP]) (by first | omega | (simp; omega)) (by unfold maxLen; first | omega | (simp; omega)) rfl rfl ?_)
              intro A153 c154 a wc hF hW
              refine ⟨(((((hW.del 0 rfl).del 0 rfl).del 0 rfl).del 1 rfl).del 1 rfl), ?_⟩
              replace hS := (((((hW.del 0 rfl).del 0 rfl).del 0 rfl).del 1 rfl).del 1 rfl)
              refine dv 21 rfl hF hS (y_fieldOwn hF rfl fa_68_0) (fun a hF => ?_)
              refine d_1 22 (by kernel_rfl) ?_
              refine d_op rfl rfl (e_store rfl hF hW rfl rfl 5 rfl rfl rfl sz_64 ?_)
              intro wc hW
              refine ⟨(((((hW.del 0 rfl).del 0 rfl).del 0 rfl).del 1 rfl).del 1 rfl), ?_⟩
              replace hS := (((((hW.del 0 rfl).del 0 rfl).del 0 rfl).del 1 rfl).del 1 rfl)
              clear hS
              refine d_nil (by kernel_rfl) ?_
              replace hF := (hF.k 0 rfl (hF.k 1 rfl (hF.k 2 rfl (hF.k 3 rfl (hF.k 4 rfl (hF.k 18 rfl hF.nil))))))
              refine b_n ?_
              replace hW := hW.del 0 rfl
              replace hW := hW.front 8 rfl rfl
              replace hW := hW.front 8 rfl rfl
              replace hW := hW.front 8 rfl rfl
              replace hW := hW.front 8 rfl rfl
              replace hW := hW.front 8 rfl rfl
              replace hW := hW.front 8 rfl rfl
              replace hW := hW.front 8 rfl rfl
              replace hW := hW.front 7 rfl rfl
              replace hW := hW.front 8 rfl rfl
              refine t_n ?_
              refine ⟨(((x.parts.getD k P0).1, PX.mk A148 c149 A150 c151), A153, c154), ?_, ?_, ?_⟩
              · exact Fr.app (Fr.nil hF) (Fr.cons hF (t := 0) rfl rfl (Fr.cons hF (t := 1) rfl rfl (Fr.cons hF (t := 2) rfl rfl (Fr.cons hF (t := 3) rfl rfl (Fr.cons hF (t := 4) rfl rfl (Fr.cons hF (t := 18) rfl rfl (Fr.nil hF)))))))
              · exact hW.rows2 fun u h1 h2 h3 p hp => (List.mem_append.1 hp).elim (h3 p) fun h => by rw [List.mem_singleton.1 h]; exact ⟨Flat.of_own h1 rfl, Ints.of_own h2⟩
              · rfl
            · replace hW := hW.blk_row 1 rfl 4 0 rfl (by simp)
              refine d_op rfl rfl (e_append hF hW 1 rfl rfl rfl Try.underlying40 inf_95 rfl (by decide) (((hx.part (k := k) (by omega)).below hW.below).code.rowAt) (by exact one_flat Ins.one _) (show _ = (x.parts.getD k P0).1.code.length by omega) (show _ = (x.parts.getD k P0).1.code.flatMap Ins.cells by simp) (by first | omega | (simp; omega)) (by unfold maxLen; first | omega | (simp; omega)) rfl rfl ?_)
              intro A155 c156 a wc hF hW
              refine ⟨((((hW.del 0 rfl).del 0 rfl).del 1 rfl).del 1 rfl), ?_⟩
              replace hS := ((((hW.del 0 rfl).del 0 rfl).del 1 rfl).del 1 rfl)
              refine d_2 1 17 (by kernel_rfl) ?_ ?_
              · refine d_opval rfl hF rfl hW (y_loadOwn hF rfl 4 rfl rfl Try.underlying64 rfl) rfl rfl (fun a hF => ?_)
                refine ⟨((((hW.del 0 rfl).del 0 rfl).del 1 rfl).del 1 rfl), ?_⟩
                replace hS := ((((hW.del 0 rfl).del 0 rfl).del 1 rfl).del 1 rfl)
                refine d_1 17 (by kernel_rfl) ?_
                replace hW := hW.blk_row 0 rfl 1 0 rfl (by simp)
                refine d_op rfl rfl (e_append hF hW 0 rfl rfl rfl Try.underlying22 inf_3 rfl (by decide) (((hx.part (k := k) (by omega)).below hW.below).inp.rowAt) (by exact oneCell_ints _) (show _ = (x.parts.getD k P0).1.inp.length by omega) (show _ = (x.parts.getD k P0).1.inp.map (.int .i64) by simp) (by first | omega | (simp; omega)) (by unfold maxLen; first | omega | (simp; omega)) rfl rfl ?_)
                intro A157 c158 a wc hF hW
                refine ⟨((((hW.del 0 rfl).del 0 rfl).del 1 rfl).del 1 rfl), ?_⟩
                replace hS := ((((hW.del 0 rfl).del 0 rfl).del 1 rfl).del 1 rfl)
                refine dv 18 rfl hF hS (y_build hF rfl (fun w => bu_SysOwn_42_0_1 _ _ _ _ _ _ w)) (fun a hF => ?_)
                refine d_1 19 (by kernel_rfl) ?_
                refine d_op rfl rfl (e_buildSlice hF hW rfl (fun w => bs_SysOwn_64_1_0 _ _ _ _ _ _ w) rfl rfl rfl ?_)
                intro b159 a wc hF hW
                refine ⟨(((((hW.del 0 rfl).del 0 rfl).del 0 rfl).del 1 rfl).del 1 rfl), ?_⟩
                replace hS := (((((hW.del 0 rfl).del 0 rfl).del 0 rfl).del 1 rfl).del 1 rfl)
                refine d_1 20 (by kernel_rfl) ?_
                refine d_op rfl rfl (e_append hF hW 4 rfl rfl rfl Try.underlying64 inf_42 rfl (by decide) (rowAt_blk (hW.blk 0 rfl) 2 1 rfl) (by simp [Value.oneCell']) (show _ = k + 1 by omega) (show _ = (L ++ [((x.parts.getD k P0).1, PX.mk A155 c156 A157 c158)]).flatMap encP by simp [encP]) (by first | omega | (simp; omega)) (by unfold maxLen; first | omega | (simp; omega)) rfl rfl ?_)
                intro A160 c161 a wc hF hW
                refine ⟨(((((hW.del 0 rfl).del 0 rfl).del 0 rfl).del 1 rfl).del 1 rfl), ?_⟩
                replace hS := (((((hW.del 0 rfl).del 0 rfl).del 0 rfl).del 1 rfl).del 1 rfl)
                refine dv 21 rfl hF hS (y_fieldOwn hF rfl fa_68_0) (fun a hF => ?_)
                refine d_1 22 (by kernel_rfl) ?_
                refine d_op rfl rfl (e_store rfl hF hW rfl rfl 5 rfl rfl rfl sz_64 ?_)
                intro wc hW
                refine ⟨(((((hW.del 0 rfl).del 0 rfl).del 0 rfl).del 1 rfl).del 1 rfl), ?_⟩
                replace hS := (((((hW.del 0 rfl).del 0 rfl).del 0 rfl).del 1 rfl).del 1 rfl)
                clear hS
                refine d_nil (by kernel_rfl) ?_
                replace hF := (hF.k 0 rfl (hF.k 1 rfl (hF.k 2 rfl (hF.k 3 rfl (hF.k 4 rfl (hF.k 18 rfl hF.nil))))))
                refine b_n ?_
                replace hW := hW.del 0 rfl
                replace hW := hW.front 8 rfl rfl
                replace hW := hW.front 8 rfl rfl
                replace hW := hW.front 8 rfl rfl
                replace hW := hW.front 8 rfl rfl
                replace hW := hW.front 8 rfl rfl
                replace hW := hW.front 8 rfl rfl
                replace hW := hW.front 8 rfl rfl
                replace hW := hW.front 7 rfl rfl
                replace hW := hW.front 8 rfl rfl
                refine t_n ?_
                refine ⟨(((x.parts.getD k P0).1, PX.mk A155 c156 A157 c158), A160, c161), ?_, ?_, ?_⟩
                · exact Fr.app (Fr.nil hF) (Fr.cons hF (t := 0) rfl rfl (Fr.cons hF (t := 1) rfl rfl (Fr.cons hF (t := 2) rfl rfl (Fr.cons hF (t := 3) rfl rfl (Fr.cons hF (t := 4) rfl rfl (Fr.cons hF (t := 18) rfl rfl (Fr.nil hF)))))))
                · exact hW.rows2 fun u h1 h2 h3 p hp => (List.mem_append.1 hp).elim (h3 p) fun h => by rw [List.mem_singleton.1 h]; exact ⟨Flat.of_own h1 rfl, Ints.of_own h2⟩
                · rfl
              · replace hW := hW.blk_row 0 rfl 1 0 rfl (by simp)
                refine d_op rfl rfl (e_append hF hW 0 rfl rfl rfl Try.underlying22 inf_3 rfl (by decide) (((hx.part (k := k) (by omega)).below hW.below).inp.rowAt) (by exact oneCell_ints _) (show _ = (x.parts.getD k P0).1.inp.length by omega) (show _ = (x.parts.getD k P0).1.inp.map (.int .i64) by simp) (by first | omega | (simp; omega)) (by unfold maxLen; first | omega | (simp; omega)) rfl rfl ?_)
                intro A162 c163 a wc hF hW
                refine ⟨((((hW.del 0 rfl).del 0 rfl).del 1 rfl).del 1 rfl), ?_⟩
                replace hS := ((((hW.del 0 rfl).del 0 rfl).del 1 rfl).del 1 rfl)
                refine dv 18 rfl hF hS (y_build hF rfl (fun w => bu_SysOwn_42_0_1 _ _ _ _ _ _ w)) (fun a hF => ?_)
                refine d_2 1 19 (by kernel_rfl) ?_ ?_
                · refine d_opval rfl hF rfl hW (y_loadOwn hF rfl 4 rfl rfl Try.underlying64 rfl) rfl rfl (fun a hF => ?_)
                  refine ⟨((((hW.del 0 rfl).del 0 rfl).del 1 rfl).del 1 rfl), ?_⟩
                  replace hS := ((((hW.del 0 rfl).del 0 rfl).del 1 rfl).del 1 rfl)
                  refine d_1 19 (by kernel_rfl) ?_
                  refine d_op rfl rfl (e_buildSlice hF hW rfl (fun w => bs_SysOwn_64_1_0 _ _ _ _ _ _ w) rfl rfl rfl ?_)
                  intro b164 a wc hF hW
                  refine ⟨(((((hW.del 0 rfl).del 0 rfl).del 0 rfl).del 1 rfl).del 1 rfl), ?_⟩
                  replace hS := (((((hW.del 0 rfl).del 0 rfl).del 0 rfl).del 1 rfl).del 1 rfl)
                  refine d_1 20 (by kernel_rfl) ?_
                  refine d_op rfl rfl (e_append hF hW 4 rfl rfl rfl Try.underlying64 inf_42 rfl (by decide) (rowAt_blk (hW.blk 0 rfl) 2 1 rfl) (by simp [Value.oneCell']) (show _ = k + 1 by omega) (show _ = (L ++ [((x.parts.getD k P0).1, PX.mk A155 c156 A162 c163)]).flatMap encP by simp [encP]) (by first | omega | (simp; omega)) (by unfold maxLen; first | omega | (simp; omega)) rfl rfl ?_)
                  intro A165 c166 a wc hF hW
                  refine ⟨(((((hW.del 0 rfl).del 0 rfl).del 0 rfl).del 1 rfl).del 1 rfl), ?_⟩
                  replace hS := (((((hW.del 0 rfl).del 0 rfl).del 0 rfl).del 1 rfl).del 1 rfl)
                  refine dv 21 rfl hF hS (y_fieldOwn hF rfl fa_68_0) (fun a hF => ?_)
                  refine d_1 22 (by kernel_rfl) ?_
                  refine d_op rfl rfl (e_store rfl hF hW rfl rfl 5 rfl rfl rfl sz_64 ?_)
                  intro wc hW
                  refine ⟨(((((hW.del 0 rfl).del 0 rfl).del 0 rfl).del 1 rfl).del 1 rfl), ?_⟩
                  replace hS := (((((hW.del 0 rfl).del 0 rfl).del 0 rfl).del 1 rfl).del 1 rfl)
                  clear hS
                  refine d_nil (by kernel_rfl) ?_
                  replace hF := (hF.k 0 rfl (hF.k 1 rfl (hF.k 2 rfl (hF.k 3 rfl (hF.k 4 rfl (hF.k 18 rfl hF.nil))))))
                  refine b_n ?_
                  replace hW := hW.del 0 rfl
                  replace hW := hW.front 8 rfl rfl
                  replace hW := hW.front 8 rfl rfl
                  replace hW := hW.front 8 rfl rfl
                  replace hW := hW.front 8 rfl rfl
                  replace hW := hW.front 8 rfl rfl
                  replace hW := hW.front 8 rfl rfl
                  replace hW := hW.front 8 rfl rfl
                  replace hW := hW.front 7 rfl rfl
                  replace hW := hW.front 8 rfl rfl
                  refine t_n ?_
                  refine ⟨(((x.parts.getD k P0).1, PX.mk A155 c156 A162 c163), A165, c166), ?_, ?_, ?_⟩
                  · exact Fr.app (Fr.nil hF) (Fr.cons hF (t := 0) rfl rfl (Fr.cons hF (t := 1) rfl rfl (Fr.cons hF (t := 2) rfl rfl (Fr.cons hF (t := 3) rfl rfl (Fr.cons hF (t := 4) rfl rfl (Fr.cons hF (t := 18) rfl rfl (Fr.nil hF)))))))
                  · exact hW.rows2 fun u h1 h2 h3 p hp => (List.mem_append.1 hp).elim (h3 p) fun h => by rw [List.mem_singleton.1 h]; exact ⟨Flat.of_own h1 rfl, Ints.of_own h2⟩
                  · rfl
                · refine d_op rfl rfl (e_buildSlice hF hW rfl (fun w => bs_SysOwn_64_1_0 _ _ _ _ _ _ w) rfl rfl rfl ?_)
                  intro b167 a wc hF hW
                  refine ⟨(((((hW.del 0 rfl).del 0 rfl).del 0 rfl).del 1 rfl).del 1 rfl), ?_⟩
                  replace hS := (((((hW.del 0 rfl).del 0 rfl).del 0 rfl).del 1 rfl).del 1 rfl)
                  refine d_1 1 (by kernel_rfl) ?_
                  refine d_opval rfl hF rfl hW (y_loadOwn hF rfl 5 rfl rfl Try.underlying64 rfl) rfl rfl (fun a hF => ?_)
                  refine ⟨(((((hW.del 0 rfl).del 0 rfl).del 0 rfl).del 1 rfl).del 1 rfl), ?_⟩
                  replace hS := (((((hW.del 0 rfl).del 0 rfl).del 0 rfl).del 1 rfl).del 1 rfl)
                  refine d_1 20 (by kernel_rfl) ?_
                  refine d_op rfl rfl (e_append hF hW 4 rfl rfl rfl Try.underlying64 inf_42 rfl (by decide) (rowAt_blk (hW.blk 0 rfl) 2 1 rfl) (by simp [Value.oneCell']) (show _ = k + 1 by omega) (show _ = (L ++ [((x.parts.getD k P0).1, PX.mk A155 c156 A162 c163)]).flatMap encP by simp [encP]) (by first | omega | (simp; omega)) (by unfold maxLen; first | omega | (simp; omega)) rfl rfl ?_)
                  intro A168 c169 a wc hF hW
                  refine ⟨(((((hW.del 0 rfl).del 0 rfl).del 0 rfl).del 1 rfl).del 1 rfl), ?_⟩
                  replace hS := (((((hW.del 0 rfl).del 0 rfl).del 0 rfl).del 1 rfl).del 1 rfl)
                  refine dv 21 rfl hF hS (y_fieldOwn hF rfl fa_68_0) (fun a hF => ?_)
                  refine d_1 22 (by kernel_rfl) ?_
                  refine d_op rfl rfl (e_store rfl hF hW rfl rfl 5 rfl rfl rfl sz_64 ?_)
                  intro wc hW
                  refine ⟨(((((hW.del 0 rfl).del 0 rfl).del 0 rfl).del 1 rfl).del 1 rfl), ?_⟩
                  replace hS := (((((hW.del 0 rfl).del 0 rfl).del 0 rfl).del 1 rfl).del 1 rfl)
                  clear hS
                  refine d_nil (by kernel_rfl) ?_
                  replace hF := (hF.k 0 rfl (hF.k 1 rfl (hF.k 2 rfl (hF.k 3 rfl (hF.k 4 rfl (hF.k 18 rfl hF.nil))))))
                  refine b_n ?_
                  replace hW := hW.del 0 rfl
                  replace hW := hW.front 8 rfl rfl
                  replace hW := hW.front 8 rfl rfl
                  replace hW := hW.front 8 rfl rfl
                  replace hW := hW.front 8 rfl rfl
                  replace hW := hW.front 8 rfl rfl
                  replace hW := hW.front 8 rfl rfl
                  replace hW := hW.front 8 rfl rfl
                  replace hW := hW.front 7 rfl rfl
                  replace hW := hW.front 8 rfl rfl
                  refine t_n ?_
                  refine ⟨(((x.parts.getD k P0).1, PX.mk A155 c156 A162 c163), A168, c169), ?_, ?_, ?_⟩
                  · exact Fr.app (Fr.nil hF) (Fr.cons hF (t := 0) rfl rfl (Fr.cons hF (t := 1) rfl rfl (Fr.cons hF (t := 2) rfl rfl (Fr.cons hF (t := 3) rfl rfl (Fr.cons hF (t := 4) rfl rfl (Fr.cons hF (t := 18) rfl rfl (Fr.nil hF)))))))
                  · exact hW.rows2 fun u h1 h2 h3 p hp => (List.mem_append.1 hp).elim (h3 p) fun h => by rw [List.mem_singleton.1 h]; exact ⟨Flat.of_own h1 rfl, Ints.of_own h2⟩
                  · rfl
        · refine d_op rfl rfl (e_buildSlice hF hW rfl (fun w => bs_SysOwn_22_0_  w) rfl rfl rfl ?_)
          intro b170 a wc hF hW
          refine ⟨(((hW.del 0 rfl).del 1 rfl).del 1 rfl), ?_⟩
          replace hS := (((hW.del 0 rfl).del 1 rfl).del 1 rfl)
          refine d_2 1 2 (by kernel_rfl) ?_ ?_
          · refine d_opval rfl hF rfl hW (y_loadOwn hF rfl 3 rfl rfl Try.underlying64 rfl) rfl rfl (fun a hF => ?_)
            refine ⟨(((hW.del 0 rfl).del 1 rfl).del 1 rfl), ?_⟩
            replace hS := (((hW.del 0 rfl).del 1 rfl).del 1 rfl)
            refine d_1 2 (by kernel_rfl) ?_
            refine d_op rfl rfl (e_buildSlice hF hW rfl (fun w => bs_SysOwn_40_0_  w) rfl rfl rfl ?_)
            intro b171 a wc hF hW
            refine ⟨((((hW.del 0 rfl).del 0 rfl).del 1 rfl).del 1 rfl), ?_⟩
            replace hS := ((((hW.del 0 rfl).del 0 rfl).del 1 rfl).del 1 rfl)
            refine d_1 9 (by kernel_rfl) ?_
            replace hW := hW.blk_row 0 rfl 4 0 rfl (by simp)
            refine d_op rfl rfl (e_append hF hW 0 rfl rfl rfl Try.underlying40 inf_95 rfl (by decide) (((hx.part (k := k) (by omega)).below hW.below).code.rowAt) (by exact one_flat Ins.one _) (show _ = (x.parts.getD k P0).1.code.length by omega) (show _ = (x.parts.getD k P0).1.code.flatMap Ins.cells by simp) (by first | omega | (simp; omega)) (by unfold maxLen; first | omega | (simp; omega)) rfl rfl ?_)
            intro A172 c173 a wc hF hW
            refine ⟨((((hW.del 0 rfl).del 0 rfl).del 1 rfl).del 1 rfl), ?_⟩
            replace hS := ((((hW.del 0 rfl).del 0 rfl).del 1 rfl).del 1 rfl)
            refine d_1 17 (by kernel_rfl) ?_
            replace hW := hW.blk_row 1 rfl 1 0 rfl (by simp)
            refine d_op rfl rfl (e_append hF hW 1 rfl rfl rfl Try.underlying22 inf_3 rfl (by decide) (((hx.part (k := k) (by omega)).below hW.below).inp.rowAt) (by exact oneCell_ints _) (show _ = (x.parts.getD k P0).1.inp.length by omega) (show _ = (x.parts.getD k P0).1.inp.map (.int .i64) by simp) (by first | omega | (simp; omega)) (by unfold maxLen; first | omega | (simp; omega)) rfl rfl ?_)
            intro A174 c175 a wc hF hW
            refine ⟨((((hW.del 0 rfl).del 0 rfl).del 1 rfl).del 1 rfl), ?_⟩
            replace hS := ((((hW.del 0 rfl).del 0 rfl).del 1 rfl).del 1 rfl)
            refine dv 18 rfl hF hS (y_build hF rfl (fun w => bu_SysOwn_42_0_1 _ _ _ _ _ _ w)) (fun a hF => ?_)
            refine d_1 19 (by kernel_rfl) ?_
            refine d_op rfl rfl (e_buildSlice hF hW rfl (fun w => bs_SysOwn_64_1_0 _ _ _ _ _ _ w) rfl rfl rfl ?_)
            intro b176 a wc hF hW
            refine ⟨(((((hW.del 0 rfl).del 0 rfl).del 0 rfl).del 1 rfl).del 1 rfl), ?_⟩
            replace hS := (((((hW.del 0 rfl).del 0 rfl).del 0 rfl).del 1 rfl).del 1 rfl)
            refine d_1 20 (by kernel_rfl) ?_
            refine d_op rfl rfl (e_append hF hW 4 rfl rfl rfl Try.underlying64 inf_42 rfl (by decide) (rowAt_blk (hW.blk 0 rfl) 2 1 rfl) (by simp [Value.oneCell']) (show _ = k + 1 by omega) (show _ = (L ++ [((x.parts.getD k P0).1, PX.mk A172 c173 A174 c175)]).flatMap encP by simp [encP]) (by first | omega | (simp; omega)) (by unfold maxLen; first | omega | (simp; omega)) rfl rfl ?_)
            intro A177 c178 a wc hF hW
            refine ⟨(((((hW.del 0 rfl).del 0 rfl).del 0 rfl).del 1 rfl).del 1 rfl), ?_⟩
            replace hS := (((((hW.del 0 rfl).del 0 rfl).del 0 rfl).del 1 rfl).del 1 rfl)
            refine dv 21 rfl hF hS (y_fieldOwn hF rfl fa_68_0) (fun a hF => ?_)
            refine d_1 22 (by kernel_rfl) ?_
            refine d_op rfl rfl (e_store rfl hF hW rfl rfl 5 rfl rfl rfl sz_64 ?_)
            intro wc hW
            refine ⟨(((((hW.del 0 rfl).del 0 rfl).del 0 rfl).del 1 rfl).del 1 rfl), ?_⟩
            replace hS := (((((hW.del 0 rfl).del 0 rfl).del 0 rfl).del 1 rfl).del 1 rfl)
            clear hS
            refine d_nil (by kernel_rfl) ?_
            replace hF := (hF.k 0 rfl (hF.k 1 rfl (hF.k 2 rfl (hF.k 3 rfl (hF.k 4 rfl (hF.k 18 rfl hF.nil))))))
            refine b_n ?_
            replace hW := hW.del 0 rfl
            refine t_n ?_
            refine ⟨(((x.parts.getD k P0).1, PX.mk A172 c173 A174 c175), A177, c178), ?_, ?_, ?_⟩
            · exact Fr.app (Fr.nil hF) (Fr.cons hF (t := 0) rfl rfl (Fr.cons hF (t := 1) rfl rfl (Fr.cons hF (t := 2) rfl rfl (Fr.cons hF (t := 3) rfl rfl (Fr.cons hF (t := 4) rfl rfl (Fr.cons hF (t := 18) rfl rfl (Fr.nil hF)))))))
            · exact hW.rows2 fun u h1 h2 h3 p hp => (List.mem_append.1 hp).elim (h3 p) fun h => by rw [List.mem_singleton.1 h]; exact ⟨Flat.of_own h1 rfl, Ints.of_own h2⟩
            · rfl
          · refine d_op rfl rfl (e_buildSlice hF hW rfl (fun w => bs_SysOwn_40_0_  w) rfl rfl rfl ?_)
            intro b179 a wc hF hW
            refine ⟨((((hW.del 0 rfl).del 0 rfl).del 1 rfl).del 1 rfl), ?_⟩
            replace hS := ((((hW.del 0 rfl).del 0 rfl).del 1 rfl).del 1 rfl)
            refine d_2 1 9 (by kernel_rfl) ?_ ?_
            · refine d_opval rfl hF rfl hW (y_loadOwn hF rfl 4 rfl rfl Try.underlying64 rfl) rfl rfl (fun a hF => ?_)
              refine ⟨((((hW.del 0 rfl).del 0 rfl).del 1 rfl).del 1 rfl), ?_⟩
              replace hS := ((((hW.del 0 rfl).del 0 rfl).del 1 rfl).del 1 rfl)
              refine d_1 9 (by kernel_rfl) ?_
              replace hW := hW.blk_row 0 rfl 4 0 rfl (by simp)
              refine d_op rfl rfl (e_append hF hW 0 rfl rfl rfl Try.underlying40 inf_95 rfl (by decide) (((hx.part (k := k) (by omega)).below hW.below).code.rowAt) (by exact one_flat Ins.one _) (show _ = (x.parts.getD k P0).1.code.length by omega) (show _ = (x.parts.getD k P0).1.code.flatMap Ins.cells by simp) (by first | omega | (simp; omega)) (by unfold maxLen; first | omega | (simp; omega)) rfl rfl ?_)
              intro A180 c181 a wc hF hW
              refine ⟨((((hW.del 0 rfl).del 0 rfl).del 1 rfl).del 1 rfl), ?_⟩
              replace hS := ((((hW.del 0 rfl).del 0 rfl).del 1 rfl).del 1 rfl)
              refine d_1 17 (by kernel_rfl) ?_
              replace hW := hW.blk_row 1 rfl 1 0 rfl (by simp)
              refine d_op rfl rfl (e_append hF hW 1 rfl rfl rfl Try.underlying22 inf_3 rfl (by decide) (((hx.part (k := k) (by omega)).below hW.below).inp.rowAt) (by exact oneCell_ints _) (show _ = (x.parts.getD k P0).1.inp.length by omega) (show _ = (x.parts.getD k P0).1.inp.map (.int .i64) by simp) (by first | omega | (simp; omega)) (by unfold maxLen; first | omega | (simp; omega)) rfl rfl ?_)
              intro A182 c183 a wc hF hW
              refine ⟨((((hW.del 0 rfl).del 0 rfl).del 1 rfl).del 1 rfl), ?_⟩
              replace hS := ((((hW.del 0 rfl).del 0 rfl).del 1 rfl).del 1 rfl)
              refine dv 18 rfl hF hS (y_build hF rfl (fun w => bu_SysOwn_42_0_1 _ _ _ _ _ _ w)) (fun a hF => ?_)
              refine d_1 19 (by kernel_rfl) ?_
              refine d_op rfl rfl (e_buildSlice hF hW rfl (fun w => bs_SysOwn_64_1_0 _ _ _ _ _ _ w) rfl rfl rfl ?_)
              intro b184 a wc hF hW
              refine ⟨(((((hW.del 0 rfl).del 0 rfl).del 0 rfl).del 1 rfl).del 1 rfl), ?_⟩
              replace hS := (((((hW.del 0 rfl).del 0 rfl).del 0 rfl).del 1 rfl).del 1 rfl)
              refine d_1 20 (by kernel_rfl) ?_
              refine d_op rfl rfl (e_append hF hW 4 rfl rfl rfl Try.underlying64 inf_42 rfl (by decide) (rowAt_blk (hW.blk 0 rfl) 2 1 rfl) (by simp [Value.oneCell']) (show _ = k + 1 by omega) (show _ = (L ++ [((x.parts.getD k P0).1, PX.mk A180 c181 A182 c183)]).flatMap encP by simp [encP]) (by first | omega | (simp; omega)) (by unfold maxLen; first | omega | (simp; omega)) rfl rfl ?_)
              intro A185 c186 a wc hF hW
              refine ⟨(((((hW.del 0 rfl).del 0 rfl).del 0 rfl).del 1 rfl).del 1 rfl), ?_⟩
              replace hS := (((((hW.del 0 rfl).del 0 rfl).del 0 rfl).del 1 rfl).del 1 rfl)
              refine dv 21 rfl hF hS (y_fieldOwn hF rfl fa_68_0) (fun a hF => ?_)
              refine d_1 22 (by kernel_rfl) ?_
              refine d_op rfl rfl (e_store rfl hF hW rfl rfl 5 rfl rfl rfl sz_64 ?_)
              intro wc hW
              refine ⟨(((((hW.del 0 rfl).del 0 rfl).del 0 rfl).del 1 rfl).del 1 rfl), ?_⟩
              replace hS := (((((hW.del 0 rfl).del 0 rfl).del 0 rfl).del 1 rfl).del 1 rfl)
              clear hS
              refine d_nil (by kernel_rfl) ?_
              replace hF := (hF.k 0 rfl (hF.k 1 rfl (hF.k 2 rfl (hF.k 3 rfl (hF.k 4 rfl (hF.k 18 rfl hF.nil))))))
              refine b_n ?_
              replace hW := hW.del 0 rfl
              refine t_n ?_
              refine ⟨(((x.parts.getD k P0).1, PX.mk A180 c181 A182 c183), A185, c186), ?_, ?_, ?_⟩
              · exact Fr.app (Fr.nil hF) (Fr.cons hF (t := 0) rfl rfl (Fr.cons hF (t := 1) rfl rfl (Fr.cons hF (t := 2) rfl rfl (Fr.cons hF (t := 3) rfl rfl (Fr.cons hF (t := 4) rfl rfl (Fr.cons hF (t := 18) rfl rfl (Fr.nil hF)))))))
              · exact hW.rows2 fun u h1 h2 h3 p hp => (List.mem_append.1 hp).elim (h3 p) fun h => by rw [List.mem_singleton.1 h]; exact ⟨Flat.of_own h1 rfl, Ints.of_own h2⟩
              · rfl
            · replace hW := hW.blk_row 0 rfl 4 0 rfl (by simp)
              refine d_op rfl rfl (e_append hF hW 0 rfl rfl rfl Try.underlying40 inf_95 rfl (by decide) (((hx.part (k := k) (by omega)).below hW.below).code.rowAt) (by exact one_flat Ins.one _) (show _ = (x.parts.getD k P0).1.code.length by omega) (show _ = (x.parts.getD k P0).1.code.flatMap Ins.cells by simp) (by first | omega | (simp; omega)) (by unfold maxLen; first | omega | (simp; omega)) rfl rfl ?_)
              intro A187 c188 a wc hF hW
              refine ⟨((((hW.del 0 rfl).del 0 rfl).del 1 rfl).del 1 rfl), ?_⟩
              replace hS := ((((hW.del 0 rfl).del 0 rfl).del 1 rfl).del 1 rfl)
              refine d_2 1 17 (by kernel_rfl) ?_ ?_
              · refine d_opval rfl hF rfl hW (y_loadOwn hF rfl 4 rfl rfl Try.underlying64 rfl) rfl rfl (fun a hF => ?_)
                refine ⟨((((hW.del 0 rfl).del 0 rfl).del 1 rfl).del 1 rfl), ?_⟩
                replace hS := ((((hW.del 0 rfl).del 0 rfl).del 1 rfl).del 1 rfl)
                refine d_1 17 (by kernel_rfl) ?_
                replace hW := hW.blk_row 1 rfl 1 0 rfl (by simp)
                refine d_op rfl rfl (e_append hF hW 1 rfl rfl rfl Try.underlying22 inf_3 rfl (by decide) (((hx.part (k := k) (by omega)).below hW.below).inp.rowAt) (by exact oneCell_ints _) (show _ = (x.parts.getD k P0).1.inp.length by omega) (show _ = (x.parts.getD k P0).1.inp.map (.int .i64) by simp) (by first | omega | (simp; omega)) (by unfold maxLen; first | omega | (simp; omega)) rfl rfl ?_)
                intro A189 c190 a wc hF hW
                refine ⟨((((hW.del 0 rfl).del 0 rfl).del 1 rfl).del 1 rfl), ?_⟩
                replace hS := ((((hW.del 0 rfl).del 0 rfl).del 1 rfl).del 1 rfl)
                refine dv 18 rfl hF hS (y_build hF rfl (fun w => bu_SysOwn_42_0_1 _ _ _ _ _ _ w)) (fun a hF => ?_)
                refine d_1 19 (by kernel_rfl) ?_
                refine d_op rfl rfl (e_buildSlice hF hW rfl (fun w => bs_SysOwn_64_1_0 _ _ _ _ _ _ w) rfl rfl rfl ?_)
                intro b191 a wc hF hW
                refine ⟨(((((hW.del 0 rfl).del 0 rfl).del 0 rfl).del 1 rfl).del 1 rfl), ?_⟩
                replace hS := (((((hW.del 0 rfl).del 0 rfl).del 0 rfl).del 1 rfl).del 1 rfl)
                refine d_1 20 (by kernel_rfl) ?_
                refine d_op rfl rfl (e_append hF hW 4 rfl rfl rfl Try.underlying64 inf_42 rfl (by decide) (rowAt_blk (hW.blk 0 rfl) 2 1 rfl) (by simp [Value.oneCell']) (show _ = k + 1 by omega) (show _ = (L ++ [((x.parts.getD k P0).1, PX.mk A187 c188 A189 c190)]).flatMap encP by simp [encP]) (by first | omega | (simp; omega)) (by unfold maxLen; first | omega | (simp; omega)) rfl rfl ?_)
                intro A192 c193 a wc hF hW
                refine ⟨(((((hW.del 0 rfl).del 0 rfl).del 0 rfl).del 1 rfl).del 1 rfl), ?_⟩
                replace hS := (((((hW.del 0 rfl).del 0 rfl).del 0 rfl).del 1 rfl).del 1 rfl)
                refine dv 21 rfl hF hS (y_fieldOwn hF rfl fa_68_0) (fun a hF => ?_)
                refine d_1 22 (by kernel_rfl) ?_
                refine d_op rfl rfl (e_store rfl hF hW rfl rfl 5 rfl rfl rfl sz_64 ?_)
                intro wc hW
                refine ⟨(((((hW.del 0 rfl).del 0 rfl).del 0 rfl).del 1 rfl).del 1 rfl), ?_⟩
                replace hS := (((((hW.del 0 rfl).del 0 rfl).del 0 rfl).del 1 rfl).del 1 rfl)
                clear hS
                refine d_nil (by kernel_rfl) ?_
                replace hF := (hF.k 0 rfl (hF.k 1 rfl (hF.k 2 rfl (hF.k 3 rfl (hF.k 4 rfl (hF.k 18 rfl hF.nil))))))
                refine b_n ?_
                replace hW := hW.del 0 rfl
                refine t_n ?_
                refine ⟨(((x.parts.getD k P0).1, PX.mk A187 c188 A189 c190), A192, c193), ?_, ?_, ?_⟩
                · exact Fr.app (Fr.nil hF) (Fr.cons hF (t := 0) rfl rfl (Fr.cons hF (t := 1) rfl rfl (Fr.cons hF (t := 2) rfl rfl (Fr.cons hF (t := 3) rfl rfl (Fr.cons hF (t := 4) rfl rfl (Fr.cons hF (t := 18) rfl rfl (Fr.nil hF)))))))
                · exact hW.rows2 fun u h1 h2 h3 p hp => (List.mem_append.1 hp).elim (h3 p) fun h => by rw [List.mem_singleton.1 h]; exact ⟨Flat.of_own h1 rfl, Ints.of_own h2⟩
                · rfl
              · replace hW := hW.blk_row 1 rfl 1 0 rfl (by simp)
                refine d_op rfl rfl (e_append hF hW 1 rfl rfl rfl Try.underlying22 inf_3 rfl (by decide) (((hx.part (k := k) (by omega)).below hW.below).inp.rowAt) (by exact oneCell_ints _) (show _ = (x.parts.getD k P0).1.inp.length by omega) (show _ = (x.parts.getD k P0).1.inp.map (.int .i64) by simp) (by first | omega | (simp; omega)) (by unfold maxLen; first | omega | (simp; omega)) rfl rfl ?_)
                intro A194 c195 a wc hF hW
                refine ⟨((((hW.del 0 rfl).del 0 rfl).del 1 rfl).del 1 rfl), ?_⟩
                replace hS := ((((hW.del 0 rfl).del 0 rfl).del 1 rfl).del 1 rfl)
                refine dv 18 rfl hF hS (y_build hF rfl (fun w => bu_SysOwn_42_0_1 _ _ _ _ _ _ w)) (fun a hF => ?_)
                refine d_2 1 19 (by kernel_rfl) ?_ ?_
                · refine d_opval rfl hF rfl hW (y_loadOwn hF rfl 4 rfl rfl Try.underlying64 rfl) rfl rfl (fun a hF => ?_)
                  refine ⟨((((hW.del 0 rfl).del 0 rfl).del 1 rfl).del 1 rfl), ?_⟩
                  replace hS := ((((hW.del 0 rfl).del 0 rfl).del 1 rfl).del 1 rfl)
                  refine d_1 19 (by kernel_rfl) ?_
                  refine d_op rfl rfl (e_buildSlice hF hW rfl (fun w => bs_SysOwn_64_1_0 _ _ _ _ _ _ w) rfl rfl rfl ?_)
                  intro b196 a wc hF hW
                  refine ⟨(((((hW.del 0 rfl).del 0 rfl).del 0 rfl).del 1 rfl).del 1 rfl), ?_⟩
                  replace hS := (((((hW.del 0 rfl).del 0 rfl).del 0 rfl).del 1 rfl).del 1 rfl)
                  refine d_1 20 (by kernel_rfl) ?_
                  refine d_op rfl rfl (e_append hF hW 4 rfl rfl rfl Try.underlying64 inf_42 rfl (by decide) (rowAt_blk (hW.blk 0 rfl) 2 1 rfl) (by simp [Value.oneCell']) (show _ = k + 1 by omega) (show _ = (L ++ [((x.parts.getD k P0).1, PX.mk A187 c188 A194 c195)]).flatMap encP by simp [encP]) (by first | omega | (simp; omega)) (by unfold maxLen; first | omega | (simp; omega)) rfl rfl ?_)
                  intro A197 c198 a wc hF hW
                  refine ⟨(((((hW.del 0 rfl).del 0 rfl).del 0 rfl).del 1 rfl).del 1 rfl), ?_⟩
                  replace hS := (((((hW.del 0 rfl).del 0 rfl).del 0 rfl).del 1 rfl).del 1 rfl)
                  refine dv 21 rfl hF hS (y_fieldOwn hF rfl fa_68_0) (fun a hF => ?_)
                  refine d_1 22 (by kernel_rfl) ?_
                  refine d_op rfl rfl (e_store rfl hF hW rfl rfl 5 rfl rfl rfl sz_64 ?_)
                  intro wc hW
                  refine ⟨(((((hW.del 0 rfl).del 0 rfl).del 0 rfl).del 1 rfl).del 1 rfl), ?_⟩
                  replace hS := (((((hW.del 0 rfl).del 0 rfl).del 0 rfl).del 1 rfl).del 1 rfl)
                  clear hS
                  refine d_nil (by kernel_rfl) ?_
                  replace hF := (hF.k 0 rfl (hF.k 1 rfl (hF.k 2 rfl (hF.k 3 rfl (hF.k 4 rfl (hF.k 18 rfl hF.nil))))))
                  refine b_n ?_
                  replace hW := hW.del 0 rfl
                  refine t_n ?_
                  refine ⟨(((x.parts.getD k P0).1, PX.mk A187 c188 A194 c195), A197, c198), ?_, ?_, ?_⟩
                  · exact Fr.app (Fr.nil hF) (Fr.cons hF (t := 0) rfl rfl (Fr.cons hF (t := 1) rfl rfl (Fr.cons hF (t := 2) rfl rfl (Fr.cons hF (t := 3) rfl rfl (Fr.cons hF (t := 4) rfl rfl (Fr.cons hF (t := 18) rfl rfl (Fr.nil hF)))))))
                  · exact hW.rows2 fun u h1 h2 h3 p hp => (List.mem_append.1 hp).elim (h3 p) fun h => by rw [List.mem_singleton.1 h]; exact ⟨Flat.of_own h1 rfl, Ints.of_own h2⟩
                  · rfl
                · refine d_op rfl rfl (e_buildSlice hF hW rfl (fun w => bs_SysOwn_64_1_0 _ _ _ _ _ _ w) rfl rfl rfl ?_)
                  intro b199 a wc hF hW
                  refine ⟨(((((hW.del 0 rfl).del 0 rfl).del 0 rfl).del 1 rfl).del 1 rfl), ?_⟩
                  replace hS := (((((hW.del 0 rfl).del 0 rfl).del 0 rfl).del 1 rfl).del 1 rfl)
                  refine d_1 1 (by kernel_rfl) ?_
                  refine d_opval rfl hF rfl hW (y_loadOwn hF rfl 5 rfl rfl Try.underlying64 rfl) rfl rfl (fun a hF => ?_)
                  refine ⟨(((((hW.del 0 rfl).del 0 rfl).del 0 rfl).del 1 rfl).del 1 rfl), ?_⟩
                  replace hS := (((((hW.del 0 rfl).del 0 rfl).del 0 rfl).del 1 rfl).del 1 rfl)
                  refine d_1 20 (by kernel_rfl) ?_
                  refine d_op rfl rfl (e_append hF hW 4 rfl rfl rfl Try.underlying64 inf_42 rfl (by decide) (rowAt_blk (hW.blk 0 rfl) 2 1 rfl) (by simp [Value.oneCell']) (show _ = k + 1 by omega) (show _ = (L ++ [((x.parts.getD k P0).1, PX.mk A187 c188 A194 c195)]).flatMap encP by simp [encP]) (by first | omega | (simp; omega)) (by unfold maxLen; first | omega | (simp; omega)) rfl rfl ?_)
                  intro A200 c201 a wc hF hW
                  refine ⟨(((((hW.del 0 rfl).del 0 rfl).del 0 rfl).del 1 rfl).del 1 rfl), ?_⟩
                  replace hS := (((((hW.del 0 rfl).del 0 rfl).del 0 rfl).del 1 rfl).del 1 rfl)
                  refine dv 21 rfl hF hS (y_fieldOwn hF rfl fa_68_0) (fun a hF => ?_)
                  refine d_1 22 (by kernel_rfl) ?_
                  refine d_op rfl rfl (e_store rfl hF hW rfl rfl 5 rfl rfl rfl sz_64 ?_)
                  intro wc hW
                  refine ⟨(((((hW.del 0 rfl).del 0 rfl).del 0 rfl).del 1 rfl).del 1 rfl), ?_⟩
                  replace hS := (((((hW.del 0 rfl).del 0 rfl).del 0 rfl).del 1 rfl).del 1 rfl)
                  clear hS
                  refine d_nil (by kernel_rfl) ?_
                  replace hF := (hF.k 0 rfl (hF.k 1 rfl (hF.k 2 rfl (hF.k 3 rfl (hF.k 4 rfl (hF.k 18 rfl hF.nil))))))
                  refine b_n ?_
                  replace hW := hW.del 0 rfl
                  refine t_n ?_
                  refine ⟨(((x.parts.getD k P0).1, PX.mk A187 c188 A194 c195), A200, c201), ?_, ?_, ?_⟩
                  · exact Fr.app (Fr.nil hF) (Fr.cons hF (t := 0) rfl rfl (Fr.cons hF (t := 1) rfl rfl (Fr.cons hF (t := 2) rfl rfl (Fr.cons hF (t := 3) rfl rfl (Fr.cons hF (t := 4) rfl rfl (Fr.cons hF (t := 18) rfl rfl (Fr.nil hF)))))))
                  · exact hW.rows2 fun u h1 h2 h3 p hp => (List.mem_append.1 hp).elim (h3 p) fun h => by rw [List.mem_singleton.1 h]; exact ⟨Flat.of_own h1 rfl, Ints.of_own h2⟩
                  · rfl
      · clear hF hW
        try clear a
        intro gq a wc hC hF hW
        obtain ⟨q, A', c'⟩ := gq
        dsimp only at hC
        have hq1 := hC
        refine c_r ?_
        refine pv hF hW (y_move hF rfl) (fun a hF => ?_)
        refine pv hF hW (y_add hF rfl rfl (IntWalk.i64_in _ (by omega))) (fun a hF => ?_)
        replace hF := hF.drop 4
        refine pv hF hW (y_assign hF rfl) (fun a hF => ?_)
        refine l_nil ?_
        replace hF := (hF.k 0 rfl (hF.k 1 rfl (hF.k 2 rfl (hF.k 3 rfl (hF.k 4 rfl (hF.k 18 rfl hF.nil))))))
        refine t_n ?_
        refine ⟨(k + 1, L ++ [q], A', c'), ?_, ?_, ?_, ?_⟩
        · exact ⟨by simp [hL], by omega, fun i hi => by rcases Nat.lt_or_ge i k with h | h; rw [getD_app_l (by omega)]; exact hq i h; (have hik : i = k := by omega); rw [hik, ← hL, getD_app_r, hq1, hL]⟩
        · first | omega | (dsimp only; omega)
        · exact Fr.app (Fr.cons hF (t := 4) rfl (by first | rfl | (simp; done) | omega) (Fr.nil hF)) (Fr.cons hF (t := 0) rfl rfl (Fr.cons hF (t := 1) rfl rfl (Fr.cons hF (t := 2) rfl rfl (Fr.cons hF (t := 3) rfl rfl (Fr.nil hF)))))
        · exact hW
    · intro h81 hF
      refine l_nil ?_
      replace hF := (hF.k 0 rfl (hF.k 1 rfl (hF.k 2 rfl (hF.k 3 rfl (hF.k 4 rfl (hF.k 18 rfl hF.nil))))))
      refine t_n ?_
      refine c_f hF rfl ?_
      refine wp_exit ?_
      refine t_x ?_
      refine t_x ?_
      refine b_h ?_
      refine t_n ?_
      refine c_sr ?_
      refine pv hF hW (y_loadAll hF rfl 2 rfl Try.underlying68 rfl sz_68) (fun a hF => ?_)
      refine pe (e_storeAll rfl hF hW rfl rfl 5 rfl rfl rfl (by kernel_rfl) sz_68 ?_)
      intro wc hW
      refine l_nil ?_
      replace hF := (hF.k 0 rfl (hF.k 1 rfl (hF.k 2 rfl (hF.k 3 rfl (hF.k 4 rfl (hF.k 18 rfl hF.nil))))))
      refine t_n ?_
      refine wp_ret ?_
      refine ret1 Try.results61 hF (rv_c hF rfl hW 5 rfl Try.underlying68 rfl sz_68) ?_
      replace hW := hW.del 2 rfl
      replace hW := hW.del 4 rfl
      replace hW := hW.del 4 rfl
      replace hW := hW.front 1 rfl rfl
      replace hW := hW.front 1 rfl rfl
      replace hW := hW.front 3 rfl rfl
      replace hW := hW.front 3 rfl rfl
      obtain rfl : k = x.parts.length := (by omega)
      have e : L.map Prod.fst = x.parts.map Prod.fst := list_eq_getD P0.1 (by simp [hL]) fun i hi => (by rw [getD_map, getD_map]; exact hq i (by simpa [hL] using hi))
      refine ⟨⟨L, A, c, x.chans, A1, c1, x.slots, A2, c2⟩, by simp only [SysD.val, hL], by simp only [SysD.sys, e], ?_⟩
      simp only [hL]
      exact hW.rows2 fun u h1 h2 h3 => ⟨h3, Flat.of_own h1 rfl, Flat.of_own h2 rfl⟩
end Go.Proofs.Ytebklpbbglojmaa
