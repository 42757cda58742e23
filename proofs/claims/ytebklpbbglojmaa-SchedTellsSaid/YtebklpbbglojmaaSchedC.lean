/- The reference's turns, FrameOf and WhoOf; what Frame and Who tell, by them. -/
import Derived.Test.YtebklpbbglojmaaSchedB
namespace Go.Proofs.Ytebklpbbglojmaa
set_option linter.unusedVariables false
set_option linter.unusedSimpArgs false
open Go.ChangeShapes Go.WideShapes Go.ChangeAt Go.RowKit
theorem bs_SchedC_22_1_0 (x0 : Int) (w : World) : (Instr.buildSlice 22 1 #[(0, (.int .i64 x0))]).run Try.prog w = .ok (.slice (some ⟨w.heap.size, 0, none⟩) 1 1) (w.alloc (.cells #[(.int .i64 x0)] 3)) := by kernel_rfl
set_option maxRecDepth 100000

def turnsL (ss : List Slt) : List Int := ss.flatMap fun s => List.replicate s.ticks.toNat s.part
theorem turnsL_snoc {ss : List Slt} {k : Nat} (hk : k < ss.length) : turnsL (ss.take (k + 1)) = turnsL (ss.take k) ++ List.replicate (ss.getD k S0).ticks.toNat (ss.getD k S0).part := by
  unfold turnsL
  rw [List.take_add_one, List.getElem?_eq_getElem hk, List.flatMap_append, List.getD, List.getElem?_eq_getElem hk]
  simp
theorem turnsL_len {ss : List Slt} (h : ∀ k, k < ss.length → 1 ≤ (ss.getD k S0).ticks ∧ (ss.getD k S0).ticks ≤ 8) : ∀ k, k ≤ ss.length → ((turnsL (ss.take k)).length : Int) = tick0 ss k
  | 0, _ => by simp [turnsL, tick0_zero]
  | k + 1, hk => by
    have ih := turnsL_len h k (by omega)
    have := h k (by omega)
    rw [turnsL_snoc (by omega), tick0_succ (by omega), List.length_append, List.length_replicate]
    omega
theorem turnsL_all {ss : List Slt} (h : ∀ k, k < ss.length → 1 ≤ (ss.getD k S0).ticks ∧ (ss.getD k S0).ticks ≤ 8) : ((turnsL ss).length : Int) = tick0 ss ss.length := by
  have := turnsL_len h ss.length (Nat.le_refl _)
  rwa [List.take_of_length_le (Nat.le_refl _)] at this
/-- the slot in which a tick lies tells whose turn it is -/
theorem turn_get {ss : List Slt} (h : ∀ k, k < ss.length → 1 ≤ (ss.getD k S0).ticks ∧ (ss.getD k S0).ticks ≤ 8) {r p : Int} (h0 : 0 ≤ r) (ht : Turn ss r p) : p = (turnsL ss).getD r.toNat 0 := by
  obtain ⟨k, hk, h1, h2, rfl⟩ := ht
  have hl := turnsL_len h k (by omega)
  have hsp : turnsL ss = turnsL (ss.take (k + 1)) ++ turnsL (ss.drop (k + 1)) := by
    unfold turnsL
    rw [← List.flatMap_append, List.take_append_drop]
  rw [tick0_succ hk] at h2
  rw [hsp, turnsL_snoc hk, List.append_assoc]
  generalize ss.getD k S0 = s at *
  rw [List.getD, List.getElem?_append_right (by omega), List.getElem?_append_left (by rw [List.length_replicate]; omega), List.getElem?_replicate_of_lt (by omega)]
  rfl
def whoOf (ss : List Slt) (t : Int) : Int := (turnsL ss).getD (t.tmod (turnsL ss).length).toNat 0
theorem who_val {x : SysD} {w : World} (hx : x.At w) (hk : chkSys x.sys = 0) {t : Int} (ht : 0 ≤ t) : Calls Try.prog 39 #[x.val, .int .i64 t] w fun e w' => e = .returned (.tuple #[.int .i64 (whoOf x.slots t), .int .i64 0]) ∧ Below w.heap.size w w' :=
  (who_good hx hk t ht).mono fun e w' ⟨p, he, hT, hb⟩ => by
    have hs := fun k (h : k < x.slots.length) => (slots_ok hk h).2
    refine ⟨?_, hb⟩
    rw [he, turn_get hs (Int.tmod_nonneg _ ht) hT, ← turnsL_all hs]
    rfl

set_option maxHeartbeats 4000000 in
theorem turns_any {x : SysD} {w : World} (hx : x.At w) (hk : chkSys x.sys = 0) : Calls Try.prog 80 #[x.val] w fun e w' => ∃ A c, e = .returned (.slice A (turnsL x.slots).length c) ∧ Below w.heap.size w w' ∧ OwnRes w w' (fun u => Ints u (.slice A (turnsL x.slots).length c) (turnsL x.slots)) := by
  obtain ⟨_, _, ⟨hl1, hl2⟩, _⟩ := sizes_get (chkSys_zero hk).1
  have hs := fun k (h : k < x.slots.length) => (slots_ok hk h).2
  rw [x.val_eq]
  refine enter Try.func80 rfl Try.ntmps80 rfl (fun a hF => ?_)
  have hW := Wd.start w NoB
  refine c_sr ?_
  refine pe (e_box hF hW rfl rfl rfl rfl ?_)
  intro b1 a wc hF hW
  refine pv hF hW (y_assign hF rfl) (fun a hF => ?_)
  refine l_nil ?_
  refine t_n ?_
  refine c_sr ?_
  refine pv hF hW (y_assign hF rfl) (fun a hF => ?_)
  refine l_nil ?_
  refine t_n ?_
  refine c_s ?_
  refine c_sr ?_
  refine pv hF hW (y_assign hF rfl) (fun a hF => ?_)
  refine l_nil ?_
  refine t_n ?_
  refine wp_block ?_
  replace hW := hW.nil_row 3 1
  refine c_loop (G := Nat × Nat × List Int × Option Addr × Nat) (fun (gq : Nat × Nat × List Int × Option Addr × Nat) => match gq with | ⟨k, m, out, A, c⟩ => [(4, .int .i64 (k : Int)), (3, .slice A m c)]) (fun (gq : Nat × Nat × List Int × Option Addr × Nat) => match gq with | ⟨k, m, out, A, c⟩ => [.row 3 1 (.slice A m c) m (out.map (.int .i64))]) (fun (gq : Nat × Nat × List Int × Option Addr × Nat) => match gq with | ⟨k, m, out, A, c⟩ => k ≤ x.slots.length ∧ out = turnsL (x.slots.take k) ∧ out.length = m ∧ m ≤ 8 * k) (fun (gq : Nat × Nat × List Int × Option Addr × Nat) => match gq with | ⟨k, m, out, A, c⟩ => x.slots.length - k) (0, 0, [], none, 0) (Fr.cons hF (t := 0) rfl rfl (Fr.cons hF (t := 1) rfl rfl (Fr.cons hF (t := 2) rfl rfl (Fr.nil hF)))) (Fr.cons hF (t := 4) rfl (by first | rfl | (simp; done)) (Fr.cons hF (t := 3) rfl (by first | rfl | (simp; done)) (Fr.nil hF))) (hW) ?_ ?_
  · exact ⟨by omega, rfl, rfl, by omega⟩
  clear hF hW
  try clear a
  intro gq a wc hC hF hW
  obtain ⟨k, m, out, A, c⟩ := gq
  dsimp only at hC
  obtain ⟨hk', hout, hm, hm8⟩ := hC
  refine c_s ?_
  refine c_sr ?_
  refine pv hF hW (y_move hF rfl) (fun a hF => ?_)
  refine pv hF hW (y_fieldOwn hF rfl fa_68_2) (fun a hF => ?_)
  refine pv hF hW (y_loadOwn hF rfl 1 rfl rfl Try.underlying66 rfl) (fun a hF => ?_)
  refine pv hF hW (y_len hF rfl Try.underlying66) (fun a hF => ?_)
  refine pv hF hW (y_lss hF rfl rfl) (fun a hF => ?_)
  refine Fr.splitD hF ?_ ?_
  · intro h2 hF
    refine l_nil ?_
    replace hF := (hF.k 0 rfl (hF.k 1 rfl (hF.k 2 rfl (hF.k 3 rfl (hF.k 4 rfl (hF.k 10 rfl hF.nil))))))
    refine t_n ?_
    refine c_t hF rfl ?_
    refine wp_skip ?_
    refine t_n ?_
    refine c_s ?_
    refine wp_block ?_
    have hsk := hs k (by omega)
    refine c_sr ?_
    refine pv hF hW (y_assign hF rfl) (fun a hF => ?_)
    refine l_nil ?_
    refine t_n ?_
    refine wp_block ?_
    refine c_loop (G := Nat × Nat × List Int × Option Addr × Nat) (fun (gq : Nat × Nat × List Int × Option Addr × Nat) => match gq with | ⟨t, m2, out2, A2, c2⟩ => [(5, .int .i64 (t : Int)), (3, .slice A2 m2 c2)]) (fun (gq : Nat × Nat × List Int × Option Addr × Nat) => match gq with | ⟨t, m2, out2, A2, c2⟩ => [.row 3 1 (.slice A2 m2 c2) m2 (out2.map (.int .i64))]) (fun (gq : Nat × Nat × List Int × Option Addr × Nat) => match gq with | ⟨t, m2, out2, A2, c2⟩ => (t : Int) ≤ (x.slots.getD k S0).ticks ∧ out2 = out ++ List.replicate t (x.slots.getD k S0).part ∧ out2.length = m2 ∧ m2 ≤ 8 * k + t) (fun (gq : Nat × Nat × List Int × Option Addr × Nat) => match gq with | ⟨t, m2, out2, A2, c2⟩ => (x.slots.getD k S0).ticks.toNat - t) (0, m, out, A, c) (Fr.cons hF (t := 0) rfl rfl (Fr.cons hF (t := 1) rfl rfl (Fr.cons hF (t := 2) rfl rfl (Fr.cons hF (t := 4) rfl rfl (Fr.cons hF (t := 10) rfl rfl (Fr.nil hF)))))) (Fr.cons hF (t := 5) rfl (by first | rfl | (simp; done)) (Fr.cons hF (t := 3) rfl (by first | rfl | (simp; done)) (Fr.nil hF))) (hW) ?_ ?_
    · exact ⟨by omega, by simp, hm, by omega⟩
    clear hF hW
    try clear a
    intro gq a wc hC hF hW
    obtain ⟨t, m2, out2, A2, c2⟩ := gq
    dsimp only at hC
    obtain ⟨htk, hout2, hm2, hm28⟩ := hC
    refine c_s ?_
    refine c_sr ?_
    refine pv hF hW (y_move hF rfl) (fun a hF => ?_)
    refine pv hF hW (y_fieldOwn hF rfl fa_68_2) (fun a hF => ?_)
    refine pv hF hW (y_loadOwn hF rfl 1 rfl rfl Try.underlying66 rfl) (fun a hF => ?_)
    refine pv hF hW (y_move hF rfl) (fun a hF => ?_)
    refine pv hF hW (y_indexS hF rfl rfl (by first | omega | decide) Try.underlying66 sz_83 (fun w h => (hx.slotsR).wd h)) (fun a hF => ?_)
    refine pv hF hW (y_fieldRow hF rfl fa_83_1) (fun a hF => ?_)
    refine pv hF hW (y_loadRow hF rfl (fun w h => (hx.slotsR).wd h) (by first | omega | decide) rfl Try.underlying3 rfl) (fun a hF => ?_)
    refine pv hF hW (y_lss hF rfl rfl) (fun a hF => ?_)
    refine Fr.splitD hF ?_ ?_
    · intro h3 hF
      refine l_nil ?_
      replace hF := (hF.k 0 rfl (hF.k 1 rfl (hF.k 2 rfl (hF.k 3 rfl (hF.k 4 rfl (hF.k 5 rfl (hF.k 10 rfl (hF.k 20 rfl hF.nil))))))))
      refine t_n ?_
      refine c_t hF rfl ?_
      refine wp_skip ?_
      refine t_n ?_
      refine c_s ?_
      refine wp_block ?_
      refine c_r ?_
      refine pv hF hW (y_move hF rfl) (fun a hF => ?_)
      refine pv hF hW (y_fieldOwn hF rfl fa_68_2) (fun a hF => ?_)
      refine pv hF hW (y_loadOwn hF rfl 1 rfl rfl Try.underlying66 rfl) (fun a hF => ?_)
      refine pv hF hW (y_move hF rfl) (fun a hF => ?_)
      refine pv hF hW (y_indexS hF rfl rfl (by first | omega | decide) Try.underlying66 sz_83 (fun w h => (hx.slotsR).wd h)) (fun a hF => ?_)
      refine pv hF hW (y_fieldRow hF rfl fa_83_0) (fun a hF => ?_)
      refine pv hF hW (y_loadRow hF rfl (fun w h => (hx.slotsR).wd h) (by first | omega | decide) rfl Try.underlying3 rfl) (fun a hF => ?_)
      refine pe (e_buildSlice hF hW rfl (fun w => bs_SchedC_22_1_0 _ w) rfl rfl rfl ?_)
      intro b4 a wc hF hW
      refine pe (e_append hF hW 1 rfl rfl rfl Try.underlying22 inf_3 rfl (by decide) (rowAt_blk (hW.blk 0 rfl) 1 1 rfl) (by simp [Value.oneCell']) (show _ = m2 + 1 by omega) (show _ = (out2 ++ [(x.slots.getD k S0).part]).map (.int .i64) by simp) (by first | omega | (simp; omega)) (by unfold maxLen; first | omega | (simp; omega)) rfl rfl ?_)
      intro A5 c6 a wc hF hW
      replace hF := hF.drop 3
      refine pv hF hW (y_assign hF rfl) (fun a hF => ?_)
      refine l_nil ?_
      replace hF := (hF.k 0 rfl (hF.k 1 rfl (hF.k 2 rfl (hF.k 3 rfl (hF.k 4 rfl (hF.k 5 rfl (hF.k 10 rfl (hF.k 20 rfl hF.nil))))))))
      refine b_n ?_
      refine t_n ?_
      refine c_r ?_
      refine pv hF hW (y_move hF rfl) (fun a hF => ?_)
      refine pv hF hW (y_add hF rfl rfl (IntWalk.i64_in _ (by omega))) (fun a hF => ?_)
      replace hF := hF.drop 5
      refine pv hF hW (y_assign hF rfl) (fun a hF => ?_)
      refine l_nil ?_
      replace hF := (hF.k 0 rfl (hF.k 1 rfl (hF.k 2 rfl (hF.k 3 rfl (hF.k 4 rfl (hF.k 5 rfl (hF.k 10 rfl (hF.k 20 rfl hF.nil))))))))
      replace hW := hW.del 0 rfl
      refine t_n ?_
      refine ⟨(t + 1, m2 + 1, out2 ++ [(x.slots.getD k S0).part], A5, c6), ?_, ?_, ?_, ?_⟩
      · exact ⟨by omega, by rw [hout2, List.append_assoc, ← List.replicate_succ'], by simp [hm2], by omega⟩
      · first | omega | (dsimp only; omega)
      · exact Fr.app (Fr.cons hF (t := 5) rfl (by first | rfl | (simp; done) | omega) (Fr.cons hF (t := 3) rfl (by first | rfl | (simp; done) | omega) (Fr.nil hF))) (Fr.cons hF (t := 0) rfl rfl (Fr.cons hF (t := 1) rfl rfl (Fr.cons hF (t := 2) rfl rfl (Fr.cons hF (t := 4) rfl rfl (Fr.cons hF (t := 10) rfl rfl (Fr.nil hF))))))
      · exact hW
    · intro h3 hF
      refine l_nil ?_
      replace hF := (hF.k 0 rfl (hF.k 1 rfl (hF.k 2 rfl (hF.k 3 rfl (hF.k 4 rfl (hF.k 5 rfl (hF.k 10 rfl (hF.k 20 rfl hF.nil))))))))
      refine t_n ?_
      refine c_f hF rfl ?_
      refine wp_exit ?_
      refine t_x ?_
      refine t_x ?_
      refine b_h ?_
      refine b_n ?_
      refine t_n ?_
      refine c_r ?_
      refine pv hF hW (y_move hF rfl) (fun a hF => ?_)
      refine pv hF hW (y_add hF rfl rfl (IntWalk.i64_in _ (by omega))) (fun a hF => ?_)
      replace hF := hF.drop 4
      refine pv hF hW (y_assign hF rfl) (fun a hF => ?_)
      refine l_nil ?_
      replace hF := (hF.k 0 rfl (hF.k 1 rfl (hF.k 2 rfl (hF.k 3 rfl (hF.k 4 rfl (hF.k 5 rfl (hF.k 10 rfl (hF.k 20 rfl hF.nil))))))))
      refine t_n ?_
      refine ⟨(k + 1, m2, out2, A2, c2), ?_, ?_, ?_, ?_⟩
      · exact ⟨by omega, by rw [turnsL_snoc (by omega), ← hout, hout2, show t = (x.slots.getD k S0).ticks.toNat by omega], hm2, by omega⟩
      · first | omega | (dsimp only; omega)
      · exact Fr.app (Fr.cons hF (t := 4) rfl (by first | rfl | (simp; done) | omega) (Fr.cons hF (t := 3) rfl (by first | rfl | (simp; done) | omega) (Fr.nil hF))) (Fr.cons hF (t := 0) rfl rfl (Fr.cons hF (t := 1) rfl rfl (Fr.cons hF (t := 2) rfl rfl (Fr.nil hF))))
      · exact hW
  · intro h2 hF
    refine l_nil ?_
    replace hF := (hF.k 0 rfl (hF.k 1 rfl (hF.k 2 rfl (hF.k 3 rfl (hF.k 4 rfl (hF.k 10 rfl hF.nil))))))
    refine t_n ?_
    refine c_f hF rfl ?_
    refine wp_exit ?_
    refine t_x ?_
    refine t_x ?_
    refine b_h ?_
    refine t_n ?_
    refine c_sr ?_
    refine pv hF hW (y_move hF rfl) (fun a hF => ?_)
    replace hF := hF.drop 2
    refine pv hF hW (y_assign hF rfl) (fun a hF => ?_)
    refine l_nil ?_
    replace hF := (hF.k 0 rfl (hF.k 1 rfl (hF.k 2 rfl (hF.k 3 rfl (hF.k 4 rfl (hF.k 10 rfl hF.nil))))))
    refine t_n ?_
    refine wp_ret ?_
    refine ret1 Try.results80 hF (rv_t hF rfl) ?_
    replace hW := hW.del 1 rfl
    obtain rfl : k = x.slots.length := (by omega)
    rw [List.take_of_length_le (Nat.le_refl _)] at hout
    subst hout
    subst hm
    exact ⟨A, c, rfl, hW.below, (OwnRes.of_own (hW.row_own 0 rfl)).mono fun _ h => Ints.of_own h⟩
theorem frameOf_any {x : SysD} {w : World} (hx : x.At w) (hk : chkSys x.sys = 0) : Calls Try.prog 40 #[x.val] w fun e w' => e = .returned (.int .i64 (turnsL x.slots).length) ∧ Below w.heap.size w w' := by
  have ht := fun w1 (hb : Below w.heap.size w w1) => turns_any (hx.below hb) hk
  rw [x.val_eq] at *
  refine enter Try.func40 rfl Try.ntmps40 rfl (fun a hF => ?_)
  have hW := Wd.start w NoB
  refine c_sr ?_
  refine pe (e_box hF hW rfl rfl rfl rfl ?_)
  intro b1 a wc hF hW
  refine pv hF hW (y_assign hF rfl) (fun a hF => ?_)
  refine l_nil ?_
  refine t_n ?_
  refine c_sr ?_
  refine pv hF hW (y_loadAll hF rfl 0 rfl Try.underlying68 rfl sz_68) (fun a hF => ?_)
  refine pe (e_call hF rfl rfl en_80 (by rfl) rfl rfl (ht _ hW.below) ?_)
  rintro e w1 ⟨A, c, rfl, hb, hr⟩
  replace hW := hW.gotR hb hr
  refine ⟨_, rfl, fun a hF => ?_⟩
  refine pv hF hW (y_len hF rfl Try.underlying22) (fun a hF => ?_)
  replace hF := hF.drop 2
  refine pv hF hW (y_assign hF rfl) (fun a hF => ?_)
  refine l_nil ?_
  replace hF := (hF.k 0 rfl (hF.k 1 rfl (hF.k 2 rfl hF.nil)))
  refine t_n ?_
  refine wp_ret ?_
  refine ret1 Try.results40 hF (rv_t hF rfl) ?_
  exact ⟨rfl, hW.below⟩
theorem whoOf_any {x : SysD} {w : World} (hx : x.At w) (hk : chkSys x.sys = 0) {t : Int} (ht : 0 ≤ t) : Calls Try.prog 41 #[x.val, .int .i64 t] w fun e w' => e = .returned (.int .i64 (whoOf x.slots t)) ∧ Below w.heap.size w w' := by
  have htu := fun w1 (hb : Below w.heap.size w w1) => turns_any (hx.below hb) hk
  have hfr := fun w1 (hb : Below w.heap.size w w1) => frameOf_any (hx.below hb) hk
  have hs := fun k (h : k < x.slots.length) => (slots_ok hk h).2
  obtain ⟨b, off, hf⟩ := frm_of hx hk
  have hpos := hf.frame
  rw [← turnsL_all hs] at hpos
  have h0 := Int.tmod_nonneg ((turnsL x.slots).length : Int) ht
  have h1 := Int.tmod_lt_of_pos t hpos
  clear hf
  rw [x.val_eq] at *
  refine enter Try.func41 rfl Try.ntmps41 rfl (fun a hF => ?_)
  have hW := Wd.start w NoB
  refine c_sr ?_
  refine pe (e_box hF hW rfl rfl rfl rfl ?_)
  intro b1 a wc hF hW
  refine pv hF hW (y_assign hF rfl) (fun a hF => ?_)
  refine l_nil ?_
  refine t_n ?_
  refine c_sd mixed_ok hW (hW) ?_
  clear hW; intro wc hW hS
  refine dv 0 rfl hF hS (y_loadAll hF rfl 0 rfl Try.underlying68 rfl sz_68) (fun a hF => ?_)
  refine dv 2 rfl hF hS (y_move hF rfl) (fun a hF => ?_)
  refine dv 3 rfl hF hS (y_loadAll hF rfl 0 rfl Try.underlying68 rfl sz_68) (fun a hF => ?_)
  refine d_1 1 (by kernel_rfl) ?_
  refine d_op rfl rfl (e_call hF rfl rfl en_80 (by rfl) rfl rfl (htu _ hW.below) ?_)
  rintro e w1 ⟨A, c, rfl, hb, hr⟩
  replace hW := hW.gotR hb hr
  refine ⟨_, rfl, fun a hF => ?_⟩
  refine ⟨(hW.del 0 rfl), ?_⟩
  replace hS := (hW.del 0 rfl)
  refine d_1 4 (by kernel_rfl) ?_
  refine d_op rfl rfl (e_call hF rfl rfl en_40 (by rfl) rfl rfl (hfr _ hW.below) ?_)
  rintro e w1 ⟨rfl, hb⟩
  replace hW := hW.kept hb
  clear hb
  refine ⟨_, rfl, fun a hF => ?_⟩
  refine ⟨(hW.del 0 rfl), ?_⟩
  replace hS := (hW.del 0 rfl)
  refine dv 5 rfl hF hS (y_rem hF rfl rfl (by omega) rfl) (fun a hF => ?_)
  replace hF := Fr.cast (v' := .int .i64 (((t.tmod (turnsL x.slots).length).toNat : Nat) : Int)) (by rw [Int.toNat_of_nonneg h0]) hF
  refine d_1 6 (by kernel_rfl) ?_
  refine d_opval rfl hF rfl hW (y_indexS hF rfl rfl (by first | omega | decide) Try.underlying22 sz_3 (fun w h => (h.res 0 rfl).rf)) rfl rfl (fun a hF => ?_)
  refine ⟨(hW.del 0 rfl), ?_⟩
  replace hS := (hW.del 0 rfl)
  refine d_1 7 (by kernel_rfl) ?_
  refine d_opval rfl hF rfl hW (y_loadRow hF rfl (fun w h => (h.res 0 rfl).rf) (by first | omega | decide) rfl Try.underlying3 rfl) rfl rfl (fun a hF => ?_)
  refine ⟨(hW.del 0 rfl), ?_⟩
  replace hS := (hW.del 0 rfl)
  replace hF := hF.drop 4
  refine dv 8 rfl hF hS (y_assign hF rfl) (fun a hF => ?_)
  clear hS
  refine d_nil (by kernel_rfl) ?_
  replace hF := (hF.k 0 rfl (hF.k 1 rfl (hF.k 2 rfl (hF.k 4 rfl hF.nil))))
  refine t_n ?_
  refine wp_ret ?_
  refine ret1 Try.results41 hF (rv_t hF rfl) ?_
  exact ⟨rfl, hW.below⟩
end Go.Proofs.Ytebklpbbglojmaa
