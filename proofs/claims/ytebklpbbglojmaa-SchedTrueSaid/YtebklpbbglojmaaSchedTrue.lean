/- The law SchedTrue answers true for every input. -/
import Derived.Test.YtebklpbbglojmaaSchedLaw
namespace Go.Proofs.Ytebklpbbglojmaa
set_option linter.unusedVariables false
set_option linter.unusedSimpArgs false
open Go.ChangeShapes Go.WideShapes Go.ChangeAt Go.RowKit

set_option maxRecDepth 100000

theorem ticksOf_le {ss : List Slt} (u : Int) (h : ∀ k, k < ss.length → 1 ≤ (ss.getD k S0).ticks ∧ (ss.getD k S0).ticks ≤ 8) : ∀ k, k ≤ ss.length → 0 ≤ ticksOf (ss.take k) u ∧ ticksOf (ss.take k) u ≤ tick0 ss k
  | 0, _ => by simp [ticksOf, tick0_zero]
  | k + 1, hk => by
    have ih := ticksOf_le u h k (by omega)
    have := h k (by omega)
    rw [ticksOf_snoc u (by omega), tick0_succ (by omega)]
    split <;> omega
theorem count_step (f : Nat → Bool) (j : Nat) : (List.range (j + 1)).countP f = (List.range j).countP f + (if f j then 1 else 0) := by
  rw [List.range_succ, List.countP_append]
  simp [List.countP_cons]
theorem count_le (f : Nat → Bool) (j : Nat) : (List.range j).countP f ≤ j := by
  have := List.countP_le_length (p := f) (l := List.range j)
  simpa using this

set_option maxHeartbeats 8000000 in
theorem schedTrue_run (x : SysD) (tick part : Int) (w : World) (hx : x.At w) (hct : -9223372036854775808 ≤ tick ∧ tick ≤ 9223372036854775807) (hcp : -9223372036854775808 ≤ part ∧ part ≤ 9223372036854775807) :
    Calls Try.prog 11 #[x.val, .int .i64 tick, .int .i64 part] w fun e w' => e = .returned (.bool true) ∧ Below w.heap.size w w' := by
  have hfr := fun w1 (hb : Below w.heap.size w w1) => schedFrame_any (hx.below hb)
  by_cases hk : chkSys x.sys = 0
  · have hs := fun k (h : k < x.slots.length) => (slots_ok hk h).2
    have hpt := fun k (h : k < x.slots.length) => (slots_ok hk h).1
    obtain ⟨⟨hp1, hp2⟩, _, ⟨hl1, hl2⟩, _⟩ := sizes_get (chkSys_zero hk).1
    have hall := turnsL_all hs
    have hF48 := tick0_le hs x.slots.length (Nat.le_refl _)
    rw [← hall] at hF48
    rw [show frameOf x.sys = ((turnsL x.slots).length : Int) from (if_pos hk).trans hall.symm, hk] at hfr
    have hwho := fun w1 (hb : Below w.heap.size w w1) t (ht : 0 ≤ t) => who_val (hx.below hb) hk (t := t) ht
    have hcalm := fun w1 (hb : Below w.heap.size w w1) (u : Int) (hu : 0 ≤ u ∧ u < x.parts.length) => calm_ok (p := u) (hx.below hb) rfl (there_0 hk (by simpa [SysD.sys] using hu))
    have hmem : ∀ s, s ∈ x.slots → 0 ≤ s.ticks := fun s h => by
      obtain ⟨i, hi, rfl⟩ := List.mem_iff_getElem.1 h
      have := hs i hi
      rw [List.getD, List.getElem?_eq_getElem hi] at this
      have h2 : 1 ≤ (x.slots[i]).ticks := this.1
      omega
    have hadd := whoOf_add x.slots
    have hcount := frame_count hmem
    have htl := fun u => ticksOf_le (ss := x.slots) u hs
    have htk := tick0_le hs
    have hsR := hx.slotsR
    rw [x.val_eq] at *
    refine enter Try.func11 rfl Try.ntmps11 rfl (fun a hF => ?_)
    have hW := Wd.start w NoB
    refine c_sr ?_
    refine pe (e_box hF hW rfl rfl rfl rfl ?_)
    intro b1 a wc hF hW
    refine pv hF hW (y_assign hF rfl) (fun a hF => ?_)
    refine l_nil ?_
    refine t_n ?_
    refine c_sr ?_
    refine pv hF hW (y_loadAll hF rfl 0 rfl Try.underlying68 rfl sz_68) (fun a hF => ?_)
    refine pe (e_call hF rfl rfl en_38 (by rfl) rfl rfl (hfr _ hW.below) ?_)
    rintro e w1 ⟨rfl, hb⟩
    replace hW := hW.kept hb
    clear hb
    refine ⟨_, rfl, fun a hF => ?_⟩
    refine pv hF hW (y_move hF rfl) (fun a hF => ?_)
    refine pv hF hW (y_extract hF rfl rfl) (fun a hF => ?_)
    refine pv hF hW (y_extract hF rfl rfl) (fun a hF => ?_)
    refine pv hF hW (y_assign hF rfl) (fun a hF => ?_)
    refine pv hF hW (y_assign hF rfl) (fun a hF => ?_)
    refine l_nil ?_
    replace hF := (hF.k 0 rfl (hF.k 1 rfl (hF.k 2 rfl (hF.k 3 rfl (hF.k 6 rfl (hF.k 7 rfl (hF.k 8 rfl hF.nil)))))))
    refine t_n ?_
    refine c_s ?_
    refine c_sr ?_
    refine pv hF hW (y_move hF rfl) (fun a hF => ?_)
    refine pv hF hW (y_neq hF rfl rfl) (fun a hF => ?_)
    replace hF := Fr.bool (t := false) (by first | decide | (simp; done) | rfl) hF
    refine pv hF hW (y_move hF rfl) (fun a hF => ?_)
    replace hF := Fr.bool (t := false) (by first | decide | (simp; done) | rfl) hF
    refine pv hF hW (y_fieldOwn hF rfl fa_68_0) (fun a hF => ?_) (ws hF rfl rfl)
    refine pv hF hW (y_loadOwn hF rfl 0 rfl rfl Try.underlying64 rfl) (fun a hF => ?_) (ws hF rfl rfl)
    refine pv hF hW (y_len hF rfl Try.underlying64) (fun a hF => ?_) (ws hF rfl rfl)
    refine pv hF hW (y_eql hF rfl rfl) (fun a hF => ?_) (ws hF rfl rfl)
    refine Fr.splitD hF ?_ ?_
    · intro h2 hF
      exfalso
      omega
    · intro h2 hF
      refine pv hF hW (y_pick hF rfl rfl) (fun a hF => ?_)
      refine l_nil ?_
      replace hF := (hF.k 0 rfl (hF.k 1 rfl (hF.k 2 rfl (hF.k 3 rfl (hF.k 6 rfl (hF.k 7 rfl (hF.k 8 rfl (hF.k 37 rfl hF.nil))))))))
      refine t_n ?_
      refine c_f hF rfl ?_
      refine wp_skip ?_
      refine t_n ?_
      refine c_sr ?_
      refine pv hF hW (y_move hF rfl) (fun a hF => ?_)
      refine pe (e_call hF rfl rfl en_20 (by rfl) rfl rfl (chooseN_any hct (by decide) _) ?_)
      rintro e w1 ⟨⟨t0, rfl, ht0, ht1⟩, hb⟩
      replace hW := hW.kept hb
      clear hb
      refine ⟨_, rfl, fun a hF => ?_⟩
      obtain ⟨t, rfl⟩ := Int.eq_ofNat_of_zero_le ht0
      refine pv hF hW (y_assign hF rfl) (fun a hF => ?_)
      refine l_nil ?_
      replace hF := (hF.k 0 rfl (hF.k 1 rfl (hF.k 2 rfl (hF.k 3 rfl (hF.k 6 rfl (hF.k 7 rfl (hF.k 8 rfl (hF.k 9 rfl (hF.k 37 rfl hF.nil)))))))))
      refine t_n ?_
      refine c_sr ?_
      refine pv hF hW (y_loadAll hF rfl 0 rfl Try.underlying68 rfl sz_68) (fun a hF => ?_)
      refine pv hF hW (y_move hF rfl) (fun a hF => ?_)
      refine pe (e_call hF rfl rfl en_39 (by rfl) rfl rfl (hwho _ hW.below _ (by omega)) ?_)
      rintro e w1 ⟨rfl, hb⟩
      replace hW := hW.kept hb
      clear hb
      refine ⟨_, rfl, fun a hF => ?_⟩
      refine pv hF hW (y_move hF rfl) (fun a hF => ?_)
      refine pv hF hW (y_extract hF rfl rfl) (fun a hF => ?_)
      refine pv hF hW (y_extract hF rfl rfl) (fun a hF => ?_)
      refine pv hF hW (y_assign hF rfl) (fun a hF => ?_)
      refine pv hF hW (y_assign hF rfl) (fun a hF => ?_)
      refine l_nil ?_
      replace hF := (hF.k 0 rfl (hF.k 1 rfl (hF.k 2 rfl (hF.k 3 rfl (hF.k 6 rfl (hF.k 7 rfl (hF.k 8 rfl (hF.k 9 rfl (hF.k 10 rfl (hF.k 11 rfl (hF.k 37 rfl hF.nil)))))))))))
      refine t_n ?_
      refine c_sr ?_
      refine pv hF hW (y_loadAll hF rfl 0 rfl Try.underlying68 rfl sz_68) (fun a hF => ?_)
      refine pv hF hW (y_move hF rfl) (fun a hF => ?_)
      refine pv hF hW (y_move hF rfl) (fun a hF => ?_)
      refine pv hF hW (y_add hF rfl rfl (IntWalk.i64_in _ (by omega))) (fun a hF => ?_)
      refine pe (e_call hF rfl rfl en_39 (by rfl) rfl rfl (hwho _ hW.below _ (by omega)) ?_)
      rintro e w1 ⟨rfl, hb⟩
      replace hW := hW.kept hb
      clear hb
      refine ⟨_, rfl, fun a hF => ?_⟩
      refine pv hF hW (y_move hF rfl) (fun a hF => ?_)
      refine pv hF hW (y_extract hF rfl rfl) (fun a hF => ?_)
      refine pv hF hW (y_extract hF rfl rfl) (fun a hF => ?_)
      refine pv hF hW (y_assign hF rfl) (fun a hF => ?_)
      refine pv hF hW (y_assign hF rfl) (fun a hF => ?_)
      refine l_nil ?_
      replace hF := (hF.k 0 rfl (hF.k 1 rfl (hF.k 2 rfl (hF.k 3 rfl (hF.k 6 rfl (hF.k 7 rfl (hF.k 8 rfl (hF.k 9 rfl (hF.k 10 rfl (hF.k 11 rfl (hF.k 12 rfl (hF.k 13 rfl (hF.k 37 rfl hF.nil)))))))))))))
      refine t_n ?_
      refine c_sr ?_
      refine pv hF hW (y_move hF rfl) (fun a hF => ?_)
      refine pv hF hW (y_fieldOwn hF rfl fa_68_0) (fun a hF => ?_)
      refine pv hF hW (y_loadOwn hF rfl 0 rfl rfl Try.underlying64 rfl) (fun a hF => ?_)
      refine pv hF hW (y_len hF rfl Try.underlying64) (fun a hF => ?_)
      refine pe (e_call hF rfl rfl en_20 (by rfl) rfl rfl (chooseN_any hcp (by omega) _) ?_)
      rintro e w1 ⟨⟨u, rfl, hu0, hu1⟩, hb⟩
      replace hW := hW.kept hb
      clear hb
      refine ⟨_, rfl, fun a hF => ?_⟩
      refine pv hF hW (y_assign hF rfl) (fun a hF => ?_)
      refine l_nil ?_
      replace hF := (hF.k 0 rfl (hF.k 1 rfl (hF.k 2 rfl (hF.k 3 rfl (hF.k 6 rfl (hF.k 7 rfl (hF.k 8 rfl (hF.k 9 rfl (hF.k 10 rfl (hF.k 11 rfl (hF.k 12 rfl (hF.k 13 rfl (hF.k 14 rfl (hF.k 37 rfl hF.nil))))))))))))))
      refine t_n ?_
      refine c_sr ?_
      refine pv hF hW (y_loadAll hF rfl 0 rfl Try.underlying68 rfl sz_68) (fun a hF => ?_)
      refine pv hF hW (y_move hF rfl) (fun a hF => ?_)
      refine pe (e_call hF rfl rfl en_31 (by rfl) rfl rfl (hcalm _ hW.below u ⟨hu0, hu1⟩) ?_)
      rintro e w1 ⟨y, rfl, hy, hb, hr⟩
      replace hW := hW.gotR hb hr
      refine ⟨_, rfl, fun a hF => ?_⟩
      replace hF := Fr.cast (v' := .tuple #[.agg #[.slice y.pa y.parts.length y.pc, .slice y.ha y.chans.length y.hc, .slice y.sa y.slots.length y.sc], .int .i64 0]) rfl hF
      refine pv hF hW (y_move hF rfl) (fun a hF => ?_)
      refine pv hF hW (y_extract hF rfl rfl) (fun a hF => ?_)
      refine pv hF hW (y_extract hF rfl rfl) (fun a hF => ?_)
      refine pe (e_alloc hF hW ze_68 rfl rfl rfl ?_)
      intro b3 a wc hF hW
      refine pe (e_storeAll rfl hF hW rfl rfl 0 rfl rfl rfl (by kernel_rfl) sz_68 ?_)
      intro wc hW
      refine pv hF hW (y_assign hF rfl) (fun a hF => ?_)
      refine l_nil ?_
      replace hF := (hF.k 0 rfl (hF.k 1 rfl (hF.k 2 rfl (hF.k 3 rfl (hF.k 6 rfl (hF.k 7 rfl (hF.k 8 rfl (hF.k 9 rfl (hF.k 10 rfl (hF.k 11 rfl (hF.k 12 rfl (hF.k 13 rfl (hF.k 14 rfl (hF.k 15 rfl (hF.k 16 rfl (hF.k 37 rfl hF.nil))))))))))))))))
      refine t_n ?_
      refine c_sr ?_
      refine pv hF hW (y_loadAll hF rfl 0 rfl Try.underlying68 rfl sz_68) (fun a hF => ?_)
      refine pv hF hW (y_move hF rfl) (fun a hF => ?_)
      refine pe (e_call hF rfl rfl en_39 (by rfl) rfl rfl (who_val (hW.res 1 rfl) (by rw [hy]; exact chkSys_calm hk) (by omega)) ?_)
      rintro e w1 ⟨rfl, hb⟩
      replace hW := hW.kept hb
      clear hb
      refine ⟨_, rfl, fun a hF => ?_⟩
      refine pv hF hW (y_move hF rfl) (fun a hF => ?_)
      refine pv hF hW (y_extract hF rfl rfl) (fun a hF => ?_)
      refine pv hF hW (y_extract hF rfl rfl) (fun a hF => ?_)
      refine pv hF hW (y_assign hF rfl) (fun a hF => ?_)
      refine pv hF hW (y_assign hF rfl) (fun a hF => ?_)
      refine l_nil ?_
      replace hF := (hF.k 0 rfl (hF.k 1 rfl (hF.k 2 rfl (hF.k 3 rfl (hF.k 6 rfl (hF.k 7 rfl (hF.k 8 rfl (hF.k 9 rfl (hF.k 10 rfl (hF.k 11 rfl (hF.k 12 rfl (hF.k 13 rfl (hF.k 14 rfl (hF.k 15 rfl (hF.k 16 rfl (hF.k 17 rfl (hF.k 18 rfl (hF.k 37 rfl hF.nil))))))))))))))))))
      refine t_n ?_
      refine c_s ?_
      refine c_sr ?_
      refine pv hF hW (y_move hF rfl) (fun a hF => ?_)
      refine pv hF hW (y_neq hF rfl rfl) (fun a hF => ?_)
      replace hF := Fr.bool (t := false) (by first | decide | (simp; done) | rfl) hF
      refine pv hF hW (y_move hF rfl) (fun a hF => ?_)
      replace hF := Fr.bool (t := false) (by first | decide | (simp; done) | rfl) hF
      refine pv hF hW (y_move hF rfl) (fun a hF => ?_) (ws hF rfl rfl)
      refine pv hF hW (y_neq hF rfl rfl) (fun a hF => ?_) (ws hF rfl rfl)
      replace hF := Fr.bool (t := false) (by first | decide | (simp; done) | rfl) hF
      refine pv hF hW (y_pick hF rfl rfl) (fun a hF => ?_)
      replace hF := Fr.bool (t := false) (by first | decide | (simp; done) | rfl) hF
      refine pv hF hW (y_move hF rfl) (fun a hF => ?_)
      replace hF := Fr.bool (t := false) (by first | decide | (simp; done) | rfl) hF
      refine pv hF hW (y_move hF rfl) (fun a hF => ?_) (ws hF rfl rfl)
      refine pv hF hW (y_neq hF rfl rfl) (fun a hF => ?_) (ws hF rfl rfl)
      replace hF := Fr.bool (t := false) (by first | decide | (simp; done) | rfl) hF
      refine pv hF hW (y_pick hF rfl rfl) (fun a hF => ?_)
      replace hF := Fr.bool (t := false) (by first | decide | (simp; done) | rfl) hF
      refine pv hF hW (y_move hF rfl) (fun a hF => ?_)
      replace hF := Fr.bool (t := false) (by first | decide | (simp; done) | rfl) hF
      refine pv hF hW (y_move hF rfl) (fun a hF => ?_) (ws hF rfl rfl)
      refine pv hF hW (y_neq hF rfl rfl) (fun a hF => ?_) (ws hF rfl rfl)
      replace hF := Fr.bool (t := false) (by first | decide | (simp; done) | rfl) hF
      refine pv hF hW (y_pick hF rfl rfl) (fun a hF => ?_)
      replace hF := Fr.bool (t := false) (by first | decide | (simp; done) | rfl) hF
      refine pv hF hW (y_move hF rfl) (fun a hF => ?_)
      replace hF := Fr.bool (t := false) (by first | decide | (simp; done) | rfl) hF
      refine pv hF hW (y_move hF rfl) (fun a hF => ?_) (ws hF rfl rfl)
      refine pv hF hW (y_move hF rfl) (fun a hF => ?_) (ws hF rfl rfl)
      refine pv hF hW (y_neq hF rfl rfl) (fun a hF => ?_) (ws hF rfl rfl)
      refine Fr.splitD hF ?_ ?_
      · intro h4 hF
        exfalso
        exact h4 (by have := hadd t; rw [Int.natCast_add] at this; exact this.symm)
      · intro h4 hF
        refine pv hF hW (y_pick hF rfl rfl) (fun a hF => ?_)
        refine pv hF hW (y_move hF rfl) (fun a hF => ?_)
        refine pv hF hW (y_move hF rfl) (fun a hF => ?_) (ws hF rfl rfl)
        refine pv hF hW (y_move hF rfl) (fun a hF => ?_) (ws hF rfl rfl)
        refine pv hF hW (y_neq hF rfl rfl) (fun a hF => ?_) (ws hF rfl rfl)
        refine Fr.splitD hF ?_ ?_
        · intro h5 hF
          exfalso
          exact h5 (by rw [show y.slots = x.slots from congrArg Sys.slots hy])
        · intro h5 hF
          refine pv hF hW (y_pick hF rfl rfl) (fun a hF => ?_)
          refine l_nil ?_
          replace hF := (hF.k 0 rfl (hF.k 1 rfl (hF.k 2 rfl (hF.k 3 rfl (hF.k 6 rfl (hF.k 7 rfl (hF.k 8 rfl (hF.k 9 rfl (hF.k 10 rfl (hF.k 11 rfl (hF.k 12 rfl (hF.k 13 rfl (hF.k 14 rfl (hF.k 15 rfl (hF.k 16 rfl (hF.k 17 rfl (hF.k 18 rfl (hF.k 37 rfl (hF.k 95 rfl hF.nil)))))))))))))))))))
          refine t_n ?_
          refine c_f hF rfl ?_
          refine wp_skip ?_
          refine t_n ?_
          refine c_sr ?_
          refine pv hF hW (y_assign hF rfl) (fun a hF => ?_)
          refine pv hF hW (y_assign hF rfl) (fun a hF => ?_)
          refine l_nil ?_
          refine t_n ?_
          refine c_s ?_
          refine c_sr ?_
          refine pv hF hW (y_assign hF rfl) (fun a hF => ?_)
          refine l_nil ?_
          refine t_n ?_
          refine wp_block ?_
          refine c_loop (G := Nat) (fun k : Nat => [(21, .int .i64 (k : Int)), (19, .int .i64 (ticksOf (x.slots.take k) u))]) (fun k : Nat => []) (fun k : Nat => k ≤ x.slots.length) (fun k : Nat => x.slots.length - k) 0 (Fr.cons hF (t := 0) rfl rfl (Fr.cons hF (t := 1) rfl rfl (Fr.cons hF (t := 2) rfl rfl (Fr.cons hF (t := 3) rfl rfl (Fr.cons hF (t := 6) rfl rfl (Fr.cons hF (t := 7) rfl rfl (Fr.cons hF (t := 8) rfl rfl (Fr.cons hF (t := 9) rfl rfl (Fr.cons hF (t := 10) rfl rfl (Fr.cons hF (t := 11) rfl rfl (Fr.cons hF (t := 12) rfl rfl (Fr.cons hF (t := 13) rfl rfl (Fr.cons hF (t := 14) rfl rfl (Fr.cons hF (t := 15) rfl rfl (Fr.cons hF (t := 16) rfl rfl (Fr.cons hF (t := 17) rfl rfl (Fr.cons hF (t := 18) rfl rfl (Fr.cons hF (t := 20) rfl rfl (Fr.cons hF (t := 37) rfl rfl (Fr.cons hF (t := 95) rfl rfl (Fr.nil hF))))))))))))))))))))) (Fr.cons hF (t := 21) rfl (by first | rfl | (simp; done)) (Fr.cons hF (t := 19) rfl (by first | rfl | (simp; done)) (Fr.nil hF))) (hW) ?_ ?_
          · omega
          clear hF hW
          try clear a
          intro k a wc hC hF hW
          have hk' := hC; have htk1 := htl u k (by omega); have htk2 := htk k (by omega)
          refine c_s ?_
          refine c_sr ?_
          refine pv hF hW (y_move hF rfl) (fun a hF => ?_)
          refine pv hF hW (y_fieldOwn hF rfl fa_68_2) (fun a hF => ?_)
          refine pv hF hW (y_loadOwn hF rfl 2 rfl rfl Try.underlying66 rfl) (fun a hF => ?_)
          refine pv hF hW (y_len hF rfl Try.underlying66) (fun a hF => ?_)
          refine pv hF hW (y_lss hF rfl rfl) (fun a hF => ?_)
          refine Fr.splitD hF ?_ ?_
          · intro h6 hF
            refine l_nil ?_
            replace hF := (hF.k 0 rfl (hF.k 1 rfl (hF.k 2 rfl (hF.k 3 rfl (hF.k 6 rfl (hF.k 7 rfl (hF.k 8 rfl (hF.k 9 rfl (hF.k 10 rfl (hF.k 11 rfl (hF.k 12 rfl (hF.k 13 rfl (hF.k 14 rfl (hF.k 15 rfl (hF.k 16 rfl (hF.k 17 rfl (hF.k 18 rfl (hF.k 19 rfl (hF.k 20 rfl (hF.k 21 rfl (hF.k 37 rfl (hF.k 95 rfl (hF.k 100 rfl hF.nil)))))))))))))))))))))))
            refine t_n ?_
            refine c_t hF rfl ?_
            refine wp_skip ?_
            refine t_n ?_
            refine c_s ?_
            refine wp_block ?_
            have hsn := ticksOf_snoc (ss := x.slots) (k := k) u (by omega)
            have hskk := hs k (by omega)
            refine c_sr ?_
            refine pv hF hW (y_fieldOwn hF rfl fa_68_2) (fun a hF => ?_)
            refine pv hF hW (y_loadOwn hF rfl 2 rfl rfl Try.underlying66 rfl) (fun a hF => ?_)
            refine pv hF hW (y_move hF rfl) (fun a hF => ?_)
            refine pv hF hW (y_indexS hF rfl rfl (by first | omega | decide) Try.underlying66 sz_83 (fun w h => (hsR).wd h)) (fun a hF => ?_)
            refine pv hF hW (y_fieldRow hF rfl fa_83_0) (fun a hF => ?_)
            refine pv hF hW (y_loadRow hF rfl (fun w h => (hsR).wd h) (by first | omega | decide) rfl Try.underlying3 rfl) (fun a hF => ?_)
            refine pv hF hW (y_move hF rfl) (fun a hF => ?_)
            refine pv hF hW (y_eql hF rfl rfl) (fun a hF => ?_)
            refine Fr.splitD hF ?_ ?_
            · intro h7 hF
              refine l_nil ?_
              replace hF := (hF.k 0 rfl (hF.k 1 rfl (hF.k 2 rfl (hF.k 3 rfl (hF.k 6 rfl (hF.k 7 rfl (hF.k 8 rfl (hF.k 9 rfl (hF.k 10 rfl (hF.k 11 rfl (hF.k 12 rfl (hF.k 13 rfl (hF.k 14 rfl (hF.k 15 rfl (hF.k 16 rfl (hF.k 17 rfl (hF.k 18 rfl (hF.k 19 rfl (hF.k 20 rfl (hF.k 21 rfl (hF.k 37 rfl (hF.k 95 rfl (hF.k 100 rfl (hF.k 110 rfl hF.nil))))))))))))))))))))))))
              refine t_n ?_
              refine c_t hF rfl ?_
              refine c_r ?_
              refine pv hF hW (y_move hF rfl) (fun a hF => ?_)
              refine pv hF hW (y_fieldOwn hF rfl fa_68_2) (fun a hF => ?_)
              refine pv hF hW (y_loadOwn hF rfl 2 rfl rfl Try.underlying66 rfl) (fun a hF => ?_)
              refine pv hF hW (y_move hF rfl) (fun a hF => ?_)
              refine pv hF hW (y_indexS hF rfl rfl (by first | omega | decide) Try.underlying66 sz_83 (fun w h => (hsR).wd h)) (fun a hF => ?_)
              refine pv hF hW (y_fieldRow hF rfl fa_83_1) (fun a hF => ?_)
              refine pv hF hW (y_loadRow hF rfl (fun w h => (hsR).wd h) (by first | omega | decide) rfl Try.underlying3 rfl) (fun a hF => ?_)
              refine pv hF hW (y_add hF rfl rfl (IntWalk.i64_in _ (by omega))) (fun a hF => ?_)
              replace hF := hF.drop 19
              refine pv hF hW (y_assign hF rfl) (fun a hF => ?_)
              refine l_nil ?_
              replace hF := (hF.k 0 rfl (hF.k 1 rfl (hF.k 2 rfl (hF.k 3 rfl (hF.k 6 rfl (hF.k 7 rfl (hF.k 8 rfl (hF.k 9 rfl (hF.k 10 rfl (hF.k 11 rfl (hF.k 12 rfl (hF.k 13 rfl (hF.k 14 rfl (hF.k 15 rfl (hF.k 16 rfl (hF.k 17 rfl (hF.k 18 rfl (hF.k 19 rfl (hF.k 20 rfl (hF.k 21 rfl (hF.k 37 rfl (hF.k 95 rfl (hF.k 100 rfl (hF.k 110 rfl hF.nil))))))))))))))))))))))))
              refine b_n ?_
              refine t_n ?_
              refine c_r ?_
              refine pv hF hW (y_move hF rfl) (fun a hF => ?_)
              refine pv hF hW (y_add hF rfl rfl (IntWalk.i64_in _ (by omega))) (fun a hF => ?_)
              replace hF := hF.drop 21
              refine pv hF hW (y_assign hF rfl) (fun a hF => ?_)
              refine l_nil ?_
              replace hF := (hF.k 0 rfl (hF.k 1 rfl (hF.k 2 rfl (hF.k 3 rfl (hF.k 6 rfl (hF.k 7 rfl (hF.k 8 rfl (hF.k 9 rfl (hF.k 10 rfl (hF.k 11 rfl (hF.k 12 rfl (hF.k 13 rfl (hF.k 14 rfl (hF.k 15 rfl (hF.k 16 rfl (hF.k 17 rfl (hF.k 18 rfl (hF.k 19 rfl (hF.k 20 rfl (hF.k 21 rfl (hF.k 37 rfl (hF.k 95 rfl (hF.k 100 rfl (hF.k 110 rfl hF.nil))))))))))))))))))))))))
              refine t_n ?_
              refine ⟨(k + 1), ?_, ?_, ?_, ?_⟩
              · omega
              · first | omega | (dsimp only; omega)
              · exact Fr.app (Fr.cons hF (t := 21) rfl (by first | rfl | (rw [hsn, if_pos (by assumption)]) | (rw [hsn, if_neg (by assumption), Int.add_zero]) | (simp; done) | omega) (Fr.cons hF (t := 19) rfl (by first | rfl | (rw [hsn, if_pos (by assumption)]) | (rw [hsn, if_neg (by assumption), Int.add_zero]) | (simp; done) | omega) (Fr.nil hF))) (Fr.cons hF (t := 0) rfl rfl (Fr.cons hF (t := 1) rfl rfl (Fr.cons hF (t := 2) rfl rfl (Fr.cons hF (t := 3) rfl rfl (Fr.cons hF (t := 6) rfl rfl (Fr.cons hF (t := 7) rfl rfl (Fr.cons hF (t := 8) rfl rfl (Fr.cons hF (t := 9) rfl rfl (Fr.cons hF (t := 10) rfl rfl (Fr.cons hF (t := 11) rfl rfl (Fr.cons hF (t := 12) rfl rfl (Fr.cons hF (t := 13) rfl rfl (Fr.cons hF (t := 14) rfl rfl (Fr.cons hF (t := 15) rfl rfl (Fr.cons hF (t := 16) rfl rfl (Fr.cons hF (t := 17) rfl rfl (Fr.cons hF (t := 18) rfl rfl (Fr.cons hF (t := 20) rfl rfl (Fr.cons hF (t := 37) rfl rfl (Fr.cons hF (t := 95) rfl rfl (Fr.nil hF)))))))))))))))))))))
              · exact hW
            · intro h7 hF
              refine l_nil ?_
              replace hF := (hF.k 0 rfl (hF.k 1 rfl (hF.k 2 rfl (hF.k 3 rfl (hF.k 6 rfl (hF.k 7 rfl (hF.k 8 rfl (hF.k 9 rfl (hF.k 10 rfl (hF.k 11 rfl (hF.k 12 rfl (hF.k 13 rfl (hF.k 14 rfl (hF.k 15 rfl (hF.k 16 rfl (hF.k 17 rfl (hF.k 18 rfl (hF.k 19 rfl (hF.k 20 rfl (hF.k 21 rfl (hF.k 37 rfl (hF.k 95 rfl (hF.k 100 rfl (hF.k 110 rfl hF.nil))))))))))))))))))))))))
              refine t_n ?_
              refine c_f hF rfl ?_
              refine wp_skip ?_
              refine b_n ?_
              refine t_n ?_
              refine c_r ?_
              refine pv hF hW (y_move hF rfl) (fun a hF => ?_)
              refine pv hF hW (y_add hF rfl rfl (IntWalk.i64_in _ (by omega))) (fun a hF => ?_)
              replace hF := hF.drop 21
              refine pv hF hW (y_assign hF rfl) (fun a hF => ?_)
              refine l_nil ?_
              replace hF := (hF.k 0 rfl (hF.k 1 rfl (hF.k 2 rfl (hF.k 3 rfl (hF.k 6 rfl (hF.k 7 rfl (hF.k 8 rfl (hF.k 9 rfl (hF.k 10 rfl (hF.k 11 rfl (hF.k 12 rfl (hF.k 13 rfl (hF.k 14 rfl (hF.k 15 rfl (hF.k 16 rfl (hF.k 17 rfl (hF.k 18 rfl (hF.k 19 rfl (hF.k 20 rfl (hF.k 21 rfl (hF.k 37 rfl (hF.k 95 rfl (hF.k 100 rfl (hF.k 110 rfl hF.nil))))))))))))))))))))))))
              refine t_n ?_
              refine ⟨(k + 1), ?_, ?_, ?_, ?_⟩
              · omega
              · first | omega | (dsimp only; omega)
              · exact Fr.app (Fr.cons hF (t := 21) rfl (by first | rfl | (rw [hsn, if_pos (by assumption)]) | (rw [hsn, if_neg (by assumption), Int.add_zero]) | (simp; done) | omega) (Fr.cons hF (t := 19) rfl (by first | rfl | (rw [hsn, if_pos (by assumption)]) | (rw [hsn, if_neg (by assumption), Int.add_zero]) | (simp; done) | omega) (Fr.nil hF))) (Fr.cons hF (t := 0) rfl rfl (Fr.cons hF (t := 1) rfl rfl (Fr.cons hF (t := 2) rfl rfl (Fr.cons hF (t := 3) rfl rfl (Fr.cons hF (t := 6) rfl rfl (Fr.cons hF (t := 7) rfl rfl (Fr.cons hF (t := 8) rfl rfl (Fr.cons hF (t := 9) rfl rfl (Fr.cons hF (t := 10) rfl rfl (Fr.cons hF (t := 11) rfl rfl (Fr.cons hF (t := 12) rfl rfl (Fr.cons hF (t := 13) rfl rfl (Fr.cons hF (t := 14) rfl rfl (Fr.cons hF (t := 15) rfl rfl (Fr.cons hF (t := 16) rfl rfl (Fr.cons hF (t := 17) rfl rfl (Fr.cons hF (t := 18) rfl rfl (Fr.cons hF (t := 20) rfl rfl (Fr.cons hF (t := 37) rfl rfl (Fr.cons hF (t := 95) rfl rfl (Fr.nil hF)))))))))))))))))))))
              · exact hW
          · intro h6 hF
            refine l_nil ?_
            replace hF := (hF.k 0 rfl (hF.k 1 rfl (hF.k 2 rfl (hF.k 3 rfl (hF.k 6 rfl (hF.k 7 rfl (hF.k 8 rfl (hF.k 9 rfl (hF.k 10 rfl (hF.k 11 rfl (hF.k 12 rfl (hF.k 13 rfl (hF.k 14 rfl (hF.k 15 rfl (hF.k 16 rfl (hF.k 17 rfl (hF.k 18 rfl (hF.k 19 rfl (hF.k 20 rfl (hF.k 21 rfl (hF.k 37 rfl (hF.k 95 rfl (hF.k 100 rfl hF.nil)))))))))))))))))))))))
            refine t_n ?_
            refine c_f hF rfl ?_
            refine wp_exit ?_
            refine t_x ?_
            refine t_x ?_
            refine b_h ?_
            refine t_n ?_
            refine c_s ?_
            refine c_sr ?_
            refine pv hF hW (y_assign hF rfl) (fun a hF => ?_)
            refine l_nil ?_
            refine t_n ?_
            refine wp_block ?_
            refine c_loop (G := Nat) (fun j : Nat => [(22, .int .i64 (j : Int)), (20, .int .i64 ((List.range j).countP (fun i => decide (whoOf x.slots ((t + i : Nat) : Int) = u)) : Nat))]) (fun j : Nat => []) (fun j : Nat => j ≤ (turnsL x.slots).length) (fun j : Nat => (turnsL x.slots).length - j) 0 (Fr.cons hF (t := 0) rfl rfl (Fr.cons hF (t := 1) rfl rfl (Fr.cons hF (t := 2) rfl rfl (Fr.cons hF (t := 3) rfl rfl (Fr.cons hF (t := 7) rfl rfl (Fr.cons hF (t := 8) rfl rfl (Fr.cons hF (t := 9) rfl rfl (Fr.cons hF (t := 10) rfl rfl (Fr.cons hF (t := 11) rfl rfl (Fr.cons hF (t := 12) rfl rfl (Fr.cons hF (t := 13) rfl rfl (Fr.cons hF (t := 14) rfl rfl (Fr.cons hF (t := 15) rfl rfl (Fr.cons hF (t := 16) rfl rfl (Fr.cons hF (t := 17) rfl rfl (Fr.cons hF (t := 18) rfl rfl (Fr.cons hF (t := 19) rfl rfl (Fr.cons hF (t := 21) rfl rfl (Fr.cons hF (t := 37) rfl rfl (Fr.cons hF (t := 95) rfl rfl (Fr.cons hF (t := 100) rfl rfl (Fr.nil hF)))))))))))))))))))))) (Fr.cons hF (t := 22) rfl (by first | rfl | (simp; done)) (Fr.cons hF (t := 20) rfl (by first | rfl | (simp; done)) (Fr.nil hF))) (hW) ?_ ?_
            · omega
            clear hF hW
            try clear a
            intro j a wc hC hF hW
            have hj := hC; have hcl := count_le (fun i => decide (whoOf x.slots ((t + i : Nat) : Int) = u)) j; have hcs : (List.range (j + 1)).countP (fun i => decide (whoOf x.slots ((t + i : Nat) : Int) = u)) = (List.range j).countP (fun i => decide (whoOf x.slots ((t + i : Nat) : Int) = u)) + (if whoOf x.slots ((t : Int) + (j : Int)) = u then 1 else 0) := (by rw [count_step]; simp [Int.natCast_add])
            refine c_s ?_
            refine c_sr ?_
            refine pv hF hW (y_move hF rfl) (fun a hF => ?_)
            refine pv hF hW (y_move hF rfl) (fun a hF => ?_)
            refine pv hF hW (y_lss hF rfl rfl) (fun a hF => ?_)
            refine Fr.splitD hF ?_ ?_
            · intro h8 hF
              refine pv hF hW (y_move hF rfl) (fun a hF => ?_)
              refine pv hF hW (y_move hF rfl) (fun a hF => ?_) (ws hF rfl rfl)
              refine pv hF hW (y_lss hF rfl rfl) (fun a hF => ?_) (ws hF rfl rfl)
              refine Fr.splitD hF ?_ ?_
              · intro h9 hF
                refine pv hF hW (y_pick hF rfl rfl) (fun a hF => ?_)
                refine l_nil ?_
                replace hF := (hF.k 0 rfl (hF.k 1 rfl (hF.k 2 rfl (hF.k 3 rfl (hF.k 7 rfl (hF.k 8 rfl (hF.k 9 rfl (hF.k 10 rfl (hF.k 11 rfl (hF.k 12 rfl (hF.k 13 rfl (hF.k 14 rfl (hF.k 15 rfl (hF.k 16 rfl (hF.k 17 rfl (hF.k 18 rfl (hF.k 19 rfl (hF.k 20 rfl (hF.k 21 rfl (hF.k 22 rfl (hF.k 37 rfl (hF.k 95 rfl (hF.k 100 rfl (hF.k 125 rfl hF.nil))))))))))))))))))))))))
                refine t_n ?_
                refine c_t hF rfl ?_
                refine wp_skip ?_
                refine t_n ?_
                refine c_s ?_
                refine wp_block ?_
                refine c_sr ?_
                refine pv hF hW (y_loadAll hF rfl 2 rfl Try.underlying68 rfl sz_68) (fun a hF => ?_)
                refine pv hF hW (y_move hF rfl) (fun a hF => ?_)
                refine pv hF hW (y_move hF rfl) (fun a hF => ?_)
                refine pv hF hW (y_add hF rfl rfl (IntWalk.i64_in _ (by omega))) (fun a hF => ?_)
                refine pe (e_call hF rfl rfl en_39 (by rfl) rfl rfl (hwho _ hW.below _ (by omega)) ?_)
                rintro e w1 ⟨rfl, hb⟩
                replace hW := hW.kept hb
                clear hb
                refine ⟨_, rfl, fun a hF => ?_⟩
                refine pv hF hW (y_move hF rfl) (fun a hF => ?_)
                refine pv hF hW (y_extract hF rfl rfl) (fun a hF => ?_)
                refine pv hF hW (y_extract hF rfl rfl) (fun a hF => ?_)
                refine pv hF hW (y_assign hF rfl) (fun a hF => ?_)
                refine pv hF hW (y_assign hF rfl) (fun a hF => ?_)
                refine l_nil ?_
                replace hF := (hF.k 0 rfl (hF.k 1 rfl (hF.k 2 rfl (hF.k 3 rfl (hF.k 7 rfl (hF.k 8 rfl (hF.k 9 rfl (hF.k 10 rfl (hF.k 11 rfl (hF.k 12 rfl (hF.k 13 rfl (hF.k 14 rfl (hF.k 15 rfl (hF.k 16 rfl (hF.k 17 rfl (hF.k 18 rfl (hF.k 19 rfl (hF.k 20 rfl (hF.k 21 rfl (hF.k 22 rfl (hF.k 23 rfl (hF.k 24 rfl (hF.k 37 rfl (hF.k 95 rfl (hF.k 100 rfl (hF.k 125 rfl hF.nil))))))))))))))))))))))))))
                refine t_n ?_
                refine c_s ?_
                refine c_sr ?_
                refine pv hF hW (y_move hF rfl) (fun a hF => ?_)
                refine pv hF hW (y_neq hF rfl rfl) (fun a hF => ?_)
                replace hF := Fr.bool (t := false) (by first | decide | (simp; done) | rfl) hF
                refine l_nil ?_
                replace hF := (hF.k 0 rfl (hF.k 1 rfl (hF.k 2 rfl (hF.k 3 rfl (hF.k 7 rfl (hF.k 8 rfl (hF.k 9 rfl (hF.k 10 rfl (hF.k 11 rfl (hF.k 12 rfl (hF.k 13 rfl (hF.k 14 rfl (hF.k 15 rfl (hF.k 16 rfl (hF.k 17 rfl (hF.k 18 rfl (hF.k 19 rfl (hF.k 20 rfl (hF.k 21 rfl (hF.k 22 rfl (hF.k 23 rfl (hF.k 24 rfl (hF.k 37 rfl (hF.k 95 rfl (hF.k 100 rfl (hF.k 125 rfl (hF.k 137 rfl hF.nil)))))))))))))))))))))))))))
                refine t_n ?_
                refine c_f hF rfl ?_
                refine wp_skip ?_
                refine t_n ?_
                refine c_sr ?_
                refine pv hF hW (y_move hF rfl) (fun a hF => ?_)
                refine pv hF hW (y_move hF rfl) (fun a hF => ?_)
                refine pv hF hW (y_eql hF rfl rfl) (fun a hF => ?_)
                refine Fr.splitD hF ?_ ?_
                · intro h10 hF
                  refine l_nil ?_
                  replace hF := (hF.k 0 rfl (hF.k 1 rfl (hF.k 2 rfl (hF.k 3 rfl (hF.k 7 rfl (hF.k 8 rfl (hF.k 9 rfl (hF.k 10 rfl (hF.k 11 rfl (hF.k 12 rfl (hF.k 13 rfl (hF.k 14 rfl (hF.k 15 rfl (hF.k 16 rfl (hF.k 17 rfl (hF.k 18 rfl (hF.k 19 rfl (hF.k 20 rfl (hF.k 21 rfl (hF.k 22 rfl (hF.k 23 rfl (hF.k 24 rfl (hF.k 37 rfl (hF.k 95 rfl (hF.k 100 rfl (hF.k 125 rfl (hF.k 137 rfl (hF.k 140 rfl hF.nil))))))))))))))))))))))))))))
                  refine t_n ?_
                  refine c_t hF rfl ?_
                  refine c_r ?_
                  refine pv hF hW (y_move hF rfl) (fun a hF => ?_)
                  refine pv hF hW (y_add hF rfl rfl (IntWalk.i64_in _ (by omega))) (fun a hF => ?_)
                  replace hF := hF.drop 20
                  refine pv hF hW (y_assign hF rfl) (fun a hF => ?_)
                  refine l_nil ?_
                  replace hF := (hF.k 0 rfl (hF.k 1 rfl (hF.k 2 rfl (hF.k 3 rfl (hF.k 7 rfl (hF.k 8 rfl (hF.k 9 rfl (hF.k 10 rfl (hF.k 11 rfl (hF.k 12 rfl (hF.k 13 rfl (hF.k 14 rfl (hF.k 15 rfl (hF.k 16 rfl (hF.k 17 rfl (hF.k 18 rfl (hF.k 19 rfl (hF.k 20 rfl (hF.k 21 rfl (hF.k 22 rfl (hF.k 23 rfl (hF.k 24 rfl (hF.k 37 rfl (hF.k 95 rfl (hF.k 100 rfl (hF.k 125 rfl (hF.k 137 rfl (hF.k 140 rfl hF.nil))))))))))))))))))))))))))))
                  refine b_n ?_
                  refine t_n ?_
                  refine c_r ?_
                  refine pv hF hW (y_move hF rfl) (fun a hF => ?_)
                  refine pv hF hW (y_add hF rfl rfl (IntWalk.i64_in _ (by omega))) (fun a hF => ?_)
                  replace hF := hF.drop 22
                  refine pv hF hW (y_assign hF rfl) (fun a hF => ?_)
                  refine l_nil ?_
                  replace hF := (hF.k 0 rfl (hF.k 1 rfl (hF.k 2 rfl (hF.k 3 rfl (hF.k 7 rfl (hF.k 8 rfl (hF.k 9 rfl (hF.k 10 rfl (hF.k 11 rfl (hF.k 12 rfl (hF.k 13 rfl (hF.k 14 rfl (hF.k 15 rfl (hF.k 16 rfl (hF.k 17 rfl (hF.k 18 rfl (hF.k 19 rfl (hF.k 20 rfl (hF.k 21 rfl (hF.k 22 rfl (hF.k 23 rfl (hF.k 24 rfl (hF.k 37 rfl (hF.k 95 rfl (hF.k 100 rfl (hF.k 125 rfl (hF.k 137 rfl (hF.k 140 rfl hF.nil))))))))))))))))))))))))))))
                  refine t_n ?_
                  refine ⟨(j + 1), ?_, ?_, ?_, ?_⟩
                  · omega
                  · first | omega | (dsimp only; omega)
                  · exact Fr.app (Fr.cons hF (t := 22) rfl (by first | rfl | (rw [hcs, if_pos (by assumption)]; rfl) | (rw [hcs, if_neg (by assumption)]; rfl) | (simp; done) | omega) (Fr.cons hF (t := 20) rfl (by first | rfl | (rw [hcs, if_pos (by assumption)]; rfl) | (rw [hcs, if_neg (by assumption)]; rfl) | (simp; done) | omega) (Fr.nil hF))) (Fr.cons hF (t := 0) rfl rfl (Fr.cons hF (t := 1) rfl rfl (Fr.cons hF (t := 2) rfl rfl (Fr.cons hF (t := 3) rfl rfl (Fr.cons hF (t := 7) rfl rfl (Fr.cons hF (t := 8) rfl rfl (Fr.cons hF (t := 9) rfl rfl (Fr.cons hF (t := 10) rfl rfl (Fr.cons hF (t := 11) rfl rfl (Fr.cons hF (t := 12) rfl rfl (Fr.cons hF (t := 13) rfl rfl (Fr.cons hF (t := 14) rfl rfl (Fr.cons hF (t := 15) rfl rfl (Fr.cons hF (t := 16) rfl rfl (Fr.cons hF (t := 17) rfl rfl (Fr.cons hF (t := 18) rfl rfl (Fr.cons hF (t := 19) rfl rfl (Fr.cons hF (t := 21) rfl rfl (Fr.cons hF (t := 37) rfl rfl (Fr.cons hF (t := 95) rfl rfl (Fr.cons hF (t := 100) rfl rfl (Fr.nil hF))))))))))))))))))))))
                  · exact hW
                · intro h10 hF
                  refine l_nil ?_
                  replace hF := (hF.k 0 rfl (hF.k 1 rfl (hF.k 2 rfl (hF.k 3 rfl (hF.k 7 rfl (hF.k 8 rfl (hF.k 9 rfl (hF.k 10 rfl (hF.k 11 rfl (hF.k 12 rfl (hF.k 13 rfl (hF.k 14 rfl (hF.k 15 rfl (hF.k 16 rfl (hF.k 17 rfl (hF.k 18 rfl (hF.k 19 rfl (hF.k 20 rfl (hF.k 21 rfl (hF.k 22 rfl (hF.k 23 rfl (hF.k 24 rfl (hF.k 37 rfl (hF.k 95 rfl (hF.k 100 rfl (hF.k 125 rfl (hF.k 137 rfl (hF.k 140 rfl hF.nil))))))))))))))))))))))))))))
                  refine t_n ?_
                  refine c_f hF rfl ?_
                  refine wp_skip ?_
                  refine b_n ?_
                  refine t_n ?_
                  refine c_r ?_
                  refine pv hF hW (y_move hF rfl) (fun a hF => ?_)
                  refine pv hF hW (y_add hF rfl rfl (IntWalk.i64_in _ (by omega))) (fun a hF => ?_)
                  replace hF := hF.drop 22
                  refine pv hF hW (y_assign hF rfl) (fun a hF => ?_)
                  refine l_nil ?_
                  replace hF := (hF.k 0 rfl (hF.k 1 rfl (hF.k 2 rfl (hF.k 3 rfl (hF.k 7 rfl (hF.k 8 rfl (hF.k 9 rfl (hF.k 10 rfl (hF.k 11 rfl (hF.k 12 rfl (hF.k 13 rfl (hF.k 14 rfl (hF.k 15 rfl (hF.k 16 rfl (hF.k 17 rfl (hF.k 18 rfl (hF.k 19 rfl (hF.k 20 rfl (hF.k 21 rfl (hF.k 22 rfl (hF.k 23 rfl (hF.k 24 rfl (hF.k 37 rfl (hF.k 95 rfl (hF.k 100 rfl (hF.k 125 rfl (hF.k 137 rfl (hF.k 140 rfl hF.nil))))))))))))))))))))))))))))
                  refine t_n ?_
                  refine ⟨(j + 1), ?_, ?_, ?_, ?_⟩
                  · omega
                  · first | omega | (dsimp only; omega)
                  · exact Fr.app (Fr.cons hF (t := 22) rfl (by first | rfl | (rw [hcs, if_pos (by assumption)]; rfl) | (rw [hcs, if_neg (by assumption)]; rfl) | (simp; done) | omega) (Fr.cons hF (t := 20) rfl (by first | rfl | (rw [hcs, if_pos (by assumption)]; rfl) | (rw [hcs, if_neg (by assumption)]; rfl) | (simp; done) | omega) (Fr.nil hF))) (Fr.cons hF (t := 0) rfl rfl (Fr.cons hF (t := 1) rfl rfl (Fr.cons hF (t := 2) rfl rfl (Fr.cons hF (t := 3) rfl rfl (Fr.cons hF (t := 7) rfl rfl (Fr.cons hF (t := 8) rfl rfl (Fr.cons hF (t := 9) rfl rfl (Fr.cons hF (t := 10) rfl rfl (Fr.cons hF (t := 11) rfl rfl (Fr.cons hF (t := 12) rfl rfl (Fr.cons hF (t := 13) rfl rfl (Fr.cons hF (t := 14) rfl rfl (Fr.cons hF (t := 15) rfl rfl (Fr.cons hF (t := 16) rfl rfl (Fr.cons hF (t := 17) rfl rfl (Fr.cons hF (t := 18) rfl rfl (Fr.cons hF (t := 19) rfl rfl (Fr.cons hF (t := 21) rfl rfl (Fr.cons hF (t := 37) rfl rfl (Fr.cons hF (t := 95) rfl rfl (Fr.cons hF (t := 100) rfl rfl (Fr.nil hF))))))))))))))))))))))
                  · exact hW
              · intro h9 hF
                refine pv hF hW (y_pick hF rfl rfl) (fun a hF => ?_)
                refine l_nil ?_
                replace hF := (hF.k 0 rfl (hF.k 1 rfl (hF.k 2 rfl (hF.k 3 rfl (hF.k 7 rfl (hF.k 8 rfl (hF.k 9 rfl (hF.k 10 rfl (hF.k 11 rfl (hF.k 12 rfl (hF.k 13 rfl (hF.k 14 rfl (hF.k 15 rfl (hF.k 16 rfl (hF.k 17 rfl (hF.k 18 rfl (hF.k 19 rfl (hF.k 20 rfl (hF.k 21 rfl (hF.k 22 rfl (hF.k 37 rfl (hF.k 95 rfl (hF.k 100 rfl (hF.k 125 rfl hF.nil))))))))))))))))))))))))
                refine t_n ?_
                refine c_f hF rfl ?_
                refine wp_exit ?_
                refine t_x ?_
                refine t_x ?_
                refine b_h ?_
                refine t_n ?_
                refine c_sr ?_
                refine pe (e_call hF rfl rfl en_42 (by rfl) rfl rfl (schedBegun_any _) ?_)
                rintro e w1 ⟨rfl, hb⟩
                replace hW := hW.kept hb
                clear hb
                refine ⟨_, rfl, fun a hF => ?_⟩
                refine pv hF hW (y_move hF rfl) (fun a hF => ?_)
                refine pv hF hW (y_move hF rfl) (fun a hF => ?_) (ws hF rfl rfl)
                refine pv hF hW (y_move hF rfl) (fun a hF => ?_) (ws hF rfl rfl)
                refine pv hF hW (y_eql hF rfl rfl) (fun a hF => ?_) (ws hF rfl rfl)
                refine Fr.splitD hF ?_ ?_
                · intro h11 hF
                  refine pv hF hW (y_pick hF rfl rfl) (fun a hF => ?_)
                  refine pv hF hW (y_assign hF rfl) (fun a hF => ?_)
                  refine l_nil ?_
                  replace hF := (hF.k 0 rfl (hF.k 1 rfl (hF.k 2 rfl (hF.k 3 rfl (hF.k 6 rfl (hF.k 7 rfl (hF.k 8 rfl (hF.k 9 rfl (hF.k 10 rfl (hF.k 11 rfl (hF.k 12 rfl (hF.k 13 rfl (hF.k 14 rfl (hF.k 15 rfl (hF.k 16 rfl (hF.k 17 rfl (hF.k 18 rfl (hF.k 19 rfl (hF.k 20 rfl (hF.k 21 rfl (hF.k 22 rfl (hF.k 37 rfl (hF.k 95 rfl (hF.k 100 rfl (hF.k 125 rfl hF.nil)))))))))))))))))))))))))
                  refine t_n ?_
                  refine wp_ret ?_
                  refine ret1 Try.results11 hF (rv_t hF rfl) ?_
                  exact ⟨rfl, hW.below⟩
                · intro h11 hF
                  exfalso
                  exact h11 (by have := hcount t u; rw [show j = (turnsL x.slots).length by omega, this, List.take_of_length_le (by omega)])
            · intro h8 hF
              refine pv hF hW (y_move hF rfl) (fun a hF => ?_)
              refine p_skip hF (wn hF rfl rfl rfl) rfl rfl (fun a hF => ?_)
              refine p_skip hF (wn hF rfl rfl rfl) rfl rfl (fun a hF => ?_)
              refine pv hF hW (y_pick hF rfl rfl) (fun a hF => ?_)
              refine l_nil ?_
              replace hF := (hF.k 0 rfl (hF.k 1 rfl (hF.k 2 rfl (hF.k 3 rfl (hF.k 7 rfl (hF.k 8 rfl (hF.k 9 rfl (hF.k 10 rfl (hF.k 11 rfl (hF.k 12 rfl (hF.k 13 rfl (hF.k 14 rfl (hF.k 15 rfl (hF.k 16 rfl (hF.k 17 rfl (hF.k 18 rfl (hF.k 19 rfl (hF.k 20 rfl (hF.k 21 rfl (hF.k 22 rfl (hF.k 37 rfl (hF.k 95 rfl (hF.k 100 rfl (hF.k 125 rfl hF.nil))))))))))))))))))))))))
              refine t_n ?_
              refine c_f hF rfl ?_
              refine wp_exit ?_
              refine t_x ?_
              refine t_x ?_
              refine b_h ?_
              refine t_n ?_
              refine c_sr ?_
              refine pe (e_call hF rfl rfl en_42 (by rfl) rfl rfl (schedBegun_any _) ?_)
              rintro e w1 ⟨rfl, hb⟩
              replace hW := hW.kept hb
              clear hb
              refine ⟨_, rfl, fun a hF => ?_⟩
              refine pv hF hW (y_move hF rfl) (fun a hF => ?_)
              refine pv hF hW (y_move hF rfl) (fun a hF => ?_) (ws hF rfl rfl)
              refine pv hF hW (y_move hF rfl) (fun a hF => ?_) (ws hF rfl rfl)
              refine pv hF hW (y_eql hF rfl rfl) (fun a hF => ?_) (ws hF rfl rfl)
              refine Fr.splitD hF ?_ ?_
              · intro h12 hF
                refine pv hF hW (y_pick hF rfl rfl) (fun a hF => ?_)
                refine pv hF hW (y_assign hF rfl) (fun a hF => ?_)
                refine l_nil ?_
                replace hF := (hF.k 0 rfl (hF.k 1 rfl (hF.k 2 rfl (hF.k 3 rfl (hF.k 6 rfl (hF.k 7 rfl (hF.k 8 rfl (hF.k 9 rfl (hF.k 10 rfl (hF.k 11 rfl (hF.k 12 rfl (hF.k 13 rfl (hF.k 14 rfl (hF.k 15 rfl (hF.k 16 rfl (hF.k 17 rfl (hF.k 18 rfl (hF.k 19 rfl (hF.k 20 rfl (hF.k 21 rfl (hF.k 22 rfl (hF.k 37 rfl (hF.k 95 rfl (hF.k 100 rfl (hF.k 125 rfl hF.nil)))))))))))))))))))))))))
                refine t_n ?_
                refine wp_ret ?_
                refine ret1 Try.results11 hF (rv_t hF rfl) ?_
                exact ⟨rfl, hW.below⟩
              · intro h12 hF
                exfalso
                exact h12 (by have := hcount t u; rw [show j = (turnsL x.slots).length by omega, this, List.take_of_length_le (by omega)])
  · rw [show frameOf x.sys = 0 from if_neg hk] at hfr
    generalize chkSys x.sys = E at *
    rw [x.val_eq] at *
    refine enter Try.func11 rfl Try.ntmps11 rfl (fun a hF => ?_)
    have hW := Wd.start w NoB
    refine c_sr ?_
    refine pe (e_box hF hW rfl rfl rfl rfl ?_)
    intro b1 a wc hF hW
    refine pv hF hW (y_assign hF rfl) (fun a hF => ?_)
    refine l_nil ?_
    refine t_n ?_
    refine c_sr ?_
    refine pv hF hW (y_loadAll hF rfl 0 rfl Try.underlying68 rfl sz_68) (fun a hF => ?_)
    refine pe (e_call hF rfl rfl en_38 (by rfl) rfl rfl (hfr _ hW.below) ?_)
    rintro e w1 ⟨rfl, hb⟩
    replace hW := hW.kept hb
    clear hb
    refine ⟨_, rfl, fun a hF => ?_⟩
    refine pv hF hW (y_move hF rfl) (fun a hF => ?_)
    refine pv hF hW (y_extract hF rfl rfl) (fun a hF => ?_)
    refine pv hF hW (y_extract hF rfl rfl) (fun a hF => ?_)
    refine pv hF hW (y_assign hF rfl) (fun a hF => ?_)
    refine pv hF hW (y_assign hF rfl) (fun a hF => ?_)
    refine l_nil ?_
    replace hF := (hF.k 0 rfl (hF.k 1 rfl (hF.k 2 rfl (hF.k 3 rfl (hF.k 6 rfl (hF.k 7 rfl (hF.k 8 rfl hF.nil)))))))
    refine t_n ?_
    refine c_s ?_
    refine c_sr ?_
    refine pv hF hW (y_move hF rfl) (fun a hF => ?_)
    refine pv hF hW (y_neq hF rfl rfl) (fun a hF => ?_)
    refine Fr.splitD hF ?_ ?_
    · intro h2 hF
      refine pv hF hW (y_move hF rfl) (fun a hF => ?_)
      refine p_skip hF (wn hF rfl rfl rfl) rfl rfl (fun a hF => ?_)
      refine p_skip hF (wn hF rfl rfl rfl) rfl rfl (fun a hF => ?_)
      refine p_skip hF (wn hF rfl rfl rfl) rfl rfl (fun a hF => ?_)
      refine p_skip hF (wn hF rfl rfl rfl) rfl rfl (fun a hF => ?_)
      refine pv hF hW (y_pick hF rfl rfl) (fun a hF => ?_)
      refine l_nil ?_
      replace hF := (hF.k 0 rfl (hF.k 1 rfl (hF.k 2 rfl (hF.k 3 rfl (hF.k 6 rfl (hF.k 7 rfl (hF.k 8 rfl (hF.k 37 rfl hF.nil))))))))
      refine t_n ?_
      refine c_t hF rfl ?_
      refine c_sr ?_
      refine pe (e_call hF rfl rfl en_42 (by rfl) rfl rfl (schedBegun_any _) ?_)
      rintro e w1 ⟨rfl, hb⟩
      replace hW := hW.kept hb
      clear hb
      refine ⟨_, rfl, fun a hF => ?_⟩
      replace hF := hF.drop 6
      refine pv hF hW (y_assign hF rfl) (fun a hF => ?_)
      refine l_nil ?_
      replace hF := (hF.k 0 rfl (hF.k 1 rfl (hF.k 2 rfl (hF.k 3 rfl (hF.k 6 rfl (hF.k 7 rfl (hF.k 8 rfl (hF.k 37 rfl hF.nil))))))))
      refine t_n ?_
      refine wp_ret ?_
      refine t_r ?_
      refine ret1 Try.results11 hF (rv_t hF rfl) ?_
      exact ⟨rfl, hW.below⟩
    · intro h2 hF
      exfalso
      omega

set_option maxRecDepth 100000 in
theorem schedTrue_contract (H : Type) (enc : TypeId × Value → H) (W : World) (base : Nat) (args : Array Value) (ds gs : List (DataW H)) (before : List MemPlace)
    (hval : ∀ (j : Nat) t v, Try.f11.params[j]? = some t → args[j]? = some v → Value.okWide Try.prog W .any base t v)
    (hW : DataW.Whole enc Try.prog Try.f11.params.toList Rows.schedTrueSpec.vars false W args.toList ds gs before) :
    Calls Try.prog 11 args W fun e W' => ∃ v, e = .returned v ∧ Rows.schedTrueSpec.post enc Try.prog Try.f11 false true false false W args v W' := by
  have hW' := hW
  obtain ⟨p, q, hA0, hV, rfl, hfz, hnd⟩ := hW
  have hA : DataW.TrodAll enc Try.prog W 0 (fun _ => true) true Try.f11.params.toList args.toList ds p := hA0
  rw [Try.params11] at hA hval
  obtain ⟨v0, v1, v2, d0, d1, d2, p0, p1, p2, rfl, rfl, rfl, h0, h1, h2⟩ := trodAll_three hA
  obtain ⟨x, rfl, hx⟩ := sys_open (hval 0 68 v0 rfl rfl) h0
  obtain ⟨n, rfl, rfl, rfl, wk1⟩ := open_int Try.underlying3 (hval 1 3 v1 rfl rfl) h1
  obtain ⟨m, rfl, rfl, rfl, wk2⟩ := open_int Try.underlying3 (hval 2 3 v2 rfl rfl) h2
  refine (schedTrue_run x n m W hx (bounds_i64 wk1) (bounds_i64 wk2)).mono fun e W' ⟨he, hb⟩ => ?_
  subst he
  exact ⟨_, rfl, law_post Try.laidOut hW' hb rfl (by kernel_rfl) Try.underlying4 (by kernel_rfl) rfl⟩

set_option maxRecDepth 100000 in
theorem schedTrue_lifted (os : Os) (started : os.Started) (H : Type) (enc : TypeId × Value → H) :
    ReturnsInHanded {} Try.checked os 11 .any (Rows.schedTrueSpec.pre6 enc Try.prog Try.f11 Rows.schedTrueRow.domain false) (Rows.schedTrueSpec.post enc Try.prog Try.f11 false true false false) := by
  refine returnsInHanded_of_change (C := Try.checked) Try.own started (by kernel_rfl) Try.func11
    (ChangeSpec.witness6 (enc := enc) (C := Try.checked) false ⟨#[], #[.agg #[.slice none 0 0, .slice none 0 0, .slice none 0 0], .int .i64 0, .int .i64 0], []⟩ 8 (by kernel_rfl) (by kernel_rfl) (by kernel_rfl) (by kernel_rfl)) ?_
  intro W base args ds gs before hval hW _ _
  exact schedTrue_contract H enc W base args ds gs before hval hW

theorem schedTrue_holds : Rows.SchedTrueSaid :=
  OpenClaim.holds_of_wide 11 Try.f11 rfl rfl rfl rfl rfl rfl rfl ⟨rfl, rfl, rfl, rfl, rfl⟩ rfl rfl rfl rfl rfl (by kernel_rfl) Try.func11 (by kernel_rfl)
    (of_decide_eq_true (by kernel_rfl)) (by unfold Func.isWrapper; first | (rw [if_pos (by decide +kernel)]; kernel_rfl) | (rw [if_neg (by decide +kernel)]; exact ⟨rfl, rfl⟩))
    (fun os started H enc _ => schedTrue_lifted os started H enc)
end Go.Proofs.Ytebklpbbglojmaa
