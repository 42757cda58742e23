/- The worker's do: Out, and do whole. -/
import Derived.Test.YtebklpbbglojmaaCellDoD
import Derived.Deep.RegionLaw
import Derived.Test.YtebklpbbglojmaaCodeChk
namespace Go.Proofs.Ytebklpbbglojmaa
set_option linter.unusedVariables false
set_option linter.unusedSimpArgs false
open Go.RowKit

theorem Work.setOut {w : World} {B : Nat} {c : Cel} {ov iv : Value} {k : Wnt} {inp : List Int} (h : Work w B c ov iv k inp) {u : Value} {o : List Int} (hu : OwnAs 3 w (B + 1) u o) :
    Work (w.setCell ⟨B, 14, none⟩ u) B { c with out := o } u iv k inp :=
  ⟨(h.blk.set 14 u).same (set_out h.wf o u), h.wf, hu.set (by simp) u, h.inp.on (Below.set_ (Below.refl B w) (Nat.le_refl B) u)⟩

theorem Work.grown {w w' : World} {B : Nat} {c : Cel} {ov iv : Value} {k : Wnt} {inp : List Int} (h : Work w B c ov iv k inp) (hg : w.grownBy w' ov.ownBlock) : Below (B + 1) w w' :=
  ⟨hg.os, hg.tape, hg.output, hg.size, fun j hj => hg.block j (by have := h.blk.lt; omega) (fun e => by have := (World.ownsRow.lt h.out j e.symm).1; omega)⟩

theorem Work.appended {w w' : World} {B : Nat} {c : Cel} {ov iv u : Value} {k : Wnt} {inp o : List Int} (h : Work w B c ov iv k inp) (hb : Below (B + 1) w w') (hu : OwnAs 3 w' (B + 1) u o) :
    Work (w'.setCell ⟨B, 14, none⟩ u) B { c with out := o } u iv k inp :=
  ⟨((h.blk.below hb (Nat.lt_succ_self B)).set 14 u).same (set_out h.wf o u), h.wf, hu.set (by simp) u, (h.inp.on (hb.mono (Nat.le_succ B))).on (Below.set_ (Below.refl B w') (Nat.le_refl B) u)⟩

set_option maxRecDepth 100000 in
set_option maxHeartbeats 1000000 in
theorem do_11 (B a b : Nat) (n : Int) (ha : a < 4) (hb : b < 4) (c : Cel) (ov iv : Value) (inp : List Int) (w : World) (hw : Work w B c ov iv Wnt.zero inp) (h0 : 0 ≤ c.at_) (h1 : c.at_ ≤ 20) :
    Calls Try.prog 83 #[.pointer (some ⟨B, 0, none⟩), .agg #[.int .i64 11, .int .i64 a, .int .i64 b, .int .i64 n]] w (Did w B iv inp (doOf ⟨11, a, b, n⟩ c inp) c ov Wnt.zero) := by
  have hblk := hw.blk
  have hwf := hw.wf
  have c0 : w.cell? ⟨B, 0, none⟩ = some (.int .i64 c.at_) := (hblk.cell 0).trans work_at
  have ca : w.cell? ⟨B, 1 + a, none⟩ = some (.int .i64 (c.regs.getD a 0)) := (hblk.cell _).trans (work_reg hwf ha)
  have cb : w.cell? ⟨B, 1 + b, none⟩ = some (.int .i64 (c.regs.getD b 0)) := (hblk.cell _).trans (work_reg hwf hb)
  have fz := hblk.frozen
  have hlt := hblk.lt
  have a0 : (0 : Int) ≤ (a : Int) := by omega
  have a4 : (a : Int) < 4 := by omega
  have b0 : (0 : Int) ≤ (b : Int) := by omega
  have b4 : (b : Int) < 4 := by omega
  have HW := hide hw
  clear hw hblk hwf
  obtain ⟨ra, hra⟩ : ∃ r, c.regs.getD a 0 = r := ⟨_, rfl⟩
  obtain ⟨rb, hrb⟩ : ∃ r, c.regs.getD b 0 = r := ⟨_, rfl⟩
  rw [hra] at ca
  rw [hrb] at cb
  have HRA := hide hra
  have HRB := hide hrb
  clear hra hrb
  have k14 : w.cell? ⟨B, 14, none⟩ = some ov := (HW.out.blk.cell _).trans (work_out HW.out.wf)
  obtain ⟨A, cc, rfl⟩ := HW.out.out.form rfl
  obtain ⟨m, hm⟩ : ∃ m, c.out.length = m := ⟨_, rfl⟩
  rw [hm] at HW k14 ⊢
  have HM := hide hm
  clear hm
  by_cases hm16 : m < 16
  · have hd : decide ((m : Int) < 16) = true := by simp <;> omega
    obtain ⟨i0, hi0, hz0, hz1, hz2⟩ := info_parts info_int
    have HO := hide HW.out.out
    go_enter Try.func83, Try.ntmps83
    go_wp2_with fail
    go_quiet (fail)
    go_wp2_with fail
    go_region_law (refine step_append_row _ rfl (.tmp 117) (.tmp 121) 22 rfl (B + 1) 3 i0 _ 1 8 Try.underlying22 hi0 hz0 hz1 hz2 rfl (Nat.lt_succ_self 0) (.slice A m cc) m (c.out.map (.int .i64)) (by simp [Act.eval, Act.put]) (by have h := HO.out; rw [OwnAs, HM.out] at h; exact ownsRow_kept_below h (by repeat' (first | exact Below.refl _ _ | assumption | refine Below.alloc1 ?_ _ | refine Below.drewN1 ?_ _ | refine Below.drew ?_ | refine Below.setCell1 ?_ ?_ _ | refine Below.via ?_ (by assumption) | refine Below.viaD ?_ (by assumption) | omega | (simp; done) | (simp; omega)))) _ 1 1 [.int .i64 ra] (by simp [Act.eval, Act.put]) (RowAt.new _ #[.int .i64 ra] _ 1 1 rfl) (oneCell_ints [ra]) (m + 1) _ rfl rfl (by unfold maxLen; omega) (by omega) (by simp <;> omega) ?_; intro A' c' w' hown' hg' hat'; have hbw' := ((HW.out.alloc _).drewN _ |>.alloc _).grown hg'; have hbk' := (((HW.out.alloc _).drewN _ |>.alloc _).blk).below hbw' (Nat.lt_succ_self B); have c0' : w'.cell? ⟨B, 0, none⟩ = some (.int .i64 c.at_) := (hbk'.cell 0).trans work_at; have k14' : w'.cell? ⟨B, 14, none⟩ = some (.slice A m cc) := (hbk'.cell _).trans (work_out HW.out.wf); have fz' := hbk'.frozen; clear hbk')
    all_goals
      go_wp2_with fail
      go_end0
      have hu : OwnAs 3 w' (B + 1) (.slice A' (m + 1) c') (c.out ++ [ra]) := OwnAs.of_own (n := m + 1) (by rw [List.map_append]; exact hown') (Nat.le_refl _)
      have hb1 := hbw'.mono (Nat.le_succ B)
      refine Did.ok (c' := { c with out := c.out ++ [ra], at_ := c.at_ + 1 }) (k' := Wnt.zero) (by show some ({ c with out := (if c.out.length < 16 then c.out ++ [c.regs.getD a 0] else c.out), at_ := c.at_ + 1 }, Wnt.zero) = _; rw [HM.out, HRA.out, if_pos hm16]) ?_ _ ((Work.appended ((HW.out.alloc _).drewN _ |>.alloc _) hbw' hu).setAt _)
      refine Below.set_ (Below.set_ (Below.trans ?_ hb1) (Nat.le_refl _) _) (Nat.le_refl _) _
      exact Below.alloc_ (below_drewN (Below.alloc_ (Below.refl _ _) (Nat.le_of_lt hlt) _) _) (by simp <;> omega) _
  · have hd : decide ((m : Int) < 16) = false := by simp <;> omega
    go_enter Try.func83, Try.ntmps83
    go_wp2_with fail
    go_quiet (fail)
    go_wp2_with fail
    go_end0
    exact Did.ok (c' := { c with at_ := c.at_ + 1 }) (k' := Wnt.zero) (by show some ({ c with out := (if c.out.length < 16 then c.out ++ [c.regs.getD a 0] else c.out), at_ := c.at_ + 1 }, Wnt.zero) = _; rw [HM.out, if_neg hm16]) (by repeat' (first | with_reducible exact Below.refl _ _ | with_reducible refine below_drewN ?_ _ | with_reducible refine Below.set_ ?_ (Nat.le_refl _) _ | with_reducible refine Below.alloc_ ?_ (Nat.le_of_lt hlt) _)) _ (((HW.out.alloc _).setAt _).drewN _)

/-- a right instruction's registers are registers -/
theorem chk_regs {op a b n : Int} (h : chkI op a b n = 0) : (1 ≤ op ∧ op ≤ 15) ∧ (0 ≤ a ∧ a < 4) ∧ (0 ≤ b ∧ b < 4) := by
  unfold chkI at h
  by_cases h1 : ¬ (1 ≤ op ∧ op ≤ 15)
  · rw [if_pos h1] at h; omega
  · rw [if_neg h1] at h
    have h1' : 1 ≤ op ∧ op ≤ 15 := by omega
    split at h
    · omega
    · rename_i h2
      split at h
      · omega
      · split at h
        · omega
        · rename_i h3
          refine ⟨h1', ?_, ?_⟩
          · cases ha : hasA op <;> simp [ha, regOk] at h2 h3 <;> omega
          · cases hb : hasB op <;> simp [hb, regOk] at h2 h3 <;> omega

theorem do_any (i : Ins) (hi : chkIns i = 0) (B : Nat) (c : Cel) (ov iv : Value) (inp : List Int) (w : World) (hw : Work w B c ov iv Wnt.zero inp) (h0 : 0 ≤ c.at_) (h1 : c.at_ ≤ 20) (hr0 : 0 ≤ c.read) (hr1 : c.read ≤ inp.length) (hr2 : c.read ≤ 12) :
    Calls Try.prog 83 #[.pointer (some ⟨B, 0, none⟩), i.val] w (Did w B iv inp (doOf i c inp) c ov Wnt.zero) := by
  obtain ⟨op, a, b, n⟩ := i
  obtain ⟨hop, ⟨a0, a4⟩, b0, b4⟩ := chk_regs hi
  dsimp only at hop a0 a4 b0 b4
  obtain ⟨a, rfl⟩ := Int.eq_ofNat_of_zero_le a0
  obtain ⟨b, rfl⟩ := Int.eq_ofNat_of_zero_le b0
  have ha : a < 4 := by omega
  have hb : b < 4 := by omega
  rcases op_cases hop with rfl | rfl | rfl | rfl | rfl | rfl | rfl | rfl | rfl | rfl | rfl | rfl | rfl | rfl | rfl
  · exact do_1 B a b n ha hb c ov iv inp w hw h0 h1
  · exact do_2 B a b n ha hb c ov iv inp w hw h0 h1
  · exact do_3 B a b n ha hb c ov iv inp w hw h0 h1
  · exact do_4 B a b n ha hb c ov iv inp w hw h0 h1
  · exact do_5 B a b n ha hb c ov iv inp w hw h0 h1
  · exact do_6ok B a b n ha hb c ov iv inp w hw h0 h1
  · exact do_7 B a b n ha hb c ov iv inp w hw h0 h1
  · exact do_8 B a b n ha hb c ov iv inp w hw h0 h1
  · exact do_9 B a b n ha hb c ov iv inp w hw h0 h1
  · exact do_10 B a b n ha hb c ov iv inp w hw h0 h1 hr0 hr1 hr2
  · exact do_11 B a b n ha hb c ov iv inp w hw h0 h1
  · exact do_12 B a b n ha hb c ov iv inp w hw h0 h1
  · exact do_13 B a b n ha hb c ov iv inp w hw h0 h1
  · exact do_14 B a b n ha hb c ov iv inp w hw h0 h1
  · exact do_15 B a b n ha hb c ov iv inp w hw h0 h1
end Go.Proofs.Ytebklpbbglojmaa
