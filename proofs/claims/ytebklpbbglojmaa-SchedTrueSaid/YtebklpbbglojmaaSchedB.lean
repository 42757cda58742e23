/- sched.Frame and sched.Who: what they tell. -/
import Derived.Test.YtebklpbbglojmaaSchedA
import Derived.Test.YtebklpbbglojmaaEngR
import Derived.Test.YtebklpbbglojmaaConfPl
namespace Go.Proofs.Ytebklpbbglojmaa
set_option linter.unusedVariables false
set_option linter.unusedSimpArgs false
open Go.ChangeShapes Go.WideShapes Go.ChangeAt Go.RowKit Go.Shelf

attribute [local go_sem] Oper.semAt_some
set_option maxRecDepth 100000

theorem plain_addr {w : World} {p : Addr} {u : Value} (h : w.cell? p = some u) : p = ⟨p.block, p.off, none⟩ := by
  obtain ⟨b, o, sp⟩ := p
  cases sp with
  | none => rfl
  | some s =>
    unfold World.cell? at h
    dsimp only at h
    split at h
    · simp at h
    · cases h
/-- what is known of the slots of a right system -/
structure Frm (x : SysD) (w : World) (b off : Nat) : Prop where
  sa : x.sa = some ⟨b, off, none⟩
  lt : b < w.heap.size
  pos : 0 < x.slots.length
  le : x.slots.length ≤ 1000
  sum : ∀ k, k ≤ x.slots.length → 0 ≤ tick0 x.slots k ∧ tick0 x.slots k ≤ 1000
  frame : 0 < tick0 x.slots x.slots.length
  row : RF w (some ⟨b, off, none⟩) x.slots.length 2 (fun k => Slt.cells (x.slots.getD k S0))
theorem tick0_le {ss : List Slt} (h : ∀ k, k < ss.length → 1 ≤ (ss.getD k S0).ticks ∧ (ss.getD k S0).ticks ≤ 8) : ∀ k, k ≤ ss.length → (k : Int) ≤ tick0 ss k ∧ tick0 ss k ≤ 8 * k
  | 0, _ => by simp [tick0_zero]
  | k + 1, hk => by
    have ih := tick0_le h k (by omega)
    have := h k (by omega)
    rw [tick0_succ (by omega)]
    omega
theorem slots_ok {x : SysD} (hk : chkSys x.sys = 0) {k : Nat} (h : k < x.slots.length) : (0 ≤ (x.slots.getD k S0).part ∧ (x.slots.getD k S0).part < x.parts.length) ∧ 1 ≤ (x.slots.getD k S0).ticks ∧ (x.slots.getD k S0).ticks ≤ 8 := by
  have h5 := (chkSys_zero hk).2.2.2.2.1
  have := List.all_eq_true.1 h5 _ (mem_getD (l := x.slots) S0 h)
  simp only [sltOk, partOk, SysD.sys, List.length_map, Bool.and_eq_true] at this
  exact ⟨of_decide_eq_true this.1, of_decide_eq_true this.2⟩
theorem frm_of {x : SysD} {w : World} (hx : x.At w) (hk : chkSys x.sys = 0) : ∃ b off, Frm x w b off := by
  obtain ⟨_, _, ⟨h1, h2⟩, _⟩ := sizes_get (chkSys_zero hk).1
  have hR := hx.slotsR
  obtain ⟨ha, hc⟩ := hR (by omega)
  have hcell := hc 0 (by omega) 0 _ rfl
  have hpl := plain_addr hcell
  have hlt := World.block_lt_of_cell? w _ hcell
  obtain ⟨q, hq⟩ : ∃ q, adr x.sa = q := ⟨_, rfl⟩
  rw [hq] at hcell hlt hpl ha
  obtain ⟨b, off, sp⟩ := q
  have hsp : sp = none := congrArg Addr.spot hpl
  subst hsp
  have ht := tick0_le (ss := x.slots) fun k hk' => (slots_ok hk hk').2
  refine ⟨b, off, ha, hlt, by omega, by omega, fun k hk' => ?_, ?_, by rw [← ha]; exact hR⟩
  · have := ht k hk'; omega
  · have := ht _ (Nat.le_refl _); omega
theorem Frm.below {x : SysD} {w w' : World} {b off : Nat} (h : Frm x w b off) (hb : Below w.heap.size w w') : Frm x w' b off :=
  ⟨h.sa, Nat.lt_of_lt_of_le h.lt hb.size, h.pos, h.le, h.sum, h.frame, h.row.below hb⟩
theorem frame_any {x : SysD} {w : World} {b off : Nat} (h : Frm x w b off) : Calls Try.prog 78 #[x.val] w fun e w' => e = .returned (.int .i64 (tick0 x.slots x.slots.length)) ∧ Below w.heap.size w w' := by
  rw [x.val_eq, h.sa]
  exact callsIn_wide.1 (frame_in 5 (by omega) rfl h.pos h.sum h.le h.row h.lt)
theorem slots_any (v1 v2 v3 : Value) (w : World) : Calls Try.prog 79 #[.agg #[v1, v2, v3]] w fun e w' => ∃ B, e = .returned (.func (.func 93) #[] #[.pointer (some ⟨B, 0, none⟩)]) ∧ Wd w NoB [.blk B 68 [v1, v2, v3]] w' :=
  (callsIn_wide.1 (slots_in 5 v1 v2 v3 w)).mono fun e w' ⟨he, hw⟩ => ⟨_, he, hw ▸ (Wd.start w NoB).new #[v1, v2, v3] 68⟩

def frameOf (s : Sys) : Int := if chkSys s = 0 then tick0 s.slots s.slots.length else 0
theorem schedFrame_any {x : SysD} {w : World} (hx : x.At w) : Calls Try.prog 38 #[x.val] w fun e w' => e = .returned (.tuple #[.int .i64 (frameOf x.sys), .int .i64 (chkSys x.sys)]) ∧ Below w.heap.size w w' := by
  by_cases hk : chkSys x.sys = 0
  · obtain ⟨b, off, hf⟩ := frm_of hx hk
    have hchk := fun w1 (hb : Below w.heap.size w w1) => confCheck_any (hx.below hb)
    have hfr := fun w1 (hb : Below w.heap.size w w1) => frame_any (hf.below hb)
    rw [show frameOf x.sys = tick0 x.slots x.slots.length from if_pos hk]
    rw [hk] at *
    rw [x.val_eq] at *
    refine enter Try.func38 rfl Try.ntmps38 rfl (fun a hF => ?_)
    have hW := Wd.start w NoB
    refine c_sr ?_
    refine pe (e_box hF hW rfl rfl rfl rfl ?_)
    intro b1 a wc hF hW
    refine pv hF hW (y_assign hF rfl) (fun a hF => ?_)
    refine pv hF hW (y_assign hF rfl) (fun a hF => ?_)
    refine l_nil ?_
    refine t_n ?_
    refine c_s ?_
    refine c_sr ?_
    refine pv hF hW (y_loadAll hF rfl 0 rfl Try.underlying68 rfl sz_68) (fun a hF => ?_)
    refine pe (e_call hF rfl rfl en_35 (by rfl) rfl rfl (hchk _ hW.below) ?_)
    rintro e w1 ⟨rfl, hb⟩
    replace hW := hW.kept hb
    clear hb
    refine ⟨_, rfl, fun a hF => ?_⟩
    refine pv hF hW (y_assign hF rfl) (fun a hF => ?_)
    refine l_nil ?_
    replace hF := (hF.k 0 rfl (hF.k 1 rfl (hF.k 2 rfl (hF.k 3 rfl (hF.k 4 rfl hF.nil)))))
    refine t_n ?_
    refine c_sr ?_
    refine pv hF hW (y_move hF rfl) (fun a hF => ?_)
    refine pv hF hW (y_neq hF rfl rfl) (fun a hF => ?_)
    replace hF := Fr.bool (t := false) (by first | decide | (simp; done) | rfl) hF
    refine l_nil ?_
    replace hF := (hF.k 0 rfl (hF.k 1 rfl (hF.k 2 rfl (hF.k 3 rfl (hF.k 4 rfl (hF.k 8 rfl hF.nil))))))
    refine t_n ?_
    refine c_f hF rfl ?_
    refine wp_skip ?_
    refine t_n ?_
    refine c_sr ?_
    refine pv hF hW (y_loadAll hF rfl 0 rfl Try.underlying68 rfl sz_68) (fun a hF => ?_)
    refine pe (e_call hF rfl rfl en_78 (by rfl) rfl rfl (hfr _ hW.below) ?_)
    rintro e w1 ⟨rfl, hb⟩
    replace hW := hW.kept hb
    clear hb
    refine ⟨_, rfl, fun a hF => ?_⟩
    replace hF := hF.drop 2
    refine pv hF hW (y_assign hF rfl) (fun a hF => ?_)
    replace hF := hF.drop 3
    refine pv hF hW (y_assign hF rfl) (fun a hF => ?_)
    refine l_nil ?_
    replace hF := (hF.k 0 rfl (hF.k 1 rfl (hF.k 2 rfl (hF.k 3 rfl (hF.k 4 rfl (hF.k 8 rfl hF.nil))))))
    refine t_n ?_
    refine wp_ret ?_
    refine ret2 Try.results38 hF (rv_t hF rfl) (rv_t hF rfl) ?_
    exact ⟨rfl, hW.below⟩
  · have hchk := fun w1 (hb : Below w.heap.size w w1) => confCheck_any (hx.below hb)
    rw [show frameOf x.sys = 0 from if_neg hk]
    generalize chkSys x.sys = E at *
    rw [x.val_eq] at *
    refine enter Try.func38 rfl Try.ntmps38 rfl (fun a hF => ?_)
    have hW := Wd.start w NoB
    refine c_sr ?_
    refine pe (e_box hF hW rfl rfl rfl rfl ?_)
    intro b1 a wc hF hW
    refine pv hF hW (y_assign hF rfl) (fun a hF => ?_)
    refine pv hF hW (y_assign hF rfl) (fun a hF => ?_)
    refine l_nil ?_
    refine t_n ?_
    refine c_s ?_
    refine c_sr ?_
    refine pv hF hW (y_loadAll hF rfl 0 rfl Try.underlying68 rfl sz_68) (fun a hF => ?_)
    refine pe (e_call hF rfl rfl en_35 (by rfl) rfl rfl (hchk _ hW.below) ?_)
    rintro e w1 ⟨rfl, hb⟩
    replace hW := hW.kept hb
    clear hb
    refine ⟨_, rfl, fun a hF => ?_⟩
    refine pv hF hW (y_assign hF rfl) (fun a hF => ?_)
    refine l_nil ?_
    replace hF := (hF.k 0 rfl (hF.k 1 rfl (hF.k 2 rfl (hF.k 3 rfl (hF.k 4 rfl hF.nil)))))
    refine t_n ?_
    refine c_sr ?_
    refine pv hF hW (y_move hF rfl) (fun a hF => ?_)
    refine pv hF hW (y_neq hF rfl rfl) (fun a hF => ?_)
    refine Fr.splitD hF ?_ ?_
    · intro h2 hF
      refine l_nil ?_
      replace hF := (hF.k 0 rfl (hF.k 1 rfl (hF.k 2 rfl (hF.k 3 rfl (hF.k 4 rfl (hF.k 8 rfl hF.nil))))))
      refine t_n ?_
      refine c_t hF rfl ?_
      refine c_sr ?_
      refine pv hF hW (y_move hF rfl) (fun a hF => ?_)
      replace hF := hF.drop 2
      refine pv hF hW (y_assign hF rfl) (fun a hF => ?_)
      replace hF := hF.drop 3
      refine pv hF hW (y_assign hF rfl) (fun a hF => ?_)
      refine l_nil ?_
      replace hF := (hF.k 0 rfl (hF.k 1 rfl (hF.k 2 rfl (hF.k 3 rfl (hF.k 4 rfl (hF.k 8 rfl hF.nil))))))
      refine t_n ?_
      refine wp_ret ?_
      refine t_r ?_
      refine ret2 Try.results38 hF (rv_t hF rfl) (rv_t hF rfl) ?_
      exact ⟨rfl, hW.below⟩
    · intro h2 hF
      exfalso
      omega

/-- whose turn: the slot in which a tick of a frame lies -/
def Turn (ss : List Slt) (t : Int) (p : Int) : Prop := ∃ k, k < ss.length ∧ tick0 ss k ≤ t ∧ t < tick0 ss (k + 1) ∧ p = (ss.getD k S0).part
theorem who_bad {x : SysD} {w : World} (hx : x.At w) (hk : chkSys x.sys ≠ 0) (t : Int) : Calls Try.prog 39 #[x.val, .int .i64 t] w fun e w' => e = .returned (.tuple #[.int .i64 0, .int .i64 (chkSys x.sys)]) ∧ Below w.heap.size w w' := by
  have hchk := fun w1 (hb : Below w.heap.size w w1) => confCheck_any (hx.below hb)
  generalize chkSys x.sys = E at *
  rw [x.val_eq] at *
  refine enter Try.func39 rfl Try.ntmps39 rfl (fun a hF => ?_)
  have hW := Wd.start w NoB
  refine c_sr ?_
  refine pe (e_box hF hW rfl rfl rfl rfl ?_)
  intro b1 a wc hF hW
  refine pe (e_box hF hW rfl rfl rfl rfl ?_)
  intro b2 a wc hF hW
  refine pe (e_alloc hF hW ze_3 rfl rfl rfl ?_)
  intro b3 a wc hF hW
  refine pe (e_alloc hF hW ze_25 rfl rfl rfl ?_)
  intro b4 a wc hF hW
  refine l_nil ?_
  refine t_n ?_
  refine c_s ?_
  refine c_sr ?_
  refine pv hF hW (y_loadAll hF rfl 3 rfl Try.underlying68 rfl sz_68) (fun a hF => ?_)
  refine pe (e_call hF rfl rfl en_35 (by rfl) rfl rfl (hchk _ hW.below) ?_)
  rintro e w1 ⟨rfl, hb⟩
  replace hW := hW.kept hb
  clear hb
  refine ⟨_, rfl, fun a hF => ?_⟩
  refine pv hF hW (y_assign hF rfl) (fun a hF => ?_)
  refine l_nil ?_
  replace hF := (hF.k 0 rfl (hF.k 1 rfl (hF.k 2 rfl (hF.k 3 rfl (hF.k 4 rfl (hF.k 5 rfl (hF.k 6 rfl hF.nil)))))))
  refine t_n ?_
  refine c_sr ?_
  refine pv hF hW (y_move hF rfl) (fun a hF => ?_)
  refine pv hF hW (y_neq hF rfl rfl) (fun a hF => ?_)
  refine Fr.splitD hF ?_ ?_
  · intro h5 hF
    refine l_nil ?_
    replace hF := (hF.k 0 rfl (hF.k 1 rfl (hF.k 2 rfl (hF.k 3 rfl (hF.k 4 rfl (hF.k 5 rfl (hF.k 6 rfl (hF.k 12 rfl hF.nil))))))))
    refine t_n ?_
    refine c_t hF rfl ?_
    refine c_sr ?_
    refine pv hF hW (y_move hF rfl) (fun a hF => ?_)
    refine pe (e_store rfl hF hW rfl rfl 1 rfl rfl rfl sz_3 ?_)
    intro wc hW
    refine pe (e_store rfl hF hW rfl rfl 0 rfl rfl rfl sz_25 ?_)
    intro wc hW
    refine l_nil ?_
    replace hF := (hF.k 0 rfl (hF.k 1 rfl (hF.k 2 rfl (hF.k 3 rfl (hF.k 4 rfl (hF.k 5 rfl (hF.k 6 rfl (hF.k 12 rfl hF.nil))))))))
    refine t_n ?_
    refine wp_ret ?_
    refine t_r ?_
    refine ret2 Try.results39 hF (rv_c1 hF rfl hW 1 rfl rfl Try.underlying3 rfl) (rv_c1 hF rfl hW 0 rfl rfl Try.underlying25 rfl) ?_
    exact ⟨rfl, hW.below⟩
  · intro h5 hF
    exfalso
    omega
theorem who_neg {x : SysD} {w : World} (hx : x.At w) (hk : chkSys x.sys = 0) (t : Int) (ht : t < 0) : Calls Try.prog 39 #[x.val, .int .i64 t] w fun e w' => e = .returned (.tuple #[.int .i64 0, .int .i64 3]) ∧ Below w.heap.size w w' := by
  have hchk := fun w1 (hb : Below w.heap.size w w1) => confCheck_any (hx.below hb)
  rw [hk] at *
  rw [x.val_eq] at *
  refine enter Try.func39 rfl Try.ntmps39 rfl (fun a hF => ?_)
  have hW := Wd.start w NoB
  refine c_sr ?_
  refine pe (e_box hF hW rfl rfl rfl rfl ?_)
  intro b1 a wc hF hW
  refine pe (e_box hF hW rfl rfl rfl rfl ?_)
  intro b2 a wc hF hW
  refine pe (e_alloc hF hW ze_3 rfl rfl rfl ?_)
  intro b3 a wc hF hW
  refine pe (e_alloc hF hW ze_25 rfl rfl rfl ?_)
  intro b4 a wc hF hW
  refine l_nil ?_
  refine t_n ?_
  refine c_s ?_
  refine c_sr ?_
  refine pv hF hW (y_loadAll hF rfl 3 rfl Try.underlying68 rfl sz_68) (fun a hF => ?_)
  refine pe (e_call hF rfl rfl en_35 (by rfl) rfl rfl (hchk _ hW.below) ?_)
  rintro e w1 ⟨rfl, hb⟩
  replace hW := hW.kept hb
  clear hb
  refine ⟨_, rfl, fun a hF => ?_⟩
  refine pv hF hW (y_assign hF rfl) (fun a hF => ?_)
  refine l_nil ?_
  replace hF := (hF.k 0 rfl (hF.k 1 rfl (hF.k 2 rfl (hF.k 3 rfl (hF.k 4 rfl (hF.k 5 rfl (hF.k 6 rfl hF.nil)))))))
  refine t_n ?_
  refine c_sr ?_
  refine pv hF hW (y_move hF rfl) (fun a hF => ?_)
  refine pv hF hW (y_neq hF rfl rfl) (fun a hF => ?_)
  replace hF := Fr.bool (t := false) (by first | decide | (simp; done) | rfl) hF
  refine l_nil ?_
  replace hF := (hF.k 0 rfl (hF.k 1 rfl (hF.k 2 rfl (hF.k 3 rfl (hF.k 4 rfl (hF.k 5 rfl (hF.k 6 rfl (hF.k 12 rfl hF.nil))))))))
  refine t_n ?_
  refine c_f hF rfl ?_
  refine wp_skip ?_
  refine t_n ?_
  refine c_s ?_
  refine c_sr ?_
  refine pv hF hW (y_loadOwn hF rfl 2 rfl rfl Try.underlying3 rfl) (fun a hF => ?_)
  refine pv hF hW (y_lss hF rfl rfl) (fun a hF => ?_)
  refine Fr.splitD hF ?_ ?_
  · intro h5 hF
    refine l_nil ?_
    replace hF := (hF.k 0 rfl (hF.k 1 rfl (hF.k 2 rfl (hF.k 3 rfl (hF.k 4 rfl (hF.k 5 rfl (hF.k 6 rfl (hF.k 12 rfl (hF.k 15 rfl hF.nil)))))))))
    refine t_n ?_
    refine c_t hF rfl ?_
    refine c_sr ?_
    refine pe (e_store rfl hF hW rfl rfl 1 rfl rfl rfl sz_3 ?_)
    intro wc hW
    refine pe (e_store rfl hF hW rfl rfl 0 rfl rfl rfl sz_25 ?_)
    intro wc hW
    refine l_nil ?_
    refine t_n ?_
    refine wp_ret ?_
    refine t_r ?_
    refine ret2 Try.results39 hF (rv_c1 hF rfl hW 1 rfl rfl Try.underlying3 rfl) (rv_c1 hF rfl hW 0 rfl rfl Try.underlying25 rfl) ?_
    exact ⟨rfl, hW.below⟩
  · intro h5 hF
    exfalso
    omega
theorem wrap_tick {ss : List Slt} {k : Nat} (hk : k < ss.length) (hsum : ∀ k, k ≤ ss.length → 0 ≤ tick0 ss k ∧ tick0 ss k ≤ 1000) : wrap64 ((slotAt ss k).1 + (slotAt ss k).2.ticks) = tick0 ss (k + 1) := by
  have h1 := hsum (k + 1) hk
  have h2 := tick0_succ hk
  show wrap64 (tick0 ss k + (ss.getD k S0).ticks) = _
  unfold wrap64
  omega
def notYet (t : Int) (y : Int × Slt) : Prop := ¬ t < wrap64 (y.1 + y.2.ticks)
theorem slotsTo_mem {ss : List Slt} {j k : Nat} (h : j < k) : slotAt ss j ∈ slotsTo ss k := List.mem_map.2 ⟨j, List.mem_range.2 h, rfl⟩
theorem turn_of {ss : List Slt} (hsum : ∀ k, k ≤ ss.length → 0 ≤ tick0 ss k ∧ tick0 ss k ≤ 1000) {r : Int} (h0 : 0 ≤ r) {k : Nat} (hk : k ≤ ss.length) {pre : List (Int × Slt)} {y : Int × Slt} (he : slotsTo ss k = pre ++ [y]) (hno : ∀ z, z ∈ pre → notYet r z) (hlt : r < wrap64 (y.1 + y.2.ticks)) : Turn ss r y.2.part := by
  cases k with
  | zero => simp [slotsTo] at he
  | succ j =>
    rw [slotsTo_succ] at he
    obtain ⟨rfl, h2⟩ := List.append_inj' he rfl
    obtain rfl : slotAt ss j = y := by simpa using h2
    rw [wrap_tick hk hsum] at hlt
    refine ⟨j, hk, ?_, hlt, rfl⟩
    cases j with
    | zero => rw [tick0_zero]; exact h0
    | succ i =>
      have := hno _ (slotsTo_mem (Nat.lt_succ_self i))
      unfold notYet at this
      rw [wrap_tick (by omega) hsum] at this
      omega
theorem none_left {ss : List Slt} (hsum : ∀ k, k ≤ ss.length → 0 ≤ tick0 ss k ∧ tick0 ss k ≤ 1000) (hpos : 0 < ss.length) {r : Int} (hr : r < tick0 ss ss.length) (hno : ∀ z, z ∈ slotsTo ss ss.length → notYet r z) : False := by
  obtain ⟨j, hj⟩ : ∃ j, ss.length = j + 1 := ⟨ss.length - 1, by omega⟩
  have := hno (slotAt ss j) (slotsTo_mem (by omega))
  unfold notYet at this
  rw [wrap_tick (by omega) hsum, ← hj] at this
  exact this hr
set_option maxHeartbeats 4000000 in
theorem who_good {x : SysD} {w : World} (hx : x.At w) (hk : chkSys x.sys = 0) (t : Int) (ht : 0 ≤ t) : Calls Try.prog 39 #[x.val, .int .i64 t] w fun e w' => ∃ p, e = .returned (.tuple #[.int .i64 p, .int .i64 0]) ∧ Turn x.slots (t.tmod (tick0 x.slots x.slots.length)) p ∧ Below w.heap.size w w' := by
  obtain ⟨b, off, hf⟩ := frm_of hx hk
  have hchk := fun w1 (hb : Below w.heap.size w w1) => confCheck_any (hx.below hb)
  have hfr := fun w1 (hb : Below w.heap.size w w1) => frame_any (hf.below hb)
  have hfpos := hf.frame
  rw [hk] at *
  rw [x.val_eq] at *
  refine enterM Try.func39 rfl Try.ntmps39 rfl (fun a hF => ?_)
  have hW := Wd.start w NoB
  refine c_sr ?_
  refine pe (e_box hF hW rfl rfl rfl rfl ?_)
  intro b1 a wc hF hW
  refine pe (e_box hF hW rfl rfl rfl rfl ?_)
  intro b2 a wc hF hW
  refine pe (e_alloc hF hW ze_3 rfl rfl rfl ?_)
  intro b3 a wc hF hW
  refine pe (e_alloc hF hW ze_25 rfl rfl rfl ?_)
  intro b4 a wc hF hW
  refine l_nil ?_
  refine t_n ?_
  refine c_s ?_
  refine c_sr ?_
  refine pv hF hW (y_loadAll hF rfl 3 rfl Try.underlying68 rfl sz_68) (fun a hF => ?_)
  refine pe (e_call hF rfl rfl en_35 (by rfl) rfl rfl (hchk _ hW.below) ?_)
  rintro e w1 ⟨rfl, hb⟩
  replace hW := hW.kept hb
  clear hb
  refine ⟨_, rfl, fun a hF => ?_⟩
  refine pv hF hW (y_assign hF rfl) (fun a hF => ?_)
  refine l_nil ?_
  replace hF := (hF.k 0 rfl (hF.k 1 rfl (hF.k 2 rfl (hF.k 3 rfl (hF.k 4 rfl (hF.k 5 rfl (hF.k 6 rfl hF.nil)))))))
  refine t_n ?_
  refine c_sr ?_
  refine pv hF hW (y_move hF rfl) (fun a hF => ?_)
  refine pv hF hW (y_neq hF rfl rfl) (fun a hF => ?_)
  replace hF := Fr.bool (t := false) (by first | decide | (simp; done) | rfl) hF
  refine l_nil ?_
  replace hF := (hF.k 0 rfl (hF.k 1 rfl (hF.k 2 rfl (hF.k 3 rfl (hF.k 4 rfl (hF.k 5 rfl (hF.k 6 rfl (hF.k 12 rfl hF.nil))))))))
  refine t_n ?_
  refine c_f hF rfl ?_
  refine wp_skip ?_
  refine t_n ?_
  refine c_s ?_
  refine c_sr ?_
  refine pv hF hW (y_loadOwn hF rfl 2 rfl rfl Try.underlying3 rfl) (fun a hF => ?_)
  refine pv hF hW (y_lss hF rfl rfl) (fun a hF => ?_)
  refine Fr.splitD hF ?_ ?_
  · intro h5 hF
    exfalso
    omega
  · intro h5 hF
    refine l_nil ?_
    replace hF := (hF.k 0 rfl (hF.k 1 rfl (hF.k 2 rfl (hF.k 3 rfl (hF.k 4 rfl (hF.k 5 rfl (hF.k 6 rfl (hF.k 12 rfl (hF.k 15 rfl hF.nil)))))))))
    refine t_n ?_
    refine c_f hF rfl ?_
    refine wp_skip ?_
    refine t_n ?_
    refine c_cut (G := Unit) (fun _ : Unit => []) (fun _ : Unit => [.blk b2 3 [.int .i64 (t.tmod (tick0 x.slots x.slots.length))]]) (fun _ : Unit => True) (Fr.cons hF (t := 0) rfl rfl (Fr.cons hF (t := 1) rfl rfl (Fr.cons hF (t := 2) rfl rfl (Fr.cons hF (t := 3) rfl rfl (Fr.cons hF (t := 4) rfl rfl (Fr.cons hF (t := 5) rfl rfl (Fr.cons hF (t := 6) rfl rfl (Fr.cons hF (t := 12) rfl rfl (Fr.cons hF (t := 15) rfl rfl (Fr.nil hF)))))))))) (hW.del 2 rfl) ?_ ?_
    · refine c_d mixed_ok hW ((hW.del 2 rfl)) ?_
      clear hW; intro wc hW hS
      refine dv 1 rfl hF hS (y_loadAll hF rfl 2 rfl Try.underlying68 rfl sz_68) (fun a hF => ?_)
      refine d_2 0 2 (by kernel_rfl) ?_ ?_
      · refine d_opval rfl hF rfl hW (y_loadOwn hF rfl 2 rfl rfl Try.underlying3 rfl) rfl rfl (fun a hF => ?_)
        refine ⟨(hW.del 2 rfl), ?_⟩
        replace hS := (hW.del 2 rfl)
        refine d_1 2 (by kernel_rfl) ?_
        refine d_op rfl rfl (e_call hF rfl rfl en_78 (by rfl) rfl rfl (hfr _ hW.below) ?_)
        rintro e w1 ⟨rfl, hb⟩
        replace hW := hW.kept hb
        clear hb
        refine ⟨_, rfl, fun a hF => ?_⟩
        refine ⟨(hW.del 2 rfl), ?_⟩
        replace hS := (hW.del 2 rfl)
        refine dv 3 rfl hF hS (y_rem hF rfl rfl (by omega) rfl) (fun a hF => ?_)
        refine d_1 4 (by kernel_rfl) ?_
        refine d_op rfl rfl (e_store rfl hF hW rfl rfl 2 rfl rfl rfl sz_3 ?_)
        intro wc hW
        refine ⟨(hW.del 2 rfl), ?_⟩
        replace hS := (hW.del 2 rfl)
        clear hS
        refine d_nil (by kernel_rfl) ?_
        replace hF := (hF.k 0 rfl (hF.k 1 rfl (hF.k 2 rfl (hF.k 3 rfl (hF.k 4 rfl (hF.k 5 rfl (hF.k 6 rfl (hF.k 12 rfl (hF.k 15 rfl hF.nil)))))))))
        replace hW := hW.front 3 rfl rfl
        replace hW := hW.front 2 rfl rfl
        replace hW := hW.front 2 rfl rfl
        replace hW := hW.front 3 rfl rfl
        refine t_n ?_
        refine ⟨(), ?_, ?_, ?_⟩
        · exact Fr.app (Fr.nil hF) (Fr.cons hF (t := 0) rfl rfl (Fr.cons hF (t := 1) rfl rfl (Fr.cons hF (t := 2) rfl rfl (Fr.cons hF (t := 3) rfl rfl (Fr.cons hF (t := 4) rfl rfl (Fr.cons hF (t := 5) rfl rfl (Fr.cons hF (t := 6) rfl rfl (Fr.cons hF (t := 12) rfl rfl (Fr.cons hF (t := 15) rfl rfl (Fr.nil hF))))))))))
        · exact hW
        · trivial
      · refine d_op rfl rfl (e_call hF rfl rfl en_78 (by rfl) rfl rfl (hfr _ hW.below) ?_)
        rintro e w1 ⟨rfl, hb⟩
        replace hW := hW.kept hb
        clear hb
        refine ⟨_, rfl, fun a hF => ?_⟩
        refine ⟨(hW.del 2 rfl), ?_⟩
        replace hS := (hW.del 2 rfl)
        refine d_1 0 (by kernel_rfl) ?_
        refine d_opval rfl hF rfl hW (y_loadOwn hF rfl 2 rfl rfl Try.underlying3 rfl) rfl rfl (fun a hF => ?_)
        refine ⟨(hW.del 2 rfl), ?_⟩
        replace hS := (hW.del 2 rfl)
        refine dv 3 rfl hF hS (y_rem hF rfl rfl (by omega) rfl) (fun a hF => ?_)
        refine d_1 4 (by kernel_rfl) ?_
        refine d_op rfl rfl (e_store rfl hF hW rfl rfl 2 rfl rfl rfl sz_3 ?_)
        intro wc hW
        refine ⟨(hW.del 2 rfl), ?_⟩
        replace hS := (hW.del 2 rfl)
        clear hS
        refine d_nil (by kernel_rfl) ?_
        replace hF := (hF.k 0 rfl (hF.k 1 rfl (hF.k 2 rfl (hF.k 3 rfl (hF.k 4 rfl (hF.k 5 rfl (hF.k 6 rfl (hF.k 12 rfl (hF.k 15 rfl hF.nil)))))))))
        replace hW := hW.front 3 rfl rfl
        replace hW := hW.front 2 rfl rfl
        replace hW := hW.front 2 rfl rfl
        replace hW := hW.front 3 rfl rfl
        refine t_n ?_
        refine ⟨(), ?_, ?_, ?_⟩
        · exact Fr.app (Fr.nil hF) (Fr.cons hF (t := 0) rfl rfl (Fr.cons hF (t := 1) rfl rfl (Fr.cons hF (t := 2) rfl rfl (Fr.cons hF (t := 3) rfl rfl (Fr.cons hF (t := 4) rfl rfl (Fr.cons hF (t := 5) rfl rfl (Fr.cons hF (t := 6) rfl rfl (Fr.cons hF (t := 12) rfl rfl (Fr.cons hF (t := 15) rfl rfl (Fr.nil hF))))))))))
        · exact hW
        · trivial
    · clear hF hW
      try clear a
      intro gq a wc hC hF hW
      clear hC
      refine c_s ?_
      refine c_sr ?_
      refine pv hF hW (y_loadAll hF rfl 3 rfl Try.underlying68 rfl sz_68) (fun a hF => ?_)
      refine pe (e_call hF rfl rfl en_79 (by rfl) rfl rfl (slots_any _ _ _ _) ?_)
      rintro e w1 ⟨B, rfl, hN⟩
      replace hW := hW.comb1 hN
      refine ⟨_, rfl, fun a hF => ?_⟩
      refine l_nil ?_
      replace hF := (hF.k 0 rfl (hF.k 1 rfl (hF.k 2 rfl (hF.k 3 rfl (hF.k 4 rfl (hF.k 5 rfl (hF.k 6 rfl (hF.k 12 rfl (hF.k 15 rfl (hF.k 21 rfl hF.nil))))))))))
      refine t_n ?_
      refine wp_block ?_
      replace hF := (hF.k 0 rfl (hF.k 1 rfl (hF.k 2 rfl (hF.k 3 rfl (hF.k 4 rfl (hF.k 5 rfl (hF.k 21 rfl hF.nil)))))))
      obtain ⟨u6, hu6⟩ : ∃ u, a.tmps.getD 6 undef = u := ⟨_, rfl⟩
      obtain ⟨u7, hu7⟩ : ∃ u, a.tmps.getD 7 undef = u := ⟨_, rfl⟩
      obtain ⟨u8, hu8⟩ : ∃ u, a.tmps.getD 8 undef = u := ⟨_, rfl⟩
      obtain ⟨u9, hu9⟩ : ∃ u, a.tmps.getD 9 undef = u := ⟨_, rfl⟩
      obtain ⟨u10, hu10⟩ : ∃ u, a.tmps.getD 10 undef = u := ⟨_, rfl⟩
      obtain ⟨u11, hu11⟩ : ∃ u, a.tmps.getD 11 undef = u := ⟨_, rfl⟩
      obtain ⟨u12, hu12⟩ : ∃ u, a.tmps.getD 12 undef = u := ⟨_, rfl⟩
      obtain ⟨u13, hu13⟩ : ∃ u, a.tmps.getD 13 undef = u := ⟨_, rfl⟩
      obtain ⟨u14, hu14⟩ : ∃ u, a.tmps.getD 14 undef = u := ⟨_, rfl⟩
      obtain ⟨u15, hu15⟩ : ∃ u, a.tmps.getD 15 undef = u := ⟨_, rfl⟩
      obtain ⟨u16, hu16⟩ : ∃ u, a.tmps.getD 16 undef = u := ⟨_, rfl⟩
      obtain ⟨u17, hu17⟩ : ∃ u, a.tmps.getD 17 undef = u := ⟨_, rfl⟩
      obtain ⟨u18, hu18⟩ : ∃ u, a.tmps.getD 18 undef = u := ⟨_, rfl⟩
      obtain ⟨u19, hu19⟩ : ∃ u, a.tmps.getD 19 undef = u := ⟨_, rfl⟩
      obtain ⟨u20, hu20⟩ : ∃ u, a.tmps.getD 20 undef = u := ⟨_, rfl⟩
      obtain ⟨u22, hu22⟩ : ∃ u, a.tmps.getD 22 undef = u := ⟨_, rfl⟩
      obtain ⟨u23, hu23⟩ : ∃ u, a.tmps.getD 23 undef = u := ⟨_, rfl⟩
      obtain ⟨u24, hu24⟩ : ∃ u, a.tmps.getD 24 undef = u := ⟨_, rfl⟩
      obtain ⟨u25, hu25⟩ : ∃ u, a.tmps.getD 25 undef = u := ⟨_, rfl⟩
      obtain ⟨u26, hu26⟩ : ∃ u, a.tmps.getD 26 undef = u := ⟨_, rfl⟩
      obtain ⟨u27, hu27⟩ : ∃ u, a.tmps.getD 27 undef = u := ⟨_, rfl⟩
      obtain ⟨u28, hu28⟩ : ∃ u, a.tmps.getD 28 undef = u := ⟨_, rfl⟩
      obtain ⟨u29, hu29⟩ : ∃ u, a.tmps.getD 29 undef = u := ⟨_, rfl⟩
      obtain ⟨u30, hu30⟩ : ∃ u, a.tmps.getD 30 undef = u := ⟨_, rfl⟩
      obtain ⟨u31, hu31⟩ : ∃ u, a.tmps.getD 31 undef = u := ⟨_, rfl⟩
      have hA : a = { tmps := #[.agg #[.slice x.pa x.parts.length x.pc, .slice x.ha x.chans.length x.hc, .slice x.sa x.slots.length x.sc], .int .i64 t, .pointer (some ⟨b1, 0, none⟩), .pointer (some ⟨b2, 0, none⟩), .pointer (some ⟨b3, 0, none⟩), .pointer (some ⟨b4, 0, none⟩), u6, u7, u8, u9, u10, u11, u12, u13, u14, u15, u16, u17, u18, u19, u20, .func (.func 93) #[] #[.pointer (some ⟨B, 0, none⟩)], u22, u23, u24, u25, u26, u27, u28, u29, u30, u31], defers := [] } := by rw [← hu6, ← hu7, ← hu8, ← hu9, ← hu10, ← hu11, ← hu12, ← hu13, ← hu14, ← hu15, ← hu16, ← hu17, ← hu18, ← hu19, ← hu20, ← hu22, ← hu23, ← hu24, ← hu25, ← hu26, ← hu27, ← hu28, ← hu29, ← hu30, ← hu31]; exact hF.tab
      clear hF hu6 hu7 hu8 hu9 hu10 hu11 hu12 hu13 hu14 hu15 hu16 hu17 hu18 hu19 hu20 hu22 hu23 hu24 hu25 hu26 hu27 hu28 hu29 hu30 hu31
      subst hA
      have hr0 := Int.tmod_nonneg (tick0 x.slots x.slots.length) ht
      have hr1 := Int.tmod_lt_of_pos t hfpos
      generalize t.tmod (tick0 x.slots x.slots.length) = r at *
      have hS := hW.blk 0 rfl
      rw [hf.sa] at hS
      have B3 := hW.blk 1 rfl
      have B4 := hW.blk 3 rfl
      have B5 := hW.blk 2 rfl
      have g4 := (hW.blk_ge 3 rfl).1
      have g5 := (hW.blk_ge 2 rfl).1
      have hBw := hW.below
      have hge4 : w.heap.size ≤ b3 := Nat.le_of_not_lt fun h => g4 ⟨h, id⟩
      have hge5 : w.heap.size ≤ b4 := Nat.le_of_not_lt fun h => g5 ⟨h, id⟩
      have hne : b3 ≠ b4 := fun e => by rw [e] at B4; exact absurd (B4.symm.trans B5) (by simp)
      have hrow := hf.row.below hBw
      have hsum := hf.sum
      have hpos := hf.pos
      have hle := hf.le
      clear hW hf hchk hfr g4 g5 hx hk
      refine (wpIn_wide (n := 5)).1 ?_
      refine wpIn_rangeFunc_ownH (n := 5) rfl (by decide) (gf := 93) (lb := #[.pointer (some ⟨B, 0, none⟩)]) rfl trivial en_93
        (slots1_stops (X := fun _ => False) 4 (by omega) rfl hsum hle id id (fun _ h => h.elim) hS hrow) KpX.trans (fun W l o o' _ h hc _ => KpX.put W l o o' h hc) (Below.refl _ _) (fun _ => rfl)
        (fun pre W => ((∀ z, z ∈ pre → notYet r z) ∧ W.cell? ⟨b2, 0, none⟩ = some (.int .i64 r) ∧ W.cell? ⟨b3, 0, none⟩ = some (.int .i64 0) ∧ W.frozen? ⟨b3, 0, none⟩ = false ∧ W.cell? ⟨b4, 0, none⟩ = some (.int .i64 0) ∧ W.frozen? ⟨b4, 0, none⟩ = false) ∧ Below w.heap.size w W)
        (fun c pre W => (c = .ret ∧ (∃ pre' y, pre = pre' ++ [y] ∧ (∀ z, z ∈ pre' → notYet r z) ∧ r < wrap64 (y.1 + y.2.ticks) ∧ W.cell? ⟨b3, 0, none⟩ = some (.int .i64 y.2.part)) ∧ W.cell? ⟨b4, 0, none⟩ = some (.int .i64 0)) ∧ Below w.heap.size w W)
        (OwnFrom.and (Own.from (fun s A B row hs hg hr => ⟨hs.1, cell_kept hs.2.1 hg hr, cell_kept hs.2.2.1 hg hr, (frozen_kept hs.2.2.1 hg hr).trans hs.2.2.2.1, cell_kept hs.2.2.2.2.1 hg hr, (frozen_kept hs.2.2.2.2.1 hg hr).trans hs.2.2.2.2.2⟩) _) (ownFrom_below (Nat.le_refl _) hBw.size))
        (fun c => OwnFrom.and (Own.from (fun s A B row hs hg hr => by obtain ⟨e1, ⟨p1, y1, e2, e3, e4, e5⟩, e6⟩ := hs; exact ⟨e1, ⟨p1, y1, e2, e3, e4, cell_kept e5 hg hr⟩, cell_kept e6 hg hr⟩) _) (ownFrom_below (Nat.le_refl _) hBw.size))
        ⟨⟨fun _ h => by (cases h), B3.cell 0, B4.cell 0, B4.frozen 0, B5.cell 0, B5.frozen 0⟩, hBw⟩
        (fun x1 a' W => ∃ Bx, W.cell? ⟨Bx, 0, none⟩ = some (.int .i64 x1.2.part) ∧ W.cell? ⟨Bx, 1, none⟩ = some (.int .i64 x1.2.ticks) ∧ a' = { tmps := #[.agg #[.slice x.pa x.parts.length x.pc, .slice x.ha x.chans.length x.hc, .slice x.sa x.slots.length x.sc], .int .i64 t, .pointer (some ⟨b1, 0, none⟩), .pointer (some ⟨b2, 0, none⟩), .pointer (some ⟨b3, 0, none⟩), .pointer (some ⟨b4, 0, none⟩), u6, .int .i64 x1.1, .pointer (some ⟨Bx, 0, none⟩), u9, u10, u11, u12, u13, u14, u15, u16, u17, u18, u19, u20, .func (.func 93) #[] #[.pointer (some ⟨B, 0, none⟩)], .int .i64 x1.1, .agg #[.int .i64 x1.2.part, .int .i64 x1.2.ticks], u24, u25, u26, u27, u28, u29, u30, u31], defers := [] })
        (fun x1 a' => Own.from (fun s A B row hs hg hr => by obtain ⟨Bx, h1, h2, rfl⟩ := hs; exact ⟨Bx, cell_kept h1 hg hr, cell_kept h2 hg hr, rfl⟩) _) ?assign ?body ?done ?stop
      case assign =>
        intro l pre x1 W K ⟨⟨i0, i1, i2, i3, i4, i5⟩, hBW⟩ hK
        have hBn := Blk.new W #[.int .i64 x1.2.part, .int .i64 x1.2.ticks] 83
        simp only [encS]
        gi_wp2
        exact hK _ _ ((KeepsOthers.alloc _ _).from _) ((KpX.refl _ _).alloc _) ⟨⟨i0, cell_alloc_l _ i1, cell_alloc_l _ i2, frozen_alloc_l _ i2 i3, cell_alloc_l _ i4, frozen_alloc_l _ i4 i5⟩, hBW.alloc1 _⟩ ⟨W.heap.size, hBn.cell 0, hBn.cell 1, rfl⟩
      case body =>
        rintro l pre x1 a' W hl hr ⟨⟨i0, i1, i2, i3, i4, i5⟩, hBW⟩ ⟨Bx, c0, c1, rfl⟩ hlt
        gi_wp2
        · rename_i hlt2
          refine ⟨((KeepsOthers.setCell _ _ _).trans (KeepsOthers.setCell _ _ _)).from _, ⟨rfl, ⟨pre, x1.1, x1.2, rfl, fun a b h => i0 (a, b) h, hlt2, ?_⟩, ?_⟩, (hBW.setCell (p := ⟨b3, 0, none⟩) hge4 _).setCell (p := ⟨b4, 0, none⟩) hge5 _⟩
          · exact (World.cell?_setCell_other (W.setCell ⟨b3, 0, none⟩ (.int .i64 x1.2.part)) ⟨b4, 0, none⟩ ⟨b3, 0, none⟩ (.int .i64 0) (fun e => hne (congrArg Addr.block e).symm)).trans (World.cell?_setCell_same' _ _ _ (by rw [i2]; rfl))
          · exact World.cell?_setCell_same' _ _ _ (by rw [(World.cell?_setCell_other W ⟨b3, 0, none⟩ ⟨b4, 0, none⟩ (.int .i64 x1.2.part) (fun e => hne (congrArg Addr.block e))).trans i4]; rfl)
        · rename_i hlt2
          refine ⟨KeepsFrom.refl _ _, KpX.refl _ _, ⟨fun a b hm => ?_, i1, i2, i3, i4, i5⟩, hBW⟩
          rcases List.mem_append.1 hm with h | h
          · exact i0 (a, b) h
          · rw [List.mem_singleton.1 h]
            show ¬ r < wrap64 (x1.1 + x1.2.ticks)
            omega
      case done =>
        rintro D ys W hD rfl ⟨⟨hno, _⟩, _⟩ hK
        exact (none_left hsum hpos hr1 hno).elim
      case stop =>
        rintro D c pre W hD ⟨k, hk', rfl⟩ ⟨⟨rfl, ⟨pre', y, he, hno, hlt, hc4⟩, hc5⟩, hB⟩ hK
        refine (wpIn_wide (n := 5)).2 ?_
        refine wp_ret ?_
        refine b_r ?_
        refine t_r ?_
        have k4 := cell_kept hc4 (grownBy_putObj' _ D (.deferred none)) (fun r e => by cases e; exact ⟨_, hK, rfl⟩)
        have k5 := cell_kept hc5 (grownBy_putObj' _ D (.deferred none)) (fun r e => by cases e; exact ⟨_, hK, rfl⟩)
        refine mk_end (v := .tuple #[.int .i64 y.2.part, .int .i64 0]) hK ?_ ⟨_, rfl, turn_of hsum hr0 hk' he hno hlt, hB.trans (belowK_b (w := w) (Nat.le_refl _) W D _ _ (Nat.le_trans hBw.size hD) hK rfl rfl)⟩
        simp [results, Try.f39, go_sem, k4, k5]
end Go.Proofs.Ytebklpbbglojmaa
