/- teller, cellBegun, and words for the laws on cells. -/
import Derived.Test.YtebklpbbglojmaaCellRef
namespace Go.Proofs.Ytebklpbbglojmaa
set_option linter.unusedVariables false
set_option linter.unusedSimpArgs false
open Go.RowKit
theorem bs_CellLaw_22_1_0 (x0 : Int) (w : World) : (Instr.buildSlice 22 1 #[(0, (.int .i64 x0))]).run Try.prog w = .ok (.slice (some ⟨w.heap.size, 0, none⟩) 1 1) (w.alloc (.cells #[(.int .i64 x0)] 3)) := by kernel_rfl
theorem bs_CellLaw_40_1_0 (x0 : Int) (x1 : Int) (x2 : Int) (x3 : Int) (w : World) : (Instr.buildSlice 40 1 #[(0, (.agg #[(.int .i64 x0), (.int .i64 x1), (.int .i64 x2), (.int .i64 x3)]))]).run Try.prog w = .ok (.slice (some ⟨w.heap.size, 0, none⟩) 1 1) (w.alloc (.cells #[(.int .i64 x0), (.int .i64 x1), (.int .i64 x2), (.int .i64 x3)] 95)) := by kernel_rfl
theorem bs_CellLaw_40_5_0_1_2_3_4 (x0 : Int) (x1 : Int) (x2 : Int) (x3 : Int) (x4 : Int) (x5 : Int) (x6 : Int) (x7 : Int) (x8 : Int) (x9 : Int) (x10 : Int) (x11 : Int) (x12 : Int) (x13 : Int) (x14 : Int) (x15 : Int) (x16 : Int) (x17 : Int) (x18 : Int) (x19 : Int) (w : World) : (Instr.buildSlice 40 5 #[(0, (.agg #[(.int .i64 x0), (.int .i64 x1), (.int .i64 x2), (.int .i64 x3)])), (1, (.agg #[(.int .i64 x4), (.int .i64 x5), (.int .i64 x6), (.int .i64 x7)])), (2, (.agg #[(.int .i64 x8), (.int .i64 x9), (.int .i64 x10), (.int .i64 x11)])), (3, (.agg #[(.int .i64 x12), (.int .i64 x13), (.int .i64 x14), (.int .i64 x15)])), (4, (.agg #[(.int .i64 x16), (.int .i64 x17), (.int .i64 x18), (.int .i64 x19)]))]).run Try.prog w = .ok (.slice (some ⟨w.heap.size, 0, none⟩) 5 5) (w.alloc (.cells #[(.int .i64 x0), (.int .i64 x1), (.int .i64 x2), (.int .i64 x3), (.int .i64 x4), (.int .i64 x5), (.int .i64 x6), (.int .i64 x7), (.int .i64 x8), (.int .i64 x9), (.int .i64 x10), (.int .i64 x11), (.int .i64 x12), (.int .i64 x13), (.int .i64 x14), (.int .i64 x15), (.int .i64 x16), (.int .i64 x17), (.int .i64 x18), (.int .i64 x19)] 95)) := by kernel_rfl
theorem bu_CellLaw_42_0 (x0 : Option Addr) (x0n x0c : Nat) (w : World) : (Instr.build 42 #[(0, (.slice x0 x0n x0c))]).run Try.prog w = .ok (.agg #[(.slice x0 x0n x0c), (.slice none 0 0)]) w := by kernel_rfl
theorem bu_CellLaw_42_0_1 (x0 : Option Addr) (x0n x0c : Nat) (x1 : Option Addr) (x1n x1c : Nat) (w : World) : (Instr.build 42 #[(0, (.slice x0 x0n x0c)), (1, (.slice x1 x1n x1c))]).run Try.prog w = .ok (.agg #[(.slice x0 x0n x0c), (.slice x1 x1n x1c)]) w := by kernel_rfl
theorem bu_CellLaw_43_0_1 (x0 : Int) (x1 : Int) (w : World) : (Instr.build 43 #[(0, (.int .i64 x0)), (1, (.int .i64 x1))]).run Try.prog w = .ok (.agg #[(.int .i64 x0), (.int .i64 x1), (.int .i64 0), (.int .i64 0)]) w := by kernel_rfl
theorem bu_CellLaw_43_1 (x0 : Int) (w : World) : (Instr.build 43 #[(1, (.int .i64 x0))]).run Try.prog w = .ok (.agg #[(.int .i64 0), (.int .i64 x0), (.int .i64 0), (.int .i64 0)]) w := by kernel_rfl
theorem bu_CellLaw_46_  (w : World) : (Instr.build 46 #[]).run Try.prog w = .ok (.agg #[(.int .i64 0), (.int .i64 0), (.int .i64 0), (.int .i64 0), (.int .i64 0), (.int .i64 0), (.int .i64 0), (.int .i64 0), (.int .i64 0), (.int .i64 0), (.int .i64 0), (.int .i64 0), (.int .i64 0), (.int .i64 0), (.slice none 0 0), (.int .i64 0)]) w := by kernel_rfl
theorem bu_CellLaw_46_1 (x0 : Int) (x1 : Int) (x2 : Int) (x3 : Int) (w : World) : (Instr.build 46 #[(1, (.agg #[(.int .i64 x0), (.int .i64 x1), (.int .i64 x2), (.int .i64 x3)]))]).run Try.prog w = .ok (.agg #[(.int .i64 0), (.int .i64 x0), (.int .i64 x1), (.int .i64 x2), (.int .i64 x3), (.int .i64 0), (.int .i64 0), (.int .i64 0), (.int .i64 0), (.int .i64 0), (.int .i64 0), (.int .i64 0), (.int .i64 0), (.int .i64 0), (.slice none 0 0), (.int .i64 0)]) w := by kernel_rfl
theorem bu_CellLaw_46_5 (x0 : Int) (w : World) : (Instr.build 46 #[(5, (.int .i64 x0))]).run Try.prog w = .ok (.agg #[(.int .i64 0), (.int .i64 0), (.int .i64 0), (.int .i64 0), (.int .i64 0), (.int .i64 0), (.int .i64 0), (.int .i64 0), (.int .i64 0), (.int .i64 0), (.int .i64 0), (.int .i64 0), (.int .i64 0), (.int .i64 0), (.slice none 0 0), (.int .i64 x0)]) w := by kernel_rfl
theorem bu_CellLaw_48_0_3 (x0 : Int) (x1 : Int) (w : World) : (Instr.build 48 #[(0, (.int .i64 x0)), (3, (.int .i64 x1))]).run Try.prog w = .ok (.agg #[(.int .i64 x0), (.int .i64 0), (.int .i64 0), (.int .i64 x1), (.int .i64 0)]) w := by kernel_rfl
theorem bu_CellLaw_95_0 (x0 : Int) (w : World) : (Instr.build 95 #[(0, (.int .i64 x0))]).run Try.prog w = .ok (.agg #[(.int .i64 x0), (.int .i64 0), (.int .i64 0), (.int .i64 0)]) w := by kernel_rfl
theorem bu_CellLaw_95_0_1 (x0 : Int) (x1 : Int) (w : World) : (Instr.build 95 #[(0, (.int .i64 x0)), (1, (.int .i64 x1))]).run Try.prog w = .ok (.agg #[(.int .i64 x0), (.int .i64 x1), (.int .i64 0), (.int .i64 0)]) w := by kernel_rfl
theorem bu_CellLaw_95_0_1_2 (x0 : Int) (x1 : Int) (x2 : Int) (w : World) : (Instr.build 95 #[(0, (.int .i64 x0)), (1, (.int .i64 x1)), (2, (.int .i64 x2))]).run Try.prog w = .ok (.agg #[(.int .i64 x0), (.int .i64 x1), (.int .i64 x2), (.int .i64 0)]) w := by kernel_rfl
theorem bu_CellLaw_95_0_1_3 (x0 : Int) (x1 : Int) (x2 : Int) (w : World) : (Instr.build 95 #[(0, (.int .i64 x0)), (1, (.int .i64 x1)), (3, (.int .i64 x2))]).run Try.prog w = .ok (.agg #[(.int .i64 x0), (.int .i64 x1), (.int .i64 0), (.int .i64 x2)]) w := by kernel_rfl
theorem bu_CellLaw_95_0_2 (x0 : Int) (x1 : Int) (w : World) : (Instr.build 95 #[(0, (.int .i64 x0)), (2, (.int .i64 x1))]).run Try.prog w = .ok (.agg #[(.int .i64 x0), (.int .i64 0), (.int .i64 x1), (.int .i64 0)]) w := by kernel_rfl
theorem bu_CellLaw_95_0_3 (x0 : Int) (x1 : Int) (w : World) : (Instr.build 95 #[(0, (.int .i64 x0)), (3, (.int .i64 x1))]).run Try.prog w = .ok (.agg #[(.int .i64 x0), (.int .i64 0), (.int .i64 0), (.int .i64 x1)]) w := by kernel_rfl
set_option maxRecDepth 100000

def tellerL : List Ins := [⟨13, 0, 1, 0⟩, ⟨9, 1, 0, 0⟩, ⟨11, 0, 0, 0⟩, ⟨12, 0, 0, 1⟩, ⟨8, 0, 0, 0⟩]
theorem teller_any (w : World) : Calls Try.prog 51 #[] w fun e w' => ∃ A, e = .returned (.slice A 5 5) ∧ OwnRes w w' (fun u => Code_ u (.slice A 5 5) tellerL) ∧ Below w.heap.size w w' := by
  refine enter Try.func51 rfl Try.ntmps51 rfl (fun a hF => ?_)
  have hW := Wd.start w NoB
  refine c_sr ?_
  refine pv hF hW (y_assign hF rfl) (fun a hF => ?_)
  refine l_nil ?_
  refine t_n ?_
  refine c_sr ?_
  refine pv hF hW (y_build hF rfl (fun w => bu_CellLaw_95_0_1_2 _ _ _ w)) (fun a hF => ?_)
  refine pv hF hW (y_build hF rfl (fun w => bu_CellLaw_95_0_1_3 _ _ _ w)) (fun a hF => ?_)
  refine pv hF hW (y_build hF rfl (fun w => bu_CellLaw_95_0 _ w)) (fun a hF => ?_)
  refine pv hF hW (y_build hF rfl (fun w => bu_CellLaw_95_0_3 _ _ w)) (fun a hF => ?_)
  refine pv hF hW (y_build hF rfl (fun w => bu_CellLaw_95_0 _ w)) (fun a hF => ?_)
  refine pe (e_buildSlice hF hW rfl (fun w => bs_CellLaw_40_5_0_1_2_3_4 _ _ _ _ _ _ _ _ _ _ _ _ _ _ _ _ _ _ _ _ w) rfl rfl rfl ?_)
  intro b1 a wc hF hW
  replace hF := hF.drop 0
  refine pv hF hW (y_assign hF rfl) (fun a hF => ?_)
  refine l_nil ?_
  replace hF := (hF.k 0 rfl hF.nil)
  refine t_n ?_
  refine wp_ret ?_
  refine ret1 Try.results51 hF (rv_t hF rfl) ?_
  exact ⟨_, rfl, (hW.res_blk 0 rfl).mono fun u h => flat_blk h rfl rfl rfl (by unfold maxLen; omega), hW.below⟩

theorem stepZ {p : Prt} {c c' : Cel} {k' : Wnt} {cv iv ov : Value} {w : World} (hc : Code_ w cv p.code) (hi : Ints w iv p.inp) (ho : Ints w ov c.out) (hwf : c.wf) (h0 : stepErr p c = 0) (hs : stepOf p c = (c', k')) :
    Calls Try.prog 21 #[.agg #[cv, iv], celV c ov] w fun e w' => ∃ A k, e = .returned (.tuple #[celV c' (.slice A c'.out.length k), wntV k', .int .i64 0]) ∧ OwnRes w w' (fun u => Ints u (.slice A c'.out.length k) c'.out) ∧ Below w.heap.size w w' := by
  have := cellStep_any p c cv iv ov w hwf ho hc hi
  rw [if_pos h0, hs] at this
  refine this.mono fun e w' ⟨ov', he, _, hown, hb⟩ => ?_
  obtain ⟨A, k, rfl⟩ := hown.form rfl
  exact ⟨A, k, he, OwnRes.ints hown, hb⟩
theorem reply_all (c : Cel) (k : Wnt) (kind val : Int) (is : Bool) (ov : Value) (w : World) (hwf : c.wf) (ho : Ints w ov c.out) :
    Calls Try.prog 28 #[celV c ov, wntV k, .int .i64 kind, .int .i64 val, .bool is] w (CelErrBack w (if replyErr c k kind = 0 then replyOf c k kind val is else Cel.zero) (replyErr c k kind)) := by
  cases hf : cellFine c with
  | false =>
    have e : replyErr c k kind = 1 := by simp [replyErr, hf]
    rw [e, if_neg (by decide)]
    exact reply_form c k kind val is ov w hwf ho hf
  | true =>
    by_cases hk : (k.kind ≠ 12 ∧ k.kind ≠ 13) ∨ (kind ≠ 1 ∧ kind ≠ 2)
    · have e : replyErr c k kind = 4 := by unfold replyErr; rw [if_neg (by simp [hf]), if_pos hk]
      rw [e, if_neg (by decide)]
      exact reply_kind c k kind val is ov w hwf ho hf hk
    · cases hr : (regOk k.reg && regOk k.flag) with
      | false =>
        have e : replyErr c k kind = 3 := by unfold replyErr; rw [if_neg (by simp [hf]), if_neg hk, if_neg (by simp [hr])]
        rw [e, if_neg (by decide)]
        exact reply_range c k kind val is ov w hwf ho hf hk hr
      | true =>
        have e : replyErr c k kind = 0 := by unfold replyErr; rw [if_neg (by simp [hf]), if_neg hk, if_pos hr]
        rw [e, if_pos rfl]
        have hrr : regOk k.reg = true ∧ regOk k.flag = true := by simpa using hr
        by_cases h12 : k.kind = 12
        · have hkk : kind = 1 ∨ kind = 2 := by omega
          rcases hkk with rfl | rfl
          · have : replyOf c k 1 val is = c := by simp [replyOf, h12]
            rw [this]
            exact reply_sample c k val is ov w hwf ho hf h12 hrr.1 hrr.2
          · have : replyOf c k 2 val is = { c with regs := c.regs.set k.reg.toNat (bitI is) } := by simp [replyOf, h12]
            rw [this]
            exact reply_queue c k val is ov w hwf ho hf h12 hrr.1 hrr.2
        · have : replyOf c k kind val is = { c with regs := (if is then c.regs.set k.reg.toNat val else c.regs).set k.flag.toNat (bitI is) } := by simp [replyOf, h12]
          rw [this]
          exact reply_get c k kind val is ov w hwf ho hf (by omega) (by omega) hrr.1 hrr.2
theorem replyZ {c c' : Cel} {k : Wnt} {kind val : Int} {is : Bool} {ov : Value} {w : World} (ho : Ints w ov c.out) (hwf : c.wf) (h0 : replyErr c k kind = 0) (hs : replyOf c k kind val is = c') :
    Calls Try.prog 28 #[celV c ov, wntV k, .int .i64 kind, .int .i64 val, .bool is] w fun e w' => ∃ A n, e = .returned (.tuple #[celV c' (.slice A c'.out.length n), .int .i64 0]) ∧ OwnRes w w' (fun u => Ints u (.slice A c'.out.length n) c'.out) ∧ Below w.heap.size w w' := by
  have := reply_all c k kind val is ov w hwf ho
  rw [h0, if_pos rfl, hs] at this
  refine this.mono fun e w' ⟨ov', he, _, hown, hb⟩ => ?_
  obtain ⟨A, k, rfl⟩ := hown.form rfl
  exact ⟨A, k, he, OwnRes.ints hown, hb⟩

theorem cellBegun_any (w : World) : Calls Try.prog 24 #[] w fun e w' => e = .returned (.bool true) ∧ Below w.heap.size w w' := by
  refine enter Try.func24 rfl Try.ntmps24 rfl (fun a hF => ?_)
  have hW := Wd.start w NoB
  refine c_sr ?_
  refine pv hF hW (y_assign hF rfl) (fun a hF => ?_)
  refine l_nil ?_
  refine t_n ?_
  refine c_sr ?_
  refine pe (e_call hF rfl rfl en_51 (by rfl) rfl rfl (teller_any _) ?_)
  rintro e w1 ⟨A1, rfl, hr, hb⟩
  replace hW := hW.gotR hb hr
  refine ⟨_, rfl, fun a hF => ?_⟩
  refine pv hF hW (y_build hF rfl (fun w => bu_CellLaw_42_0 _ _ _ w)) (fun a hF => ?_)
  refine pv hF hW (y_build hF rfl (fun w => bu_CellLaw_46_  w)) (fun a hF => ?_)
  refine pe (e_call hF rfl rfl en_21 (by rfl) rfl rfl (stepZ (p := ⟨tellerL, []⟩) (c := Cel.zero) (c' := ⟨1, [0, 0, 0, 0], [0, 0, 0, 0, 0, 0, 0, 0], 0, [], 0⟩) (k' := ⟨13, 0, 0, 1, 0⟩) (hW.res 0 rfl) Ints.nil_ Ints.nil_ ⟨rfl, rfl⟩ (by decide) (by decide)) ?_)
  rintro e w1 ⟨A1, k1, rfl, hr, hb⟩
  replace hW := hW.gotR hb hr
  refine ⟨_, rfl, fun a hF => ?_⟩
  replace hF := Fr.cast (v' := .tuple #[.agg #[.int .i64 1, .int .i64 0, .int .i64 0, .int .i64 0, .int .i64 0, .int .i64 0, .int .i64 0, .int .i64 0, .int .i64 0, .int .i64 0, .int .i64 0, .int .i64 0, .int .i64 0, .int .i64 0, .slice A1 0 k1, .int .i64 0], .agg #[.int .i64 13, .int .i64 0, .int .i64 0, .int .i64 1, .int .i64 0], .int .i64 0]) rfl hF
  refine pv hF hW (y_move hF rfl) (fun a hF => ?_)
  refine pv hF hW (y_extract hF rfl rfl) (fun a hF => ?_)
  refine pv hF hW (y_extract hF rfl rfl) (fun a hF => ?_)
  refine pv hF hW (y_extract hF rfl rfl) (fun a hF => ?_)
  refine pe (e_alloc hF hW ze_46 rfl rfl rfl ?_)
  intro b1 a wc hF hW
  refine pe (e_alloc hF hW ze_48 rfl rfl rfl ?_)
  intro b2 a wc hF hW
  refine pe (e_storeAll rfl hF hW rfl rfl 1 rfl rfl rfl (by kernel_rfl) sz_46 ?_)
  intro wc hW
  refine pe (e_storeAll rfl hF hW rfl rfl 0 rfl rfl rfl (by kernel_rfl) sz_48 ?_)
  intro wc hW
  refine pv hF hW (y_assign hF rfl) (fun a hF => ?_)
  refine l_nil ?_
  replace hF := (hF.k 0 rfl (hF.k 1 rfl (hF.k 2 rfl (hF.k 3 rfl hF.nil))))
  refine t_n ?_
  refine c_sr ?_
  refine pv hF hW (y_loadAll hF rfl 1 rfl Try.underlying46 rfl sz_46) (fun a hF => ?_)
  refine pv hF hW (y_loadAll hF rfl 0 rfl Try.underlying48 rfl sz_48) (fun a hF => ?_)
  refine pe (e_call hF rfl rfl en_28 (by rfl) rfl rfl (replyZ (c := ⟨1, [0, 0, 0, 0], [0, 0, 0, 0, 0, 0, 0, 0], 0, [], 0⟩) (k := ⟨13, 0, 0, 1, 0⟩) (c' := ⟨1, [7, 1, 0, 0], [0, 0, 0, 0, 0, 0, 0, 0], 0, [], 0⟩) (hW.res 2 rfl) ⟨rfl, rfl⟩ (by decide) (by decide)) ?_)
  rintro e w1 ⟨A2, k2, rfl, hr, hb⟩
  replace hW := hW.gotR hb hr
  refine ⟨_, rfl, fun a hF => ?_⟩
  replace hF := Fr.cast (v' := .tuple #[.agg #[.int .i64 1, .int .i64 7, .int .i64 1, .int .i64 0, .int .i64 0, .int .i64 0, .int .i64 0, .int .i64 0, .int .i64 0, .int .i64 0, .int .i64 0, .int .i64 0, .int .i64 0, .int .i64 0, .slice A2 0 k2, .int .i64 0], .int .i64 0]) rfl hF
  refine pv hF hW (y_move hF rfl) (fun a hF => ?_)
  refine pv hF hW (y_extract hF rfl rfl) (fun a hF => ?_)
  refine pv hF hW (y_extract hF rfl rfl) (fun a hF => ?_)
  refine pe (e_alloc hF hW ze_46 rfl rfl rfl ?_)
  intro b3 a wc hF hW
  refine pe (e_storeAll rfl hF hW rfl rfl 0 rfl rfl rfl (by kernel_rfl) sz_46 ?_)
  intro wc hW
  refine pv hF hW (y_assign hF rfl) (fun a hF => ?_)
  refine l_nil ?_
  replace hF := (hF.k 0 rfl (hF.k 1 rfl (hF.k 2 rfl (hF.k 3 rfl (hF.k 4 rfl (hF.k 5 rfl hF.nil))))))
  refine t_n ?_
  refine c_sr ?_
  refine pv hF hW (y_build hF rfl (fun w => bu_CellLaw_95_0_2 _ _ w)) (fun a hF => ?_)
  refine pe (e_buildSlice hF hW rfl (fun w => bs_CellLaw_40_1_0 _ _ _ _ w) rfl rfl rfl ?_)
  intro b4 a wc hF hW
  refine pv hF hW (y_build hF rfl (fun w => bu_CellLaw_42_0 _ _ _ w)) (fun a hF => ?_)
  refine pv hF hW (y_build hF rfl (fun w => bu_CellLaw_43_1 _ w)) (fun a hF => ?_)
  refine pv hF hW (y_build hF rfl (fun w => bu_CellLaw_46_1 _ _ _ _ w)) (fun a hF => ?_)
  refine pe (e_call hF rfl rfl en_21 (by rfl) rfl rfl (stepZ (p := ⟨[⟨6, 0, 1, 0⟩], []⟩) (c := ⟨0, [0, 8, 0, 0], [0, 0, 0, 0, 0, 0, 0, 0], 0, [], 0⟩) (c' := ⟨0, [0, 8, 0, 0], [0, 0, 0, 0, 0, 0, 0, 0], 0, [], 2⟩) (k' := ⟨0, 0, 0, 0, 0⟩) (flat_blk (hW.blk 0 rfl) rfl rfl rfl (by simp [maxLen])) Ints.nil_ Ints.nil_ ⟨rfl, rfl⟩ (by decide) (by decide)) ?_)
  rintro e w1 ⟨A3, k3, rfl, hr, hb⟩
  replace hW := hW.gotR hb hr
  refine ⟨_, rfl, fun a hF => ?_⟩
  replace hF := Fr.cast (v' := .tuple #[.agg #[.int .i64 0, .int .i64 0, .int .i64 8, .int .i64 0, .int .i64 0, .int .i64 0, .int .i64 0, .int .i64 0, .int .i64 0, .int .i64 0, .int .i64 0, .int .i64 0, .int .i64 0, .int .i64 0, .slice A3 0 k3, .int .i64 2], .agg #[.int .i64 0, .int .i64 0, .int .i64 0, .int .i64 0, .int .i64 0], .int .i64 0]) rfl hF
  refine pv hF hW (y_move hF rfl) (fun a hF => ?_)
  refine pv hF hW (y_extract hF rfl rfl) (fun a hF => ?_)
  refine pv hF hW (y_extract hF rfl rfl) (fun a hF => ?_)
  refine pv hF hW (y_extract hF rfl rfl) (fun a hF => ?_)
  refine pe (e_alloc hF hW ze_46 rfl rfl rfl ?_)
  intro b5 a wc hF hW
  refine pe (e_alloc hF hW ze_48 rfl rfl rfl ?_)
  intro b6 a wc hF hW
  refine pe (e_storeAll rfl hF hW rfl rfl 1 rfl rfl rfl (by kernel_rfl) sz_46 ?_)
  intro wc hW
  refine pe (e_storeAll rfl hF hW rfl rfl 0 rfl rfl rfl (by kernel_rfl) sz_48 ?_)
  intro wc hW
  refine pv hF hW (y_assign hF rfl) (fun a hF => ?_)
  refine l_nil ?_
  replace hF := (hF.k 0 rfl (hF.k 1 rfl (hF.k 2 rfl (hF.k 3 rfl (hF.k 4 rfl (hF.k 5 rfl (hF.k 6 rfl (hF.k 8 rfl hF.nil))))))))
  refine t_n ?_
  refine c_sr ?_
  refine pv hF hW (y_build hF rfl (fun w => bu_CellLaw_95_0_1 _ _ w)) (fun a hF => ?_)
  refine pe (e_buildSlice hF hW rfl (fun w => bs_CellLaw_40_1_0 _ _ _ _ w) rfl rfl rfl ?_)
  intro b7 a wc hF hW
  refine pe (e_buildSlice hF hW rfl (fun w => bs_CellLaw_22_1_0 _ w) rfl rfl rfl ?_)
  intro b8 a wc hF hW
  refine pv hF hW (y_build hF rfl (fun w => bu_CellLaw_42_0_1 _ _ _ _ _ _ w)) (fun a hF => ?_)
  refine pv hF hW (y_build hF rfl (fun w => bu_CellLaw_46_  w)) (fun a hF => ?_)
  refine pe (e_call hF rfl rfl en_21 (by rfl) rfl rfl (stepZ (p := ⟨[⟨10, 2, 0, 0⟩], [5]⟩) (c := Cel.zero) (c' := ⟨1, [0, 0, 5, 0], [0, 0, 0, 0, 0, 0, 0, 0], 1, [], 0⟩) (k' := ⟨0, 0, 0, 0, 0⟩) (flat_blk (hW.blk 1 rfl) rfl rfl rfl (by simp [maxLen])) (ints_blk (hW.blk 0 rfl) rfl rfl (by simp [maxLen])) Ints.nil_ ⟨rfl, rfl⟩ (by decide) (by decide)) ?_)
  rintro e w1 ⟨A4, k4, rfl, hr, hb⟩
  replace hW := hW.gotR hb hr
  refine ⟨_, rfl, fun a hF => ?_⟩
  replace hF := Fr.cast (v' := .tuple #[.agg #[.int .i64 1, .int .i64 0, .int .i64 0, .int .i64 5, .int .i64 0, .int .i64 0, .int .i64 0, .int .i64 0, .int .i64 0, .int .i64 0, .int .i64 0, .int .i64 0, .int .i64 0, .int .i64 1, .slice A4 0 k4, .int .i64 0], .agg #[.int .i64 0, .int .i64 0, .int .i64 0, .int .i64 0, .int .i64 0], .int .i64 0]) rfl hF
  refine pv hF hW (y_move hF rfl) (fun a hF => ?_)
  refine pv hF hW (y_extract hF rfl rfl) (fun a hF => ?_)
  refine pv hF hW (y_extract hF rfl rfl) (fun a hF => ?_)
  refine pv hF hW (y_extract hF rfl rfl) (fun a hF => ?_)
  refine pe (e_alloc hF hW ze_46 rfl rfl rfl ?_)
  intro b9 a wc hF hW
  refine pe (e_alloc hF hW ze_48 rfl rfl rfl ?_)
  intro b10 a wc hF hW
  refine pe (e_storeAll rfl hF hW rfl rfl 1 rfl rfl rfl (by kernel_rfl) sz_46 ?_)
  intro wc hW
  refine pe (e_storeAll rfl hF hW rfl rfl 0 rfl rfl rfl (by kernel_rfl) sz_48 ?_)
  intro wc hW
  refine pv hF hW (y_assign hF rfl) (fun a hF => ?_)
  refine l_nil ?_
  replace hF := (hF.k 0 rfl (hF.k 1 rfl (hF.k 2 rfl (hF.k 3 rfl (hF.k 4 rfl (hF.k 5 rfl (hF.k 6 rfl (hF.k 8 rfl (hF.k 9 rfl (hF.k 11 rfl hF.nil))))))))))
  refine t_n ?_
  refine c_sr ?_
  refine pv hF hW (y_move hF rfl) (fun a hF => ?_)
  refine pv hF hW (y_eql hF rfl rfl) (fun a hF => ?_)
  replace hF := Fr.bool (t := true) (by first | decide | (simp; done) | rfl) hF
  refine pv hF hW (y_move hF rfl) (fun a hF => ?_)
  replace hF := Fr.bool (t := true) (by first | decide | (simp; done) | rfl) hF
  refine pv hF hW (y_move hF rfl) (fun a hF => ?_) (ws hF rfl rfl)
  refine pv hF hW (y_eql hF rfl rfl) (fun a hF => ?_) (ws hF rfl rfl)
  replace hF := Fr.bool (t := true) (by first | decide | (simp; done) | rfl) hF
  refine pv hF hW (y_pick hF rfl rfl) (fun a hF => ?_)
  replace hF := Fr.bool (t := true) (by first | decide | (simp; done) | rfl) hF
  refine pv hF hW (y_move hF rfl) (fun a hF => ?_)
  replace hF := Fr.bool (t := true) (by first | decide | (simp; done) | rfl) hF
  refine pv hF hW (y_move hF rfl) (fun a hF => ?_) (ws hF rfl rfl)
  refine pv hF hW (y_eql hF rfl rfl) (fun a hF => ?_) (ws hF rfl rfl)
  replace hF := Fr.bool (t := true) (by first | decide | (simp; done) | rfl) hF
  refine pv hF hW (y_pick hF rfl rfl) (fun a hF => ?_)
  replace hF := Fr.bool (t := true) (by first | decide | (simp; done) | rfl) hF
  refine pv hF hW (y_move hF rfl) (fun a hF => ?_)
  replace hF := Fr.bool (t := true) (by first | decide | (simp; done) | rfl) hF
  refine pv hF hW (y_move hF rfl) (fun a hF => ?_) (ws hF rfl rfl)
  refine pv hF hW (y_eql hF rfl rfl) (fun a hF => ?_) (ws hF rfl rfl)
  replace hF := Fr.bool (t := true) (by first | decide | (simp; done) | rfl) hF
  refine pv hF hW (y_pick hF rfl rfl) (fun a hF => ?_)
  replace hF := Fr.bool (t := true) (by first | decide | (simp; done) | rfl) hF
  refine pv hF hW (y_move hF rfl) (fun a hF => ?_)
  replace hF := Fr.bool (t := true) (by first | decide | (simp; done) | rfl) hF
  refine pv hF hW (y_loadAll hF rfl 11 rfl Try.underlying48 rfl sz_48) (fun a hF => ?_) (ws hF rfl rfl)
  refine pv hF hW (y_build hF rfl (fun w => bu_CellLaw_48_0_3 _ _ w)) (fun a hF => ?_) (ws hF rfl rfl)
  refine pv hF hW (y_bin hF rfl rfl (fun w => eqt_48 _ _ _ _ _ _ _ _ _ _ _ _ w)) (fun a hF => ?_) (ws hF rfl rfl)
  replace hF := Fr.bool (t := true) (by first | decide | (simp; done) | rfl) hF
  refine pv hF hW (y_pick hF rfl rfl) (fun a hF => ?_)
  replace hF := Fr.bool (t := true) (by first | decide | (simp; done) | rfl) hF
  refine pv hF hW (y_move hF rfl) (fun a hF => ?_)
  replace hF := Fr.bool (t := true) (by first | decide | (simp; done) | rfl) hF
  refine pv hF hW (y_fieldOwn hF rfl fa_46_0) (fun a hF => ?_) (ws hF rfl rfl)
  refine pv hF hW (y_loadOwn hF rfl 12 rfl rfl Try.underlying3 rfl) (fun a hF => ?_) (ws hF rfl rfl)
  refine pv hF hW (y_eql hF rfl rfl) (fun a hF => ?_) (ws hF rfl rfl)
  replace hF := Fr.bool (t := true) (by first | decide | (simp; done) | rfl) hF
  refine pv hF hW (y_pick hF rfl rfl) (fun a hF => ?_)
  replace hF := Fr.bool (t := true) (by first | decide | (simp; done) | rfl) hF
  refine pv hF hW (y_move hF rfl) (fun a hF => ?_)
  replace hF := Fr.bool (t := true) (by first | decide | (simp; done) | rfl) hF
  refine pv hF hW (y_fieldOwn hF rfl fa_46_1) (fun a hF => ?_) (ws hF rfl rfl)
  refine pv hF hW (y_loadN hF rfl 9 rfl Try.underlying43 rfl sz_43 rfl) (fun a hF => ?_) (ws hF rfl rfl)
  refine pv hF hW (y_build hF rfl (fun w => bu_CellLaw_43_0_1 _ _ w)) (fun a hF => ?_) (ws hF rfl rfl)
  refine pv hF hW (y_bin hF rfl rfl (fun w => eqt_43 _ _ _ _ _ _ _ _ _ _ w)) (fun a hF => ?_) (ws hF rfl rfl)
  replace hF := Fr.bool (t := true) (by first | decide | (simp; done) | rfl) hF
  refine pv hF hW (y_pick hF rfl rfl) (fun a hF => ?_)
  replace hF := Fr.bool (t := true) (by first | decide | (simp; done) | rfl) hF
  refine pv hF hW (y_move hF rfl) (fun a hF => ?_)
  replace hF := Fr.bool (t := true) (by first | decide | (simp; done) | rfl) hF
  refine pv hF hW (y_fieldOwn hF rfl fa_46_5) (fun a hF => ?_) (ws hF rfl rfl)
  refine pv hF hW (y_loadOwn hF rfl 6 rfl rfl Try.underlying3 rfl) (fun a hF => ?_) (ws hF rfl rfl)
  refine pv hF hW (y_eql hF rfl rfl) (fun a hF => ?_) (ws hF rfl rfl)
  replace hF := Fr.bool (t := true) (by first | decide | (simp; done) | rfl) hF
  refine pv hF hW (y_pick hF rfl rfl) (fun a hF => ?_)
  replace hF := Fr.bool (t := true) (by first | decide | (simp; done) | rfl) hF
  refine pv hF hW (y_move hF rfl) (fun a hF => ?_)
  replace hF := Fr.bool (t := true) (by first | decide | (simp; done) | rfl) hF
  refine pv hF hW (y_fieldOwn hF rfl fa_46_0) (fun a hF => ?_) (ws hF rfl rfl)
  refine pv hF hW (y_loadOwn hF rfl 6 rfl rfl Try.underlying3 rfl) (fun a hF => ?_) (ws hF rfl rfl)
  refine pv hF hW (y_eql hF rfl rfl) (fun a hF => ?_) (ws hF rfl rfl)
  replace hF := Fr.bool (t := true) (by first | decide | (simp; done) | rfl) hF
  refine pv hF hW (y_pick hF rfl rfl) (fun a hF => ?_)
  replace hF := Fr.bool (t := true) (by first | decide | (simp; done) | rfl) hF
  refine pv hF hW (y_move hF rfl) (fun a hF => ?_)
  replace hF := Fr.bool (t := true) (by first | decide | (simp; done) | rfl) hF
  refine pv hF hW (y_fieldOwn hF rfl fa_46_1) (fun a hF => ?_) (ws hF rfl rfl)
  refine pv hF hW (y_indexA hF rfl rfl (by first | omega | decide) Try.underlying43 sz_3) (fun a hF => ?_) (ws hF rfl rfl)
  refine pv hF hW (y_loadOwn hF rfl 1 rfl rfl Try.underlying3 rfl) (fun a hF => ?_) (ws hF rfl rfl)
  refine pv hF hW (y_eql hF rfl rfl) (fun a hF => ?_) (ws hF rfl rfl)
  replace hF := Fr.bool (t := true) (by first | decide | (simp; done) | rfl) hF
  refine pv hF hW (y_pick hF rfl rfl) (fun a hF => ?_)
  replace hF := Fr.bool (t := true) (by first | decide | (simp; done) | rfl) hF
  refine pv hF hW (y_move hF rfl) (fun a hF => ?_)
  replace hF := Fr.bool (t := true) (by first | decide | (simp; done) | rfl) hF
  refine pv hF hW (y_fieldOwn hF rfl fa_46_3) (fun a hF => ?_) (ws hF rfl rfl)
  refine pv hF hW (y_loadOwn hF rfl 1 rfl rfl Try.underlying3 rfl) (fun a hF => ?_) (ws hF rfl rfl)
  refine pv hF hW (y_eql hF rfl rfl) (fun a hF => ?_) (ws hF rfl rfl)
  replace hF := Fr.bool (t := true) (by first | decide | (simp; done) | rfl) hF
  refine pv hF hW (y_pick hF rfl rfl) (fun a hF => ?_)
  replace hF := Fr.bool (t := true) (by first | decide | (simp; done) | rfl) hF
  refine pv hF hW (y_move hF rfl) (fun a hF => ?_)
  replace hF := Fr.bool (t := true) (by first | decide | (simp; done) | rfl) hF
  refine pv hF hW (y_build hF rfl (fun w => bu_CellLaw_46_5 _ w)) (fun a hF => ?_) (ws hF rfl rfl)
  refine pe (e_call hF rfl rfl en_25 (by rfl) rfl rfl (cellCheck_any ⟨0, [0, 0, 0, 0], [0, 0, 0, 0, 0, 0, 0, 0], 0, [], 3⟩ _ ⟨rfl, rfl⟩ _ Ints.nil_) ?_) (ws hF rfl rfl)
  rintro e w1 ⟨rfl, hb⟩
  replace hW := hW.kept hb
  clear hb
  refine ⟨_, rfl, fun a hF => ?_⟩
  replace hF := Fr.cast (v' := .int .i64 1) rfl hF
  refine pv hF hW (y_eql hF rfl rfl) (fun a hF => ?_) (ws hF rfl rfl)
  replace hF := Fr.bool (t := true) (by first | decide | (simp; done) | rfl) hF
  refine pv hF hW (y_pick hF rfl rfl) (fun a hF => ?_)
  replace hF := Fr.bool (t := true) (by first | decide | (simp; done) | rfl) hF
  replace hF := hF.drop 0
  refine pv hF hW (y_assign hF rfl) (fun a hF => ?_)
  replace hF := Fr.bool (t := true) (by first | decide | (simp; done) | rfl) hF
  refine l_nil ?_
  replace hF := (hF.k 0 rfl (hF.k 1 rfl (hF.k 2 rfl (hF.k 3 rfl (hF.k 4 rfl (hF.k 5 rfl (hF.k 6 rfl (hF.k 8 rfl (hF.k 9 rfl (hF.k 11 rfl hF.nil))))))))))
  refine t_n ?_
  refine wp_ret ?_
  refine ret1 Try.results24 hF (rv_t hF rfl) ?_
  exact ⟨rfl, hW.below⟩
end Go.Proofs.Ytebklpbbglojmaa
