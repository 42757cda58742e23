/- teller: a program that comes in memory of its own. -/
import Derived.Test.YtebklpbbglojmaaTys
import Derived.Test.YtebklpbbglojmaaCodeChk
namespace Go.Proofs.Ytebklpbbglojmaa
set_option linter.unusedVariables false
set_option linter.unusedSimpArgs false
open Go.RowKit
theorem bs_Teller_40_5_0_1_2_3_4 (x0 : Int) (x1 : Int) (x2 : Int) (x3 : Int) (x4 : Int) (x5 : Int) (x6 : Int) (x7 : Int) (x8 : Int) (x9 : Int) (x10 : Int) (x11 : Int) (x12 : Int) (x13 : Int) (x14 : Int) (x15 : Int) (x16 : Int) (x17 : Int) (x18 : Int) (x19 : Int) (w : World) : (Instr.buildSlice 40 5 #[(0, (.agg #[(.int .i64 x0), (.int .i64 x1), (.int .i64 x2), (.int .i64 x3)])), (1, (.agg #[(.int .i64 x4), (.int .i64 x5), (.int .i64 x6), (.int .i64 x7)])), (2, (.agg #[(.int .i64 x8), (.int .i64 x9), (.int .i64 x10), (.int .i64 x11)])), (3, (.agg #[(.int .i64 x12), (.int .i64 x13), (.int .i64 x14), (.int .i64 x15)])), (4, (.agg #[(.int .i64 x16), (.int .i64 x17), (.int .i64 x18), (.int .i64 x19)]))]).run Try.prog w = .ok (.slice (some ⟨w.heap.size, 0, none⟩) 5 5) (w.alloc (.cells #[(.int .i64 x0), (.int .i64 x1), (.int .i64 x2), (.int .i64 x3), (.int .i64 x4), (.int .i64 x5), (.int .i64 x6), (.int .i64 x7), (.int .i64 x8), (.int .i64 x9), (.int .i64 x10), (.int .i64 x11), (.int .i64 x12), (.int .i64 x13), (.int .i64 x14), (.int .i64 x15), (.int .i64 x16), (.int .i64 x17), (.int .i64 x18), (.int .i64 x19)] 95)) := by kernel_rfl
theorem bu_Teller_95_0 (x0 : Int) (w : World) : (Instr.build 95 #[(0, (.int .i64 x0))]).run Try.prog w = .ok (.agg #[(.int .i64 x0), (.int .i64 0), (.int .i64 0), (.int .i64 0)]) w := by kernel_rfl
theorem bu_Teller_95_0_1_2 (x0 : Int) (x1 : Int) (x2 : Int) (w : World) : (Instr.build 95 #[(0, (.int .i64 x0)), (1, (.int .i64 x1)), (2, (.int .i64 x2))]).run Try.prog w = .ok (.agg #[(.int .i64 x0), (.int .i64 x1), (.int .i64 x2), (.int .i64 0)]) w := by kernel_rfl
theorem bu_Teller_95_0_1_3 (x0 : Int) (x1 : Int) (x2 : Int) (w : World) : (Instr.build 95 #[(0, (.int .i64 x0)), (1, (.int .i64 x1)), (3, (.int .i64 x2))]).run Try.prog w = .ok (.agg #[(.int .i64 x0), (.int .i64 x1), (.int .i64 0), (.int .i64 x2)]) w := by kernel_rfl
theorem bu_Teller_95_0_3 (x0 : Int) (x1 : Int) (w : World) : (Instr.build 95 #[(0, (.int .i64 x0)), (3, (.int .i64 x1))]).run Try.prog w = .ok (.agg #[(.int .i64 x0), (.int .i64 0), (.int .i64 0), (.int .i64 x1)]) w := by kernel_rfl
set_option maxRecDepth 100000

def tellerL : List Ins := [⟨13, 0, 1, 0⟩, ⟨9, 1, 0, 0⟩, ⟨11, 0, 0, 0⟩, ⟨12, 0, 0, 1⟩, ⟨8, 0, 0, 0⟩]
theorem teller_any (w : World) : Calls Try.prog 51 #[] w fun e w' => ∃ A, e = .returned (.slice A 5 5) ∧ OwnRes w w' (fun u => Code_ u (.slice A 5 5) tellerL) ∧ Below w.heap.size w w' := by
  refine enter Try.func51 rfl Try.ntmps51 rfl (fun a hF => ?_)
  have hW := Wd.start w NoB
  refine c_sr ?_
  refine pv hF hW (y_assign hF rfl) (fun a hF => ?_)
  refine l_nil ?_
  refine t_n ?_
  refine c_sr ?_
  refine pv hF hW (y_build hF rfl (fun w => bu_Teller_95_0_1_2 _ _ _ w)) (fun a hF => ?_)
  refine pv hF hW (y_build hF rfl (fun w => bu_Teller_95_0_1_3 _ _ _ w)) (fun a hF => ?_)
  refine pv hF hW (y_build hF rfl (fun w => bu_Teller_95_0 _ w)) (fun a hF => ?_)
  refine pv hF hW (y_build hF rfl (fun w => bu_Teller_95_0_3 _ _ w)) (fun a hF => ?_)
  refine pv hF hW (y_build hF rfl (fun w => bu_Teller_95_0 _ w)) (fun a hF => ?_)
  refine pe (e_buildSlice hF hW rfl (fun w => bs_Teller_40_5_0_1_2_3_4 _ _ _ _ _ _ _ _ _ _ _ _ _ _ _ _ _ _ _ _ w) rfl rfl rfl ?_)
  intro b1 a wc hF hW
  replace hF := hF.drop 0
  refine pv hF hW (y_assign hF rfl) (fun a hF => ?_)
  refine l_nil ?_
  replace hF := (hF.k 0 rfl hF.nil)
  refine t_n ?_
  refine wp_ret ?_
  refine ret1 Try.results51 hF (rv_t hF rfl) ?_
  exact ⟨_, rfl, (hW.res_blk 0 rfl).mono fun u h => flat_blk h rfl rfl rfl (by unfold maxLen; omega), hW.below⟩
end Go.Proofs.Ytebklpbbglojmaa
