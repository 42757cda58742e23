/- Closed facts on the program's types and functions. -/
import Derived.Test.YtnpflhaggfabnaaGreatProg
import Derived.Test.YtnpflhaggfabnaaGreatEng
namespace Go.Proofs.YtnpflhaggfabnaaGreat
set_option linter.unusedVariables false
set_option linter.unusedSimpArgs false
open Go.RowKit
theorem en_10 : Enters Tryz.prog 10 := enters_of Tryz.func10 (by kernel_rfl) rfl
theorem en_100 : Enters Tryz.prog 100 := enters_of Tryz.func100 (by kernel_rfl) rfl
theorem en_104 : Enters Tryz.prog 104 := enters_of Tryz.func104 (by kernel_rfl) rfl
theorem en_106 : Enters Tryz.prog 106 := enters_of Tryz.func106 (by kernel_rfl) rfl
theorem en_107 : Enters Tryz.prog 107 := enters_of Tryz.func107 (by kernel_rfl) rfl
theorem en_108 : Enters Tryz.prog 108 := enters_of Tryz.func108 (by kernel_rfl) rfl
theorem en_109 : Enters Tryz.prog 109 := enters_of Tryz.func109 (by kernel_rfl) rfl
theorem en_114 : Enters Tryz.prog 114 := enters_of Tryz.func114 (by kernel_rfl) rfl
theorem en_115 : Enters Tryz.prog 115 := enters_of Tryz.func115 (by kernel_rfl) rfl
theorem en_119 : Enters Tryz.prog 119 := enters_of Tryz.func119 (by kernel_rfl) rfl
theorem en_120 : Enters Tryz.prog 120 := enters_of Tryz.func120 (by kernel_rfl) rfl
theorem en_121 : Enters Tryz.prog 121 := enters_of Tryz.func121 (by kernel_rfl) rfl
theorem en_123 : Enters Tryz.prog 123 := enters_of Tryz.func123 (by kernel_rfl) rfl
theorem en_127 : Enters Tryz.prog 127 := enters_of Tryz.func127 (by kernel_rfl) rfl
theorem en_128 : Enters Tryz.prog 128 := enters_of Tryz.func128 (by kernel_rfl) rfl
theorem en_129 : Enters Tryz.prog 129 := enters_of Tryz.func129 (by kernel_rfl) rfl
theorem en_13 : Enters Tryz.prog 13 := enters_of Tryz.func13 (by kernel_rfl) rfl
theorem en_132 : Enters Tryz.prog 132 := enters_of Tryz.func132 (by kernel_rfl) rfl
theorem en_133 : Enters Tryz.prog 133 := enters_of Tryz.func133 (by kernel_rfl) rfl
theorem en_134 : Enters Tryz.prog 134 := enters_of Tryz.func134 (by kernel_rfl) rfl
theorem en_138 : Enters Tryz.prog 138 := enters_of Tryz.func138 (by kernel_rfl) rfl
theorem en_14 : Enters Tryz.prog 14 := enters_of Tryz.func14 (by kernel_rfl) rfl
theorem en_15 : Enters Tryz.prog 15 := enters_of Tryz.func15 (by kernel_rfl) rfl
theorem en_21 : Enters Tryz.prog 21 := enters_of Tryz.func21 (by kernel_rfl) rfl
theorem en_27 : Enters Tryz.prog 27 := enters_of Tryz.func27 (by kernel_rfl) rfl
theorem en_28 : Enters Tryz.prog 28 := enters_of Tryz.func28 (by kernel_rfl) rfl
theorem en_29 : Enters Tryz.prog 29 := enters_of Tryz.func29 (by kernel_rfl) rfl
theorem en_30 : Enters Tryz.prog 30 := enters_of Tryz.func30 (by kernel_rfl) rfl
theorem en_31 : Enters Tryz.prog 31 := enters_of Tryz.func31 (by kernel_rfl) rfl
theorem en_32 : Enters Tryz.prog 32 := enters_of Tryz.func32 (by kernel_rfl) rfl
theorem en_35 : Enters Tryz.prog 35 := enters_of Tryz.func35 (by kernel_rfl) rfl
theorem en_36 : Enters Tryz.prog 36 := enters_of Tryz.func36 (by kernel_rfl) rfl
theorem en_37 : Enters Tryz.prog 37 := enters_of Tryz.func37 (by kernel_rfl) rfl
theorem en_38 : Enters Tryz.prog 38 := enters_of Tryz.func38 (by kernel_rfl) rfl
theorem en_39 : Enters Tryz.prog 39 := enters_of Tryz.func39 (by kernel_rfl) rfl
theorem en_40 : Enters Tryz.prog 40 := enters_of Tryz.func40 (by kernel_rfl) rfl
theorem en_44 : Enters Tryz.prog 44 := enters_of Tryz.func44 (by kernel_rfl) rfl
theorem en_45 : Enters Tryz.prog 45 := enters_of Tryz.func45 (by kernel_rfl) rfl
theorem en_46 : Enters Tryz.prog 46 := enters_of Tryz.func46 (by kernel_rfl) rfl
theorem en_47 : Enters Tryz.prog 47 := enters_of Tryz.func47 (by kernel_rfl) rfl
theorem en_48 : Enters Tryz.prog 48 := enters_of Tryz.func48 (by kernel_rfl) rfl
theorem en_49 : Enters Tryz.prog 49 := enters_of Tryz.func49 (by kernel_rfl) rfl
theorem en_50 : Enters Tryz.prog 50 := enters_of Tryz.func50 (by kernel_rfl) rfl
theorem en_51 : Enters Tryz.prog 51 := enters_of Tryz.func51 (by kernel_rfl) rfl
theorem en_53 : Enters Tryz.prog 53 := enters_of Tryz.func53 (by kernel_rfl) rfl
theorem en_54 : Enters Tryz.prog 54 := enters_of Tryz.func54 (by kernel_rfl) rfl
theorem en_59 : Enters Tryz.prog 59 := enters_of Tryz.func59 (by kernel_rfl) rfl
theorem en_6 : Enters Tryz.prog 6 := enters_of Tryz.func6 (by kernel_rfl) rfl
theorem en_68 : Enters Tryz.prog 68 := enters_of Tryz.func68 (by kernel_rfl) rfl
theorem en_69 : Enters Tryz.prog 69 := enters_of Tryz.func69 (by kernel_rfl) rfl
theorem en_70 : Enters Tryz.prog 70 := enters_of Tryz.func70 (by kernel_rfl) rfl
theorem en_71 : Enters Tryz.prog 71 := enters_of Tryz.func71 (by kernel_rfl) rfl
theorem en_72 : Enters Tryz.prog 72 := enters_of Tryz.func72 (by kernel_rfl) rfl
theorem en_73 : Enters Tryz.prog 73 := enters_of Tryz.func73 (by kernel_rfl) rfl
theorem en_74 : Enters Tryz.prog 74 := enters_of Tryz.func74 (by kernel_rfl) rfl
theorem en_75 : Enters Tryz.prog 75 := enters_of Tryz.func75 (by kernel_rfl) rfl
theorem en_76 : Enters Tryz.prog 76 := enters_of Tryz.func76 (by kernel_rfl) rfl
theorem en_77 : Enters Tryz.prog 77 := enters_of Tryz.func77 (by kernel_rfl) rfl
theorem en_78 : Enters Tryz.prog 78 := enters_of Tryz.func78 (by kernel_rfl) rfl
theorem en_79 : Enters Tryz.prog 79 := enters_of Tryz.func79 (by kernel_rfl) rfl
theorem en_80 : Enters Tryz.prog 80 := enters_of Tryz.func80 (by kernel_rfl) rfl
theorem en_81 : Enters Tryz.prog 81 := enters_of Tryz.func81 (by kernel_rfl) rfl
theorem en_82 : Enters Tryz.prog 82 := enters_of Tryz.func82 (by kernel_rfl) rfl
theorem en_83 : Enters Tryz.prog 83 := enters_of Tryz.func83 (by kernel_rfl) rfl
theorem en_84 : Enters Tryz.prog 84 := enters_of Tryz.func84 (by kernel_rfl) rfl
theorem en_85 : Enters Tryz.prog 85 := enters_of Tryz.func85 (by kernel_rfl) rfl
theorem en_87 : Enters Tryz.prog 87 := enters_of Tryz.func87 (by kernel_rfl) rfl
theorem en_88 : Enters Tryz.prog 88 := enters_of Tryz.func88 (by kernel_rfl) rfl
theorem en_89 : Enters Tryz.prog 89 := enters_of Tryz.func89 (by kernel_rfl) rfl
theorem en_9 : Enters Tryz.prog 9 := enters_of Tryz.func9 (by kernel_rfl) rfl
theorem en_90 : Enters Tryz.prog 90 := enters_of Tryz.func90 (by kernel_rfl) rfl
theorem en_91 : Enters Tryz.prog 91 := enters_of Tryz.func91 (by kernel_rfl) rfl
theorem en_92 : Enters Tryz.prog 92 := enters_of Tryz.func92 (by kernel_rfl) rfl
theorem en_93 : Enters Tryz.prog 93 := enters_of Tryz.func93 (by kernel_rfl) rfl
theorem en_94 : Enters Tryz.prog 94 := enters_of Tryz.func94 (by kernel_rfl) rfl
theorem en_95 : Enters Tryz.prog 95 := enters_of Tryz.func95 (by kernel_rfl) rfl
theorem en_96 : Enters Tryz.prog 96 := enters_of Tryz.func96 (by kernel_rfl) rfl
theorem en_97 : Enters Tryz.prog 97 := enters_of Tryz.func97 (by kernel_rfl) rfl
theorem en_98 : Enters Tryz.prog 98 := enters_of Tryz.func98 (by kernel_rfl) rfl
theorem en_99 : Enters Tryz.prog 99 := enters_of Tryz.func99 (by kernel_rfl) rfl
theorem fa_118_0 : FieldAt Tryz.prog 118 0 0 := fieldAt_of Tryz.underlying118 rfl rfl (z := 1) (by kernel_rfl) (by decide)
theorem fa_118_1 : FieldAt Tryz.prog 118 1 1 := fieldAt_of Tryz.underlying118 rfl rfl (z := 1) (by kernel_rfl) (by decide)
theorem fa_118_4 : FieldAt Tryz.prog 118 4 4 := fieldAt_of Tryz.underlying118 rfl rfl (z := 1) (by kernel_rfl) (by decide)
theorem fa_26_0 : FieldAt Tryz.prog 26 0 0 := fieldAt_of Tryz.underlying26 rfl rfl (z := 1) (by kernel_rfl) (by decide)
theorem fa_26_1 : FieldAt Tryz.prog 26 1 1 := fieldAt_of Tryz.underlying26 rfl rfl (z := 1) (by kernel_rfl) (by decide)
theorem fa_26_2 : FieldAt Tryz.prog 26 2 2 := fieldAt_of Tryz.underlying26 rfl rfl (z := 1) (by kernel_rfl) (by decide)
theorem fa_30_0 : FieldAt Tryz.prog 30 0 0 := fieldAt_of Tryz.underlying30 rfl rfl (z := 1) (by kernel_rfl) (by decide)
theorem fa_30_1 : FieldAt Tryz.prog 30 1 1 := fieldAt_of Tryz.underlying30 rfl rfl (z := 1) (by kernel_rfl) (by decide)
theorem fa_30_2 : FieldAt Tryz.prog 30 2 2 := fieldAt_of Tryz.underlying30 rfl rfl (z := 1) (by kernel_rfl) (by decide)
theorem fa_58_0 : FieldAt Tryz.prog 58 0 0 := fieldAt_of Tryz.underlying58 rfl rfl (z := 1) (by kernel_rfl) (by decide)
theorem fa_58_1 : FieldAt Tryz.prog 58 1 1 := fieldAt_of Tryz.underlying58 rfl rfl (z := 4) (by kernel_rfl) (by decide)
theorem fa_58_2 : FieldAt Tryz.prog 58 2 5 := fieldAt_of Tryz.underlying58 rfl rfl (z := 8) (by kernel_rfl) (by decide)
theorem fa_58_3 : FieldAt Tryz.prog 58 3 13 := fieldAt_of Tryz.underlying58 rfl rfl (z := 1) (by kernel_rfl) (by decide)
theorem fa_58_4 : FieldAt Tryz.prog 58 4 14 := fieldAt_of Tryz.underlying58 rfl rfl (z := 1) (by kernel_rfl) (by decide)
theorem fa_58_5 : FieldAt Tryz.prog 58 5 15 := fieldAt_of Tryz.underlying58 rfl rfl (z := 1) (by kernel_rfl) (by decide)
theorem fa_60_0 : FieldAt Tryz.prog 60 0 0 := fieldAt_of Tryz.underlying60 rfl rfl (z := 1) (by kernel_rfl) (by decide)
theorem fa_65_0 : FieldAt Tryz.prog 65 0 0 := fieldAt_of Tryz.underlying65 rfl rfl (z := 1) (by kernel_rfl) (by decide)
theorem fa_65_1 : FieldAt Tryz.prog 65 1 1 := fieldAt_of Tryz.underlying65 rfl rfl (z := 1) (by kernel_rfl) (by decide)
theorem fa_67_0 : FieldAt Tryz.prog 67 0 0 := fieldAt_of Tryz.underlying67 rfl rfl (z := 1) (by kernel_rfl) (by decide)
theorem fa_67_3 : FieldAt Tryz.prog 67 3 3 := fieldAt_of Tryz.underlying67 rfl rfl (z := 1) (by kernel_rfl) (by decide)
theorem fa_78_0 : FieldAt Tryz.prog 78 0 0 := fieldAt_of Tryz.underlying78 rfl rfl (z := 1) (by kernel_rfl) (by decide)
theorem fa_85_0 : FieldAt Tryz.prog 85 0 0 := fieldAt_of Tryz.underlying85 rfl rfl (z := 1) (by kernel_rfl) (by decide)
theorem fa_85_1 : FieldAt Tryz.prog 85 1 1 := fieldAt_of Tryz.underlying85 rfl rfl (z := 1) (by kernel_rfl) (by decide)
theorem fa_85_2 : FieldAt Tryz.prog 85 2 2 := fieldAt_of Tryz.underlying85 rfl rfl (z := 1) (by kernel_rfl) (by decide)
theorem fa_89_0 : FieldAt Tryz.prog 89 0 0 := fieldAt_of Tryz.underlying89 rfl rfl (z := 1) (by kernel_rfl) (by decide)
theorem fa_96_0 : FieldAt Tryz.prog 96 0 0 := fieldAt_of Tryz.underlying96 rfl rfl (z := 1) (by kernel_rfl) (by decide)
theorem fa_96_1 : FieldAt Tryz.prog 96 1 1 := fieldAt_of Tryz.underlying96 rfl rfl (z := 1) (by kernel_rfl) (by decide)
theorem inf_3 : (Tryz.prog.info? 3).map (fun i => (i.zero, i.size, i.bytes)) = some (some (.int .i64 0), 1, 8) := by kernel_rfl
theorem inf_31 : (Tryz.prog.info? 31).map (fun i => (i.zero, i.size, i.bytes)) = some (some (.slice none 0 0), 1, 24) := by kernel_rfl
theorem inf_4 : (Tryz.prog.info? 4).map (fun i => (i.zero, i.size, i.bytes)) = some (some (.bool false), 1, 1) := by kernel_rfl
theorem inf_46 : (Tryz.prog.info? 46).map (fun i => (i.zero, i.size, i.bytes)) = some (some (.slice none 0 0), 1, 24) := by kernel_rfl
theorem inf_58 : (Tryz.prog.info? 58).map (fun i => (i.zero, i.size, i.bytes)) = some (some (.agg #[(.int .i64 0), (.int .i64 0), (.int .i64 0), (.int .i64 0), (.int .i64 0), (.int .i64 0), (.int .i64 0), (.int .i64 0), (.int .i64 0), (.int .i64 0), (.int .i64 0), (.int .i64 0), (.int .i64 0), (.int .i64 0), (.slice none 0 0), (.int .i64 0)]), 16, 144) := by kernel_rfl
theorem inf_60 : (Tryz.prog.info? 60).map (fun i => (i.zero, i.size, i.bytes)) = some (some (.agg #[(.slice none 0 0)]), 1, 24) := by kernel_rfl
theorem inf_65 : (Tryz.prog.info? 65).map (fun i => (i.zero, i.size, i.bytes)) = some (some (.agg #[(.slice none 0 0), (.slice none 0 0)]), 2, 48) := by kernel_rfl
theorem inf_67 : (Tryz.prog.info? 67).map (fun i => (i.zero, i.size, i.bytes)) = some (some (.agg #[(.int .i64 0), (.int .i64 0), (.int .i64 0), (.int .i64 0)]), 4, 32) := by kernel_rfl
theorem inf_85 : (Tryz.prog.info? 85).map (fun i => (i.zero, i.size, i.bytes)) = some (some (.agg #[(.int .i64 0), (.int .i64 0), (.int .i64 0)]), 3, 24) := by kernel_rfl
theorem inf_96 : (Tryz.prog.info? 96).map (fun i => (i.zero, i.size, i.bytes)) = some (some (.agg #[(.int .i64 0), (.int .i64 0)]), 2, 16) := by kernel_rfl
theorem mixed_ok : Tryz.prog.follows .mixedOrders = true := by kernel_rfl
theorem sz_118 : (Tryz.prog.info? 118).map (·.size) = some 5 := by kernel_rfl
theorem sz_153 : (Tryz.prog.info? 153).map (·.size) = some 1 := by kernel_rfl
theorem sz_22 : (Tryz.prog.info? 22).map (·.size) = some 1 := by kernel_rfl
theorem sz_26 : (Tryz.prog.info? 26).map (·.size) = some 3 := by kernel_rfl
theorem sz_27 : (Tryz.prog.info? 27).map (·.size) = some 1 := by kernel_rfl
theorem sz_28 : (Tryz.prog.info? 28).map (·.size) = some 1 := by kernel_rfl
theorem sz_3 : (Tryz.prog.info? 3).map (·.size) = some 1 := by kernel_rfl
theorem sz_30 : (Tryz.prog.info? 30).map (·.size) = some 3 := by kernel_rfl
theorem sz_31 : (Tryz.prog.info? 31).map (·.size) = some 1 := by kernel_rfl
theorem sz_32 : (Tryz.prog.info? 32).map (·.size) = some 1 := by kernel_rfl
theorem sz_4 : (Tryz.prog.info? 4).map (·.size) = some 1 := by kernel_rfl
theorem sz_46 : (Tryz.prog.info? 46).map (·.size) = some 1 := by kernel_rfl
theorem sz_55 : (Tryz.prog.info? 55).map (·.size) = some 4 := by kernel_rfl
theorem sz_56 : (Tryz.prog.info? 56).map (·.size) = some 8 := by kernel_rfl
theorem sz_58 : (Tryz.prog.info? 58).map (·.size) = some 16 := by kernel_rfl
theorem sz_60 : (Tryz.prog.info? 60).map (·.size) = some 1 := by kernel_rfl
theorem sz_65 : (Tryz.prog.info? 65).map (·.size) = some 2 := by kernel_rfl
theorem sz_67 : (Tryz.prog.info? 67).map (·.size) = some 4 := by kernel_rfl
theorem sz_85 : (Tryz.prog.info? 85).map (·.size) = some 3 := by kernel_rfl
theorem sz_94 : (Tryz.prog.info? 94).map (·.size) = some 1 := by kernel_rfl
theorem sz_96 : (Tryz.prog.info? 96).map (·.size) = some 2 := by kernel_rfl
theorem ze_118 : (Tryz.prog.info? 118).map (·.zero) = some (some (.agg #[(.int .i64 0), (.int .i64 0), (.int .i64 0), (.int .i64 0), (.int .i64 0)])) := by kernel_rfl
theorem ze_153 : (Tryz.prog.info? 153).map (·.zero) = some (some (.slice none 0 0)) := by kernel_rfl
theorem ze_26 : (Tryz.prog.info? 26).map (·.zero) = some (some (.agg #[(.slice none 0 0), (.slice none 0 0), (.slice none 0 0)])) := by kernel_rfl
theorem ze_3 : (Tryz.prog.info? 3).map (·.zero) = some (some (.int .i64 0)) := by kernel_rfl
theorem ze_30 : (Tryz.prog.info? 30).map (·.zero) = some (some (.agg #[(.int .i64 0), (.slice none 0 0), (.slice none 0 0)])) := by kernel_rfl
theorem ze_32 : (Tryz.prog.info? 32).map (·.zero) = some (some (.int .i64 0)) := by kernel_rfl
theorem ze_58 : (Tryz.prog.info? 58).map (·.zero) = some (some (.agg #[(.int .i64 0), (.int .i64 0), (.int .i64 0), (.int .i64 0), (.int .i64 0), (.int .i64 0), (.int .i64 0), (.int .i64 0), (.int .i64 0), (.int .i64 0), (.int .i64 0), (.int .i64 0), (.int .i64 0), (.int .i64 0), (.slice none 0 0), (.int .i64 0)])) := by kernel_rfl
theorem ze_60 : (Tryz.prog.info? 60).map (·.zero) = some (some (.agg #[(.slice none 0 0)])) := by kernel_rfl
theorem ze_65 : (Tryz.prog.info? 65).map (·.zero) = some (some (.agg #[(.slice none 0 0), (.slice none 0 0)])) := by kernel_rfl
theorem ze_67 : (Tryz.prog.info? 67).map (·.zero) = some (some (.agg #[(.int .i64 0), (.int .i64 0), (.int .i64 0), (.int .i64 0)])) := by kernel_rfl
theorem ze_85 : (Tryz.prog.info? 85).map (·.zero) = some (some (.agg #[(.int .i64 0), (.int .i64 0), (.int .i64 0)])) := by kernel_rfl
theorem ze_94 : (Tryz.prog.info? 94).map (·.zero) = some (some .nilFunc) := by kernel_rfl
theorem eqt_55 (a0 a1 a2 a3 b0 b1 b2 b3 : Int) (x y : Operand) (w : World) : (do eqGuard .eql 55 x y (.agg #[.int .i64 a0, .int .i64 a1, .int .i64 a2, .int .i64 a3]) (.agg #[.int .i64 b0, .int .i64 b1, .int .i64 b2, .int .i64 b3]); binOp .eql 55 (.agg #[.int .i64 a0, .int .i64 a1, .int .i64 a2, .int .i64 a3]) (.agg #[.int .i64 b0, .int .i64 b1, .int .i64 b2, .int .i64 b3]) : Sem Value).run Tryz.prog w = .ok (.bool (decide ((a0 = b0 ∧ a1 = b1 ∧ a2 = b2 ∧ a3 = b3)))) w := by
  have h := (eqA (P := Tryz.prog) (T := 55) Tryz.underlying55 (by kernel_rfl) sz_3 (by kernel_rfl) [a0, a1, a2, a3] [b0, b1, b2, b3] rfl rfl x y w).1
  rwa [show (decide ([a0, a1, a2, a3] = [b0, b1, b2, b3])) = decide ((a0 = b0 ∧ a1 = b1 ∧ a2 = b2 ∧ a3 = b3)) by simp] at h
theorem eqt_56 (a0 a1 a2 a3 a4 a5 a6 a7 b0 b1 b2 b3 b4 b5 b6 b7 : Int) (x y : Operand) (w : World) : (do eqGuard .eql 56 x y (.agg #[.int .i64 a0, .int .i64 a1, .int .i64 a2, .int .i64 a3, .int .i64 a4, .int .i64 a5, .int .i64 a6, .int .i64 a7]) (.agg #[.int .i64 b0, .int .i64 b1, .int .i64 b2, .int .i64 b3, .int .i64 b4, .int .i64 b5, .int .i64 b6, .int .i64 b7]); binOp .eql 56 (.agg #[.int .i64 a0, .int .i64 a1, .int .i64 a2, .int .i64 a3, .int .i64 a4, .int .i64 a5, .int .i64 a6, .int .i64 a7]) (.agg #[.int .i64 b0, .int .i64 b1, .int .i64 b2, .int .i64 b3, .int .i64 b4, .int .i64 b5, .int .i64 b6, .int .i64 b7]) : Sem Value).run Tryz.prog w = .ok (.bool (decide ((a0 = b0 ∧ a1 = b1 ∧ a2 = b2 ∧ a3 = b3 ∧ a4 = b4 ∧ a5 = b5 ∧ a6 = b6 ∧ a7 = b7)))) w := by
  have h := (eqA (P := Tryz.prog) (T := 56) Tryz.underlying56 (by kernel_rfl) sz_3 (by kernel_rfl) [a0, a1, a2, a3, a4, a5, a6, a7] [b0, b1, b2, b3, b4, b5, b6, b7] rfl rfl x y w).1
  rwa [show (decide ([a0, a1, a2, a3, a4, a5, a6, a7] = [b0, b1, b2, b3, b4, b5, b6, b7])) = decide ((a0 = b0 ∧ a1 = b1 ∧ a2 = b2 ∧ a3 = b3 ∧ a4 = b4 ∧ a5 = b5 ∧ a6 = b6 ∧ a7 = b7)) by simp] at h
end Go.Proofs.YtnpflhaggfabnaaGreat
