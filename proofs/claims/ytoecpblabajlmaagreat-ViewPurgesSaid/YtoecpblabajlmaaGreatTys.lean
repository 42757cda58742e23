/- Closed facts on the program's types and functions. -/
import Derived.Test.YtoecpblabajlmaaGreatProg
import Derived.Test.YtoecpblabajlmaaGreatEng
namespace Go.Proofs.YtoecpblabajlmaaGreat
set_option linter.unusedVariables false
set_option linter.unusedSimpArgs false
open Go.RowKit
theorem en_10 : Enters Tryz.prog 10 := enters_of Tryz.func10 (by kernel_rfl) rfl
theorem en_102 : Enters Tryz.prog 102 := enters_of Tryz.func102 (by kernel_rfl) rfl
theorem en_106 : Enters Tryz.prog 106 := enters_of Tryz.func106 (by kernel_rfl) rfl
theorem en_107 : Enters Tryz.prog 107 := enters_of Tryz.func107 (by kernel_rfl) rfl
theorem en_11 : Enters Tryz.prog 11 := enters_of Tryz.func11 (by kernel_rfl) rfl
theorem en_111 : Enters Tryz.prog 111 := enters_of Tryz.func111 (by kernel_rfl) rfl
theorem en_113 : Enters Tryz.prog 113 := enters_of Tryz.func113 (by kernel_rfl) rfl
theorem en_114 : Enters Tryz.prog 114 := enters_of Tryz.func114 (by kernel_rfl) rfl
theorem en_115 : Enters Tryz.prog 115 := enters_of Tryz.func115 (by kernel_rfl) rfl
theorem en_116 : Enters Tryz.prog 116 := enters_of Tryz.func116 (by kernel_rfl) rfl
theorem en_119 : Enters Tryz.prog 119 := enters_of Tryz.func119 (by kernel_rfl) rfl
theorem en_12 : Enters Tryz.prog 12 := enters_of Tryz.func12 (by kernel_rfl) rfl
theorem en_120 : Enters Tryz.prog 120 := enters_of Tryz.func120 (by kernel_rfl) rfl
theorem en_121 : Enters Tryz.prog 121 := enters_of Tryz.func121 (by kernel_rfl) rfl
theorem en_124 : Enters Tryz.prog 124 := enters_of Tryz.func124 (by kernel_rfl) rfl
theorem en_126 : Enters Tryz.prog 126 := enters_of Tryz.func126 (by kernel_rfl) rfl
theorem en_129 : Enters Tryz.prog 129 := enters_of Tryz.func129 (by kernel_rfl) rfl
theorem en_13 : Enters Tryz.prog 13 := enters_of Tryz.func13 (by kernel_rfl) rfl
theorem en_133 : Enters Tryz.prog 133 := enters_of Tryz.func133 (by kernel_rfl) rfl
theorem en_134 : Enters Tryz.prog 134 := enters_of Tryz.func134 (by kernel_rfl) rfl
theorem en_135 : Enters Tryz.prog 135 := enters_of Tryz.func135 (by kernel_rfl) rfl
theorem en_136 : Enters Tryz.prog 136 := enters_of Tryz.func136 (by kernel_rfl) rfl
theorem en_137 : Enters Tryz.prog 137 := enters_of Tryz.func137 (by kernel_rfl) rfl
theorem en_14 : Enters Tryz.prog 14 := enters_of Tryz.func14 (by kernel_rfl) rfl
theorem en_142 : Enters Tryz.prog 142 := enters_of Tryz.func142 (by kernel_rfl) rfl
theorem en_15 : Enters Tryz.prog 15 := enters_of Tryz.func15 (by kernel_rfl) rfl
theorem en_16 : Enters Tryz.prog 16 := enters_of Tryz.func16 (by kernel_rfl) rfl
theorem en_17 : Enters Tryz.prog 17 := enters_of Tryz.func17 (by kernel_rfl) rfl
theorem en_18 : Enters Tryz.prog 18 := enters_of Tryz.func18 (by kernel_rfl) rfl
theorem en_19 : Enters Tryz.prog 19 := enters_of Tryz.func19 (by kernel_rfl) rfl
theorem en_20 : Enters Tryz.prog 20 := enters_of Tryz.func20 (by kernel_rfl) rfl
theorem en_21 : Enters Tryz.prog 21 := enters_of Tryz.func21 (by kernel_rfl) rfl
theorem en_22 : Enters Tryz.prog 22 := enters_of Tryz.func22 (by kernel_rfl) rfl
theorem en_23 : Enters Tryz.prog 23 := enters_of Tryz.func23 (by kernel_rfl) rfl
theorem en_24 : Enters Tryz.prog 24 := enters_of Tryz.func24 (by kernel_rfl) rfl
theorem en_25 : Enters Tryz.prog 25 := enters_of Tryz.func25 (by kernel_rfl) rfl
theorem en_26 : Enters Tryz.prog 26 := enters_of Tryz.func26 (by kernel_rfl) rfl
theorem en_27 : Enters Tryz.prog 27 := enters_of Tryz.func27 (by kernel_rfl) rfl
theorem en_28 : Enters Tryz.prog 28 := enters_of Tryz.func28 (by kernel_rfl) rfl
theorem en_32 : Enters Tryz.prog 32 := enters_of Tryz.func32 (by kernel_rfl) rfl
theorem en_33 : Enters Tryz.prog 33 := enters_of Tryz.func33 (by kernel_rfl) rfl
theorem en_34 : Enters Tryz.prog 34 := enters_of Tryz.func34 (by kernel_rfl) rfl
theorem en_35 : Enters Tryz.prog 35 := enters_of Tryz.func35 (by kernel_rfl) rfl
theorem en_36 : Enters Tryz.prog 36 := enters_of Tryz.func36 (by kernel_rfl) rfl
theorem en_37 : Enters Tryz.prog 37 := enters_of Tryz.func37 (by kernel_rfl) rfl
theorem en_38 : Enters Tryz.prog 38 := enters_of Tryz.func38 (by kernel_rfl) rfl
theorem en_39 : Enters Tryz.prog 39 := enters_of Tryz.func39 (by kernel_rfl) rfl
theorem en_40 : Enters Tryz.prog 40 := enters_of Tryz.func40 (by kernel_rfl) rfl
theorem en_41 : Enters Tryz.prog 41 := enters_of Tryz.func41 (by kernel_rfl) rfl
theorem en_42 : Enters Tryz.prog 42 := enters_of Tryz.func42 (by kernel_rfl) rfl
theorem en_43 : Enters Tryz.prog 43 := enters_of Tryz.func43 (by kernel_rfl) rfl
theorem en_44 : Enters Tryz.prog 44 := enters_of Tryz.func44 (by kernel_rfl) rfl
theorem en_45 : Enters Tryz.prog 45 := enters_of Tryz.func45 (by kernel_rfl) rfl
theorem en_46 : Enters Tryz.prog 46 := enters_of Tryz.func46 (by kernel_rfl) rfl
theorem en_47 : Enters Tryz.prog 47 := enters_of Tryz.func47 (by kernel_rfl) rfl
theorem en_48 : Enters Tryz.prog 48 := enters_of Tryz.func48 (by kernel_rfl) rfl
theorem en_49 : Enters Tryz.prog 49 := enters_of Tryz.func49 (by kernel_rfl) rfl
theorem en_50 : Enters Tryz.prog 50 := enters_of Tryz.func50 (by kernel_rfl) rfl
theorem en_51 : Enters Tryz.prog 51 := enters_of Tryz.func51 (by kernel_rfl) rfl
theorem en_52 : Enters Tryz.prog 52 := enters_of Tryz.func52 (by kernel_rfl) rfl
theorem en_53 : Enters Tryz.prog 53 := enters_of Tryz.func53 (by kernel_rfl) rfl
theorem en_54 : Enters Tryz.prog 54 := enters_of Tryz.func54 (by kernel_rfl) rfl
theorem en_55 : Enters Tryz.prog 55 := enters_of Tryz.func55 (by kernel_rfl) rfl
theorem en_56 : Enters Tryz.prog 56 := enters_of Tryz.func56 (by kernel_rfl) rfl
theorem en_57 : Enters Tryz.prog 57 := enters_of Tryz.func57 (by kernel_rfl) rfl
theorem en_58 : Enters Tryz.prog 58 := enters_of Tryz.func58 (by kernel_rfl) rfl
theorem en_59 : Enters Tryz.prog 59 := enters_of Tryz.func59 (by kernel_rfl) rfl
theorem en_60 : Enters Tryz.prog 60 := enters_of Tryz.func60 (by kernel_rfl) rfl
theorem en_61 : Enters Tryz.prog 61 := enters_of Tryz.func61 (by kernel_rfl) rfl
theorem en_62 : Enters Tryz.prog 62 := enters_of Tryz.func62 (by kernel_rfl) rfl
theorem en_63 : Enters Tryz.prog 63 := enters_of Tryz.func63 (by kernel_rfl) rfl
theorem en_64 : Enters Tryz.prog 64 := enters_of Tryz.func64 (by kernel_rfl) rfl
theorem en_69 : Enters Tryz.prog 69 := enters_of Tryz.func69 (by kernel_rfl) rfl
theorem en_70 : Enters Tryz.prog 70 := enters_of Tryz.func70 (by kernel_rfl) rfl
theorem en_71 : Enters Tryz.prog 71 := enters_of Tryz.func71 (by kernel_rfl) rfl
theorem en_72 : Enters Tryz.prog 72 := enters_of Tryz.func72 (by kernel_rfl) rfl
theorem en_73 : Enters Tryz.prog 73 := enters_of Tryz.func73 (by kernel_rfl) rfl
theorem en_74 : Enters Tryz.prog 74 := enters_of Tryz.func74 (by kernel_rfl) rfl
theorem en_75 : Enters Tryz.prog 75 := enters_of Tryz.func75 (by kernel_rfl) rfl
theorem en_76 : Enters Tryz.prog 76 := enters_of Tryz.func76 (by kernel_rfl) rfl
theorem en_77 : Enters Tryz.prog 77 := enters_of Tryz.func77 (by kernel_rfl) rfl
theorem en_78 : Enters Tryz.prog 78 := enters_of Tryz.func78 (by kernel_rfl) rfl
theorem en_79 : Enters Tryz.prog 79 := enters_of Tryz.func79 (by kernel_rfl) rfl
theorem en_80 : Enters Tryz.prog 80 := enters_of Tryz.func80 (by kernel_rfl) rfl
theorem en_81 : Enters Tryz.prog 81 := enters_of Tryz.func81 (by kernel_rfl) rfl
theorem en_82 : Enters Tryz.prog 82 := enters_of Tryz.func82 (by kernel_rfl) rfl
theorem en_83 : Enters Tryz.prog 83 := enters_of Tryz.func83 (by kernel_rfl) rfl
theorem en_84 : Enters Tryz.prog 84 := enters_of Tryz.func84 (by kernel_rfl) rfl
theorem en_85 : Enters Tryz.prog 85 := enters_of Tryz.func85 (by kernel_rfl) rfl
theorem en_86 : Enters Tryz.prog 86 := enters_of Tryz.func86 (by kernel_rfl) rfl
theorem en_87 : Enters Tryz.prog 87 := enters_of Tryz.func87 (by kernel_rfl) rfl
theorem en_88 : Enters Tryz.prog 88 := enters_of Tryz.func88 (by kernel_rfl) rfl
theorem en_89 : Enters Tryz.prog 89 := enters_of Tryz.func89 (by kernel_rfl) rfl
theorem en_9 : Enters Tryz.prog 9 := enters_of Tryz.func9 (by kernel_rfl) rfl
theorem en_90 : Enters Tryz.prog 90 := enters_of Tryz.func90 (by kernel_rfl) rfl
theorem en_91 : Enters Tryz.prog 91 := enters_of Tryz.func91 (by kernel_rfl) rfl
theorem en_92 : Enters Tryz.prog 92 := enters_of Tryz.func92 (by kernel_rfl) rfl
theorem en_93 : Enters Tryz.prog 93 := enters_of Tryz.func93 (by kernel_rfl) rfl
theorem en_95 : Enters Tryz.prog 95 := enters_of Tryz.func95 (by kernel_rfl) rfl
theorem en_96 : Enters Tryz.prog 96 := enters_of Tryz.func96 (by kernel_rfl) rfl
theorem en_97 : Enters Tryz.prog 97 := enters_of Tryz.func97 (by kernel_rfl) rfl
theorem en_98 : Enters Tryz.prog 98 := enters_of Tryz.func98 (by kernel_rfl) rfl
theorem en_99 : Enters Tryz.prog 99 := enters_of Tryz.func99 (by kernel_rfl) rfl
theorem fa_111_0 : FieldAt Tryz.prog 111 0 0 := fieldAt_of Tryz.underlying111 rfl rfl (z := 1) (by kernel_rfl) (by decide)
theorem fa_111_1 : FieldAt Tryz.prog 111 1 1 := fieldAt_of Tryz.underlying111 rfl rfl (z := 1) (by kernel_rfl) (by decide)
theorem fa_26_0 : FieldAt Tryz.prog 26 0 0 := fieldAt_of Tryz.underlying26 rfl rfl (z := 1) (by kernel_rfl) (by decide)
theorem fa_26_1 : FieldAt Tryz.prog 26 1 1 := fieldAt_of Tryz.underlying26 rfl rfl (z := 1) (by kernel_rfl) (by decide)
theorem fa_26_2 : FieldAt Tryz.prog 26 2 2 := fieldAt_of Tryz.underlying26 rfl rfl (z := 1) (by kernel_rfl) (by decide)
theorem fa_30_0 : FieldAt Tryz.prog 30 0 0 := fieldAt_of Tryz.underlying30 rfl rfl (z := 1) (by kernel_rfl) (by decide)
theorem fa_30_1 : FieldAt Tryz.prog 30 1 1 := fieldAt_of Tryz.underlying30 rfl rfl (z := 1) (by kernel_rfl) (by decide)
theorem fa_30_2 : FieldAt Tryz.prog 30 2 2 := fieldAt_of Tryz.underlying30 rfl rfl (z := 1) (by kernel_rfl) (by decide)
theorem fa_47_0 : FieldAt Tryz.prog 47 0 0 := fieldAt_of Tryz.underlying47 rfl rfl (z := 1) (by kernel_rfl) (by decide)
theorem fa_47_1 : FieldAt Tryz.prog 47 1 1 := fieldAt_of Tryz.underlying47 rfl rfl (z := 4) (by kernel_rfl) (by decide)
theorem fa_47_2 : FieldAt Tryz.prog 47 2 5 := fieldAt_of Tryz.underlying47 rfl rfl (z := 8) (by kernel_rfl) (by decide)
theorem fa_47_3 : FieldAt Tryz.prog 47 3 13 := fieldAt_of Tryz.underlying47 rfl rfl (z := 1) (by kernel_rfl) (by decide)
theorem fa_47_4 : FieldAt Tryz.prog 47 4 14 := fieldAt_of Tryz.underlying47 rfl rfl (z := 1) (by kernel_rfl) (by decide)
theorem fa_47_5 : FieldAt Tryz.prog 47 5 15 := fieldAt_of Tryz.underlying47 rfl rfl (z := 1) (by kernel_rfl) (by decide)
theorem fa_49_0 : FieldAt Tryz.prog 49 0 0 := fieldAt_of Tryz.underlying49 rfl rfl (z := 16) (by kernel_rfl) (by decide)
theorem fa_49_1 : FieldAt Tryz.prog 49 1 16 := fieldAt_of Tryz.underlying49 rfl rfl (z := 1) (by kernel_rfl) (by decide)
theorem fa_58_0 : FieldAt Tryz.prog 58 0 0 := fieldAt_of Tryz.underlying58 rfl rfl (z := 1) (by kernel_rfl) (by decide)
theorem fa_58_1 : FieldAt Tryz.prog 58 1 1 := fieldAt_of Tryz.underlying58 rfl rfl (z := 1) (by kernel_rfl) (by decide)
theorem fa_68_0 : FieldAt Tryz.prog 68 0 0 := fieldAt_of Tryz.underlying68 rfl rfl (z := 1) (by kernel_rfl) (by decide)
theorem fa_70_0 : FieldAt Tryz.prog 70 0 0 := fieldAt_of Tryz.underlying70 rfl rfl (z := 1) (by kernel_rfl) (by decide)
theorem fa_70_1 : FieldAt Tryz.prog 70 1 1 := fieldAt_of Tryz.underlying70 rfl rfl (z := 1) (by kernel_rfl) (by decide)
theorem fa_70_2 : FieldAt Tryz.prog 70 2 2 := fieldAt_of Tryz.underlying70 rfl rfl (z := 1) (by kernel_rfl) (by decide)
theorem fa_70_3 : FieldAt Tryz.prog 70 3 3 := fieldAt_of Tryz.underlying70 rfl rfl (z := 1) (by kernel_rfl) (by decide)
theorem fa_91_0 : FieldAt Tryz.prog 91 0 0 := fieldAt_of Tryz.underlying91 rfl rfl (z := 1) (by kernel_rfl) (by decide)
theorem fa_91_1 : FieldAt Tryz.prog 91 1 1 := fieldAt_of Tryz.underlying91 rfl rfl (z := 1) (by kernel_rfl) (by decide)
theorem fa_91_2 : FieldAt Tryz.prog 91 2 2 := fieldAt_of Tryz.underlying91 rfl rfl (z := 1) (by kernel_rfl) (by decide)
theorem fa_94_0 : FieldAt Tryz.prog 94 0 0 := fieldAt_of Tryz.underlying94 rfl rfl (z := 1) (by kernel_rfl) (by decide)
theorem fa_94_1 : FieldAt Tryz.prog 94 1 1 := fieldAt_of Tryz.underlying94 rfl rfl (z := 1) (by kernel_rfl) (by decide)
theorem fa_94_2 : FieldAt Tryz.prog 94 2 2 := fieldAt_of Tryz.underlying94 rfl rfl (z := 1) (by kernel_rfl) (by decide)
theorem fa_94_3 : FieldAt Tryz.prog 94 3 3 := fieldAt_of Tryz.underlying94 rfl rfl (z := 1) (by kernel_rfl) (by decide)
theorem fa_94_4 : FieldAt Tryz.prog 94 4 4 := fieldAt_of Tryz.underlying94 rfl rfl (z := 1) (by kernel_rfl) (by decide)
theorem inf_111 : (Tryz.prog.info? 111).map (fun i => (i.zero, i.size, i.bytes)) = some (some (.agg #[(.int .i64 0), (.int .i64 0)]), 2, 16) := by kernel_rfl
theorem inf_118 : (Tryz.prog.info? 118).map (fun i => (i.zero, i.size, i.bytes)) = some (some (.slice none 0 0), 1, 24) := by kernel_rfl
theorem inf_3 : (Tryz.prog.info? 3).map (fun i => (i.zero, i.size, i.bytes)) = some (some (.int .i64 0), 1, 8) := by kernel_rfl
theorem inf_4 : (Tryz.prog.info? 4).map (fun i => (i.zero, i.size, i.bytes)) = some (some (.bool false), 1, 1) := by kernel_rfl
theorem inf_45 : (Tryz.prog.info? 45).map (fun i => (i.zero, i.size, i.bytes)) = some (some (.slice none 0 0), 1, 24) := by kernel_rfl
theorem inf_47 : (Tryz.prog.info? 47).map (fun i => (i.zero, i.size, i.bytes)) = some (some (.agg #[(.int .i64 0), (.int .i64 0), (.int .i64 0), (.int .i64 0), (.int .i64 0), (.int .i64 0), (.int .i64 0), (.int .i64 0), (.int .i64 0), (.int .i64 0), (.int .i64 0), (.int .i64 0), (.int .i64 0), (.int .i64 0), (.slice none 0 0), (.int .i64 0)]), 16, 144) := by kernel_rfl
theorem inf_58 : (Tryz.prog.info? 58).map (fun i => (i.zero, i.size, i.bytes)) = some (some (.agg #[(.slice none 0 0), (.slice none 0 0)]), 2, 48) := by kernel_rfl
theorem inf_68 : (Tryz.prog.info? 68).map (fun i => (i.zero, i.size, i.bytes)) = some (some (.agg #[(.slice none 0 0)]), 1, 24) := by kernel_rfl
theorem inf_70 : (Tryz.prog.info? 70).map (fun i => (i.zero, i.size, i.bytes)) = some (some (.agg #[(.int .i64 0), (.int .i64 0), (.int .i64 0), (.int .i64 0)]), 4, 32) := by kernel_rfl
theorem inf_91 : (Tryz.prog.info? 91).map (fun i => (i.zero, i.size, i.bytes)) = some (some (.agg #[(.int .i64 0), (.int .i64 0), (.int .i64 0)]), 3, 24) := by kernel_rfl
theorem mixed_ok : Tryz.prog.follows .mixedOrders = true := by kernel_rfl
theorem sz_109 : (Tryz.prog.info? 109).map (·.size) = some 1 := by kernel_rfl
theorem sz_111 : (Tryz.prog.info? 111).map (·.size) = some 2 := by kernel_rfl
theorem sz_114 : (Tryz.prog.info? 114).map (·.size) = some 1 := by kernel_rfl
theorem sz_118 : (Tryz.prog.info? 118).map (·.size) = some 1 := by kernel_rfl
theorem sz_155 : (Tryz.prog.info? 155).map (·.size) = some 1 := by kernel_rfl
theorem sz_22 : (Tryz.prog.info? 22).map (·.size) = some 1 := by kernel_rfl
theorem sz_26 : (Tryz.prog.info? 26).map (·.size) = some 3 := by kernel_rfl
theorem sz_27 : (Tryz.prog.info? 27).map (·.size) = some 1 := by kernel_rfl
theorem sz_28 : (Tryz.prog.info? 28).map (·.size) = some 1 := by kernel_rfl
theorem sz_3 : (Tryz.prog.info? 3).map (·.size) = some 1 := by kernel_rfl
theorem sz_30 : (Tryz.prog.info? 30).map (·.size) = some 3 := by kernel_rfl
theorem sz_31 : (Tryz.prog.info? 31).map (·.size) = some 1 := by kernel_rfl
theorem sz_4 : (Tryz.prog.info? 4).map (·.size) = some 1 := by kernel_rfl
theorem sz_43 : (Tryz.prog.info? 43).map (·.size) = some 4 := by kernel_rfl
theorem sz_44 : (Tryz.prog.info? 44).map (·.size) = some 8 := by kernel_rfl
theorem sz_45 : (Tryz.prog.info? 45).map (·.size) = some 1 := by kernel_rfl
theorem sz_47 : (Tryz.prog.info? 47).map (·.size) = some 16 := by kernel_rfl
theorem sz_49 : (Tryz.prog.info? 49).map (·.size) = some 17 := by kernel_rfl
theorem sz_58 : (Tryz.prog.info? 58).map (·.size) = some 2 := by kernel_rfl
theorem sz_68 : (Tryz.prog.info? 68).map (·.size) = some 1 := by kernel_rfl
theorem sz_70 : (Tryz.prog.info? 70).map (·.size) = some 4 := by kernel_rfl
theorem sz_91 : (Tryz.prog.info? 91).map (·.size) = some 3 := by kernel_rfl
theorem sz_94 : (Tryz.prog.info? 94).map (·.size) = some 5 := by kernel_rfl
theorem ze_109 : (Tryz.prog.info? 109).map (·.zero) = some (some .nilFunc) := by kernel_rfl
theorem ze_114 : (Tryz.prog.info? 114).map (·.zero) = some (some (.slice none 0 0)) := by kernel_rfl
theorem ze_155 : (Tryz.prog.info? 155).map (·.zero) = some (some (.slice none 0 0)) := by kernel_rfl
theorem ze_26 : (Tryz.prog.info? 26).map (·.zero) = some (some (.agg #[(.slice none 0 0), (.slice none 0 0), (.slice none 0 0)])) := by kernel_rfl
theorem ze_3 : (Tryz.prog.info? 3).map (·.zero) = some (some (.int .i64 0)) := by kernel_rfl
theorem ze_30 : (Tryz.prog.info? 30).map (·.zero) = some (some (.agg #[(.int .i64 0), (.slice none 0 0), (.slice none 0 0)])) := by kernel_rfl
theorem ze_31 : (Tryz.prog.info? 31).map (·.zero) = some (some (.int .i64 0)) := by kernel_rfl
theorem ze_47 : (Tryz.prog.info? 47).map (·.zero) = some (some (.agg #[(.int .i64 0), (.int .i64 0), (.int .i64 0), (.int .i64 0), (.int .i64 0), (.int .i64 0), (.int .i64 0), (.int .i64 0), (.int .i64 0), (.int .i64 0), (.int .i64 0), (.int .i64 0), (.int .i64 0), (.int .i64 0), (.slice none 0 0), (.int .i64 0)])) := by kernel_rfl
theorem ze_49 : (Tryz.prog.info? 49).map (·.zero) = some (some (.agg #[(.int .i64 0), (.int .i64 0), (.int .i64 0), (.int .i64 0), (.int .i64 0), (.int .i64 0), (.int .i64 0), (.int .i64 0), (.int .i64 0), (.int .i64 0), (.int .i64 0), (.int .i64 0), (.int .i64 0), (.int .i64 0), (.slice none 0 0), (.int .i64 0), (.slice none 0 0)])) := by kernel_rfl
theorem ze_58 : (Tryz.prog.info? 58).map (·.zero) = some (some (.agg #[(.slice none 0 0), (.slice none 0 0)])) := by kernel_rfl
theorem ze_68 : (Tryz.prog.info? 68).map (·.zero) = some (some (.agg #[(.slice none 0 0)])) := by kernel_rfl
theorem ze_70 : (Tryz.prog.info? 70).map (·.zero) = some (some (.agg #[(.int .i64 0), (.int .i64 0), (.int .i64 0), (.int .i64 0)])) := by kernel_rfl
theorem ze_91 : (Tryz.prog.info? 91).map (·.zero) = some (some (.agg #[(.int .i64 0), (.int .i64 0), (.int .i64 0)])) := by kernel_rfl
theorem ze_94 : (Tryz.prog.info? 94).map (·.zero) = some (some (.agg #[(.int .i64 0), (.int .i64 0), (.int .i64 0), (.int .i64 0), (.int .i64 0)])) := by kernel_rfl
theorem net_111 (a0 a1 b0 b1 : Int) (x y : Operand) (w : World) : (do eqGuard .neq 111 x y (.agg #[.int .i64 a0, .int .i64 a1]) (.agg #[.int .i64 b0, .int .i64 b1]); binOp .neq 111 (.agg #[.int .i64 a0, .int .i64 a1]) (.agg #[.int .i64 b0, .int .i64 b1]) : Sem Value).run Tryz.prog w = .ok (.bool (decide (¬ (a0 = b0 ∧ a1 = b1)))) w := by
  have h := (eqS (P := Tryz.prog) (T := 111) (by kernel_rfl) (by kernel_rfl) (by kernel_rfl) (by kernel_rfl) [a0, a1] [b0, b1] (by kernel_rfl) (by kernel_rfl) x y w).2
  rwa [show (!(decide ([a0, a1] = [b0, b1]))) = decide (¬ (a0 = b0 ∧ a1 = b1)) by simp] at h
theorem eqt_43 (a0 a1 a2 a3 b0 b1 b2 b3 : Int) (x y : Operand) (w : World) : (do eqGuard .eql 43 x y (.agg #[.int .i64 a0, .int .i64 a1, .int .i64 a2, .int .i64 a3]) (.agg #[.int .i64 b0, .int .i64 b1, .int .i64 b2, .int .i64 b3]); binOp .eql 43 (.agg #[.int .i64 a0, .int .i64 a1, .int .i64 a2, .int .i64 a3]) (.agg #[.int .i64 b0, .int .i64 b1, .int .i64 b2, .int .i64 b3]) : Sem Value).run Tryz.prog w = .ok (.bool (decide ((a0 = b0 ∧ a1 = b1 ∧ a2 = b2 ∧ a3 = b3)))) w := by
  have h := (eqA (P := Tryz.prog) (T := 43) Tryz.underlying43 (by kernel_rfl) sz_3 (by kernel_rfl) [a0, a1, a2, a3] [b0, b1, b2, b3] rfl rfl x y w).1
  rwa [show (decide ([a0, a1, a2, a3] = [b0, b1, b2, b3])) = decide ((a0 = b0 ∧ a1 = b1 ∧ a2 = b2 ∧ a3 = b3)) by simp] at h
theorem eqt_44 (a0 a1 a2 a3 a4 a5 a6 a7 b0 b1 b2 b3 b4 b5 b6 b7 : Int) (x y : Operand) (w : World) : (do eqGuard .eql 44 x y (.agg #[.int .i64 a0, .int .i64 a1, .int .i64 a2, .int .i64 a3, .int .i64 a4, .int .i64 a5, .int .i64 a6, .int .i64 a7]) (.agg #[.int .i64 b0, .int .i64 b1, .int .i64 b2, .int .i64 b3, .int .i64 b4, .int .i64 b5, .int .i64 b6, .int .i64 b7]); binOp .eql 44 (.agg #[.int .i64 a0, .int .i64 a1, .int .i64 a2, .int .i64 a3, .int .i64 a4, .int .i64 a5, .int .i64 a6, .int .i64 a7]) (.agg #[.int .i64 b0, .int .i64 b1, .int .i64 b2, .int .i64 b3, .int .i64 b4, .int .i64 b5, .int .i64 b6, .int .i64 b7]) : Sem Value).run Tryz.prog w = .ok (.bool (decide ((a0 = b0 ∧ a1 = b1 ∧ a2 = b2 ∧ a3 = b3 ∧ a4 = b4 ∧ a5 = b5 ∧ a6 = b6 ∧ a7 = b7)))) w := by
  have h := (eqA (P := Tryz.prog) (T := 44) Tryz.underlying44 (by kernel_rfl) sz_3 (by kernel_rfl) [a0, a1, a2, a3, a4, a5, a6, a7] [b0, b1, b2, b3, b4, b5, b6, b7] rfl rfl x y w).1
  rwa [show (decide ([a0, a1, a2, a3, a4, a5, a6, a7] = [b0, b1, b2, b3, b4, b5, b6, b7])) = decide ((a0 = b0 ∧ a1 = b1 ∧ a2 = b2 ∧ a3 = b3 ∧ a4 = b4 ∧ a5 = b5 ∧ a6 = b6 ∧ a7 = b7)) by simp] at h
theorem net_70 (a0 a1 a2 a3 b0 b1 b2 b3 : Int) (x y : Operand) (w : World) : (do eqGuard .neq 70 x y (.agg #[.int .i64 a0, .int .i64 a1, .int .i64 a2, .int .i64 a3]) (.agg #[.int .i64 b0, .int .i64 b1, .int .i64 b2, .int .i64 b3]); binOp .neq 70 (.agg #[.int .i64 a0, .int .i64 a1, .int .i64 a2, .int .i64 a3]) (.agg #[.int .i64 b0, .int .i64 b1, .int .i64 b2, .int .i64 b3]) : Sem Value).run Tryz.prog w = .ok (.bool (decide (¬ (a0 = b0 ∧ a1 = b1 ∧ a2 = b2 ∧ a3 = b3)))) w := by
  have h := (eqS (P := Tryz.prog) (T := 70) (by kernel_rfl) (by kernel_rfl) (by kernel_rfl) (by kernel_rfl) [a0, a1, a2, a3] [b0, b1, b2, b3] (by kernel_rfl) (by kernel_rfl) x y w).2
  rwa [show (!(decide ([a0, a1, a2, a3] = [b0, b1, b2, b3]))) = decide (¬ (a0 = b0 ∧ a1 = b1 ∧ a2 = b2 ∧ a3 = b3)) by simp] at h
theorem net_91 (a0 a1 a2 b0 b1 b2 : Int) (x y : Operand) (w : World) : (do eqGuard .neq 91 x y (.agg #[.int .i64 a0, .int .i64 a1, .int .i64 a2]) (.agg #[.int .i64 b0, .int .i64 b1, .int .i64 b2]); binOp .neq 91 (.agg #[.int .i64 a0, .int .i64 a1, .int .i64 a2]) (.agg #[.int .i64 b0, .int .i64 b1, .int .i64 b2]) : Sem Value).run Tryz.prog w = .ok (.bool (decide (¬ (a0 = b0 ∧ a1 = b1 ∧ a2 = b2)))) w := by
  have h := (eqS (P := Tryz.prog) (T := 91) (by kernel_rfl) (by kernel_rfl) (by kernel_rfl) (by kernel_rfl) [a0, a1, a2] [b0, b1, b2] (by kernel_rfl) (by kernel_rfl) x y w).2
  rwa [show (!(decide ([a0, a1, a2] = [b0, b1, b2]))) = decide (¬ (a0 = b0 ∧ a1 = b1 ∧ a2 = b2)) by simp] at h
end Go.Proofs.YtoecpblabajlmaaGreat
