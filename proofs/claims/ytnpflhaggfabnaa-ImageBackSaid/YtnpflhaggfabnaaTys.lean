/- Closed facts on the program's types and functions. -/
import Derived.Test.YtnpflhaggfabnaaProg
import Derived.Test.YtnpflhaggfabnaaEng
namespace Go.Proofs.Ytnpflhaggfabnaa
set_option linter.unusedVariables false
set_option linter.unusedSimpArgs false
open Go.RowKit
theorem en_10 : Enters Try.prog 10 := enters_of Try.func10 (by kernel_rfl) rfl
theorem en_11 : Enters Try.prog 11 := enters_of Try.func11 (by kernel_rfl) rfl
theorem en_12 : Enters Try.prog 12 := enters_of Try.func12 (by kernel_rfl) rfl
theorem en_13 : Enters Try.prog 13 := enters_of Try.func13 (by kernel_rfl) rfl
theorem en_14 : Enters Try.prog 14 := enters_of Try.func14 (by kernel_rfl) rfl
theorem en_15 : Enters Try.prog 15 := enters_of Try.func15 (by kernel_rfl) rfl
theorem en_16 : Enters Try.prog 16 := enters_of Try.func16 (by kernel_rfl) rfl
theorem en_17 : Enters Try.prog 17 := enters_of Try.func17 (by kernel_rfl) rfl
theorem en_18 : Enters Try.prog 18 := enters_of Try.func18 (by kernel_rfl) rfl
theorem en_19 : Enters Try.prog 19 := enters_of Try.func19 (by kernel_rfl) rfl
theorem en_20 : Enters Try.prog 20 := enters_of Try.func20 (by kernel_rfl) rfl
theorem en_21 : Enters Try.prog 21 := enters_of Try.func21 (by kernel_rfl) rfl
theorem en_22 : Enters Try.prog 22 := enters_of Try.func22 (by kernel_rfl) rfl
theorem en_23 : Enters Try.prog 23 := enters_of Try.func23 (by kernel_rfl) rfl
theorem en_24 : Enters Try.prog 24 := enters_of Try.func24 (by kernel_rfl) rfl
theorem en_25 : Enters Try.prog 25 := enters_of Try.func25 (by kernel_rfl) rfl
theorem en_26 : Enters Try.prog 26 := enters_of Try.func26 (by kernel_rfl) rfl
theorem en_27 : Enters Try.prog 27 := enters_of Try.func27 (by kernel_rfl) rfl
theorem en_28 : Enters Try.prog 28 := enters_of Try.func28 (by kernel_rfl) rfl
theorem en_29 : Enters Try.prog 29 := enters_of Try.func29 (by kernel_rfl) rfl
theorem en_3 : Enters Try.prog 3 := enters_of Try.func3 (by kernel_rfl) rfl
theorem en_30 : Enters Try.prog 30 := enters_of Try.func30 (by kernel_rfl) rfl
theorem en_31 : Enters Try.prog 31 := enters_of Try.func31 (by kernel_rfl) rfl
theorem en_32 : Enters Try.prog 32 := enters_of Try.func32 (by kernel_rfl) rfl
theorem en_33 : Enters Try.prog 33 := enters_of Try.func33 (by kernel_rfl) rfl
theorem en_34 : Enters Try.prog 34 := enters_of Try.func34 (by kernel_rfl) rfl
theorem en_35 : Enters Try.prog 35 := enters_of Try.func35 (by kernel_rfl) rfl
theorem en_36 : Enters Try.prog 36 := enters_of Try.func36 (by kernel_rfl) rfl
theorem en_37 : Enters Try.prog 37 := enters_of Try.func37 (by kernel_rfl) rfl
theorem en_38 : Enters Try.prog 38 := enters_of Try.func38 (by kernel_rfl) rfl
theorem en_39 : Enters Try.prog 39 := enters_of Try.func39 (by kernel_rfl) rfl
theorem en_4 : Enters Try.prog 4 := enters_of Try.func4 (by kernel_rfl) rfl
theorem en_40 : Enters Try.prog 40 := enters_of Try.func40 (by kernel_rfl) rfl
theorem en_41 : Enters Try.prog 41 := enters_of Try.func41 (by kernel_rfl) rfl
theorem en_42 : Enters Try.prog 42 := enters_of Try.func42 (by kernel_rfl) rfl
theorem en_43 : Enters Try.prog 43 := enters_of Try.func43 (by kernel_rfl) rfl
theorem en_44 : Enters Try.prog 44 := enters_of Try.func44 (by kernel_rfl) rfl
theorem en_45 : Enters Try.prog 45 := enters_of Try.func45 (by kernel_rfl) rfl
theorem en_46 : Enters Try.prog 46 := enters_of Try.func46 (by kernel_rfl) rfl
theorem en_47 : Enters Try.prog 47 := enters_of Try.func47 (by kernel_rfl) rfl
theorem en_48 : Enters Try.prog 48 := enters_of Try.func48 (by kernel_rfl) rfl
theorem en_49 : Enters Try.prog 49 := enters_of Try.func49 (by kernel_rfl) rfl
theorem en_5 : Enters Try.prog 5 := enters_of Try.func5 (by kernel_rfl) rfl
theorem en_50 : Enters Try.prog 50 := enters_of Try.func50 (by kernel_rfl) rfl
theorem en_51 : Enters Try.prog 51 := enters_of Try.func51 (by kernel_rfl) rfl
theorem en_52 : Enters Try.prog 52 := enters_of Try.func52 (by kernel_rfl) rfl
theorem en_53 : Enters Try.prog 53 := enters_of Try.func53 (by kernel_rfl) rfl
theorem en_54 : Enters Try.prog 54 := enters_of Try.func54 (by kernel_rfl) rfl
theorem en_55 : Enters Try.prog 55 := enters_of Try.func55 (by kernel_rfl) rfl
theorem en_56 : Enters Try.prog 56 := enters_of Try.func56 (by kernel_rfl) rfl
theorem en_57 : Enters Try.prog 57 := enters_of Try.func57 (by kernel_rfl) rfl
theorem en_58 : Enters Try.prog 58 := enters_of Try.func58 (by kernel_rfl) rfl
theorem en_59 : Enters Try.prog 59 := enters_of Try.func59 (by kernel_rfl) rfl
theorem en_6 : Enters Try.prog 6 := enters_of Try.func6 (by kernel_rfl) rfl
theorem en_60 : Enters Try.prog 60 := enters_of Try.func60 (by kernel_rfl) rfl
theorem en_61 : Enters Try.prog 61 := enters_of Try.func61 (by kernel_rfl) rfl
theorem en_62 : Enters Try.prog 62 := enters_of Try.func62 (by kernel_rfl) rfl
theorem en_63 : Enters Try.prog 63 := enters_of Try.func63 (by kernel_rfl) rfl
theorem en_64 : Enters Try.prog 64 := enters_of Try.func64 (by kernel_rfl) rfl
theorem en_65 : Enters Try.prog 65 := enters_of Try.func65 (by kernel_rfl) rfl
theorem en_66 : Enters Try.prog 66 := enters_of Try.func66 (by kernel_rfl) rfl
theorem en_67 : Enters Try.prog 67 := enters_of Try.func67 (by kernel_rfl) rfl
theorem en_68 : Enters Try.prog 68 := enters_of Try.func68 (by kernel_rfl) rfl
theorem en_69 : Enters Try.prog 69 := enters_of Try.func69 (by kernel_rfl) rfl
theorem en_7 : Enters Try.prog 7 := enters_of Try.func7 (by kernel_rfl) rfl
theorem en_70 : Enters Try.prog 70 := enters_of Try.func70 (by kernel_rfl) rfl
theorem en_71 : Enters Try.prog 71 := enters_of Try.func71 (by kernel_rfl) rfl
theorem en_72 : Enters Try.prog 72 := enters_of Try.func72 (by kernel_rfl) rfl
theorem en_73 : Enters Try.prog 73 := enters_of Try.func73 (by kernel_rfl) rfl
theorem en_74 : Enters Try.prog 74 := enters_of Try.func74 (by kernel_rfl) rfl
theorem en_75 : Enters Try.prog 75 := enters_of Try.func75 (by kernel_rfl) rfl
theorem en_76 : Enters Try.prog 76 := enters_of Try.func76 (by kernel_rfl) rfl
theorem en_77 : Enters Try.prog 77 := enters_of Try.func77 (by kernel_rfl) rfl
theorem en_78 : Enters Try.prog 78 := enters_of Try.func78 (by kernel_rfl) rfl
theorem en_79 : Enters Try.prog 79 := enters_of Try.func79 (by kernel_rfl) rfl
theorem en_8 : Enters Try.prog 8 := enters_of Try.func8 (by kernel_rfl) rfl
theorem en_80 : Enters Try.prog 80 := enters_of Try.func80 (by kernel_rfl) rfl
theorem en_81 : Enters Try.prog 81 := enters_of Try.func81 (by kernel_rfl) rfl
theorem en_82 : Enters Try.prog 82 := enters_of Try.func82 (by kernel_rfl) rfl
theorem en_83 : Enters Try.prog 83 := enters_of Try.func83 (by kernel_rfl) rfl
theorem en_84 : Enters Try.prog 84 := enters_of Try.func84 (by kernel_rfl) rfl
theorem en_85 : Enters Try.prog 85 := enters_of Try.func85 (by kernel_rfl) rfl
theorem en_86 : Enters Try.prog 86 := enters_of Try.func86 (by kernel_rfl) rfl
theorem en_87 : Enters Try.prog 87 := enters_of Try.func87 (by kernel_rfl) rfl
theorem en_88 : Enters Try.prog 88 := enters_of Try.func88 (by kernel_rfl) rfl
theorem en_89 : Enters Try.prog 89 := enters_of Try.func89 (by kernel_rfl) rfl
theorem en_9 : Enters Try.prog 9 := enters_of Try.func9 (by kernel_rfl) rfl
theorem en_90 : Enters Try.prog 90 := enters_of Try.func90 (by kernel_rfl) rfl
theorem en_91 : Enters Try.prog 91 := enters_of Try.func91 (by kernel_rfl) rfl
theorem fa_105_0 : FieldAt Try.prog 105 0 0 := fieldAt_of Try.underlying105 rfl rfl (z := 1) (by kernel_rfl) (by decide)
theorem fa_105_1 : FieldAt Try.prog 105 1 1 := fieldAt_of Try.underlying105 rfl rfl (z := 1) (by kernel_rfl) (by decide)
theorem fa_106_0 : FieldAt Try.prog 106 0 0 := fieldAt_of Try.underlying106 rfl rfl (z := 1) (by kernel_rfl) (by decide)
theorem fa_106_1 : FieldAt Try.prog 106 1 1 := fieldAt_of Try.underlying106 rfl rfl (z := 1) (by kernel_rfl) (by decide)
theorem fa_13_0 : FieldAt Try.prog 13 0 0 := fieldAt_of Try.underlying13 rfl rfl (z := 1) (by kernel_rfl) (by decide)
theorem fa_13_1 : FieldAt Try.prog 13 1 1 := fieldAt_of Try.underlying13 rfl rfl (z := 1) (by kernel_rfl) (by decide)
theorem fa_14_0 : FieldAt Try.prog 14 0 0 := fieldAt_of Try.underlying14 rfl rfl (z := 1) (by kernel_rfl) (by decide)
theorem fa_14_1 : FieldAt Try.prog 14 1 1 := fieldAt_of Try.underlying14 rfl rfl (z := 1) (by kernel_rfl) (by decide)
theorem fa_143_0 : FieldAt Try.prog 143 0 0 := fieldAt_of Try.underlying143 rfl rfl (z := 1) (by kernel_rfl) (by decide)
theorem fa_143_1 : FieldAt Try.prog 143 1 1 := fieldAt_of Try.underlying143 rfl rfl (z := 1) (by kernel_rfl) (by decide)
theorem fa_143_2 : FieldAt Try.prog 143 2 2 := fieldAt_of Try.underlying143 rfl rfl (z := 1) (by kernel_rfl) (by decide)
theorem fa_143_3 : FieldAt Try.prog 143 3 3 := fieldAt_of Try.underlying143 rfl rfl (z := 1) (by kernel_rfl) (by decide)
theorem fa_144_0 : FieldAt Try.prog 144 0 0 := fieldAt_of Try.underlying144 rfl rfl (z := 1) (by kernel_rfl) (by decide)
theorem fa_144_1 : FieldAt Try.prog 144 1 1 := fieldAt_of Try.underlying144 rfl rfl (z := 1) (by kernel_rfl) (by decide)
theorem fa_144_2 : FieldAt Try.prog 144 2 2 := fieldAt_of Try.underlying144 rfl rfl (z := 1) (by kernel_rfl) (by decide)
theorem fa_144_3 : FieldAt Try.prog 144 3 3 := fieldAt_of Try.underlying144 rfl rfl (z := 1) (by kernel_rfl) (by decide)
theorem fa_154_0 : FieldAt Try.prog 154 0 0 := fieldAt_of Try.underlying154 rfl rfl (z := 1) (by kernel_rfl) (by decide)
theorem fa_154_1 : FieldAt Try.prog 154 1 1 := fieldAt_of Try.underlying154 rfl rfl (z := 1) (by kernel_rfl) (by decide)
theorem fa_154_10 : FieldAt Try.prog 154 10 10 := fieldAt_of Try.underlying154 rfl rfl (z := 1) (by kernel_rfl) (by decide)
theorem fa_154_2 : FieldAt Try.prog 154 2 2 := fieldAt_of Try.underlying154 rfl rfl (z := 1) (by kernel_rfl) (by decide)
theorem fa_154_3 : FieldAt Try.prog 154 3 3 := fieldAt_of Try.underlying154 rfl rfl (z := 1) (by kernel_rfl) (by decide)
theorem fa_154_4 : FieldAt Try.prog 154 4 4 := fieldAt_of Try.underlying154 rfl rfl (z := 1) (by kernel_rfl) (by decide)
theorem fa_154_5 : FieldAt Try.prog 154 5 5 := fieldAt_of Try.underlying154 rfl rfl (z := 1) (by kernel_rfl) (by decide)
theorem fa_154_6 : FieldAt Try.prog 154 6 6 := fieldAt_of Try.underlying154 rfl rfl (z := 1) (by kernel_rfl) (by decide)
theorem fa_154_7 : FieldAt Try.prog 154 7 7 := fieldAt_of Try.underlying154 rfl rfl (z := 1) (by kernel_rfl) (by decide)
theorem fa_154_8 : FieldAt Try.prog 154 8 8 := fieldAt_of Try.underlying154 rfl rfl (z := 1) (by kernel_rfl) (by decide)
theorem fa_154_9 : FieldAt Try.prog 154 9 9 := fieldAt_of Try.underlying154 rfl rfl (z := 1) (by kernel_rfl) (by decide)
theorem fa_155_0 : FieldAt Try.prog 155 0 0 := fieldAt_of Try.underlying155 rfl rfl (z := 1) (by kernel_rfl) (by decide)
theorem fa_155_1 : FieldAt Try.prog 155 1 1 := fieldAt_of Try.underlying155 rfl rfl (z := 1) (by kernel_rfl) (by decide)
theorem fa_155_10 : FieldAt Try.prog 155 10 10 := fieldAt_of Try.underlying155 rfl rfl (z := 1) (by kernel_rfl) (by decide)
theorem fa_155_2 : FieldAt Try.prog 155 2 2 := fieldAt_of Try.underlying155 rfl rfl (z := 1) (by kernel_rfl) (by decide)
theorem fa_155_3 : FieldAt Try.prog 155 3 3 := fieldAt_of Try.underlying155 rfl rfl (z := 1) (by kernel_rfl) (by decide)
theorem fa_155_4 : FieldAt Try.prog 155 4 4 := fieldAt_of Try.underlying155 rfl rfl (z := 1) (by kernel_rfl) (by decide)
theorem fa_155_5 : FieldAt Try.prog 155 5 5 := fieldAt_of Try.underlying155 rfl rfl (z := 1) (by kernel_rfl) (by decide)
theorem fa_155_6 : FieldAt Try.prog 155 6 6 := fieldAt_of Try.underlying155 rfl rfl (z := 1) (by kernel_rfl) (by decide)
theorem fa_155_7 : FieldAt Try.prog 155 7 7 := fieldAt_of Try.underlying155 rfl rfl (z := 1) (by kernel_rfl) (by decide)
theorem fa_155_8 : FieldAt Try.prog 155 8 8 := fieldAt_of Try.underlying155 rfl rfl (z := 1) (by kernel_rfl) (by decide)
theorem fa_155_9 : FieldAt Try.prog 155 9 9 := fieldAt_of Try.underlying155 rfl rfl (z := 1) (by kernel_rfl) (by decide)
theorem fa_18_0 : FieldAt Try.prog 18 0 0 := fieldAt_of Try.underlying18 rfl rfl (z := 1) (by kernel_rfl) (by decide)
theorem fa_19_0 : FieldAt Try.prog 19 0 0 := fieldAt_of Try.underlying19 rfl rfl (z := 1) (by kernel_rfl) (by decide)
theorem fa_25_0 : FieldAt Try.prog 25 0 0 := fieldAt_of Try.underlying25 rfl rfl (z := 1) (by kernel_rfl) (by decide)
theorem fa_25_1 : FieldAt Try.prog 25 1 1 := fieldAt_of Try.underlying25 rfl rfl (z := 1) (by kernel_rfl) (by decide)
theorem fa_25_2 : FieldAt Try.prog 25 2 2 := fieldAt_of Try.underlying25 rfl rfl (z := 1) (by kernel_rfl) (by decide)
theorem fa_26_0 : FieldAt Try.prog 26 0 0 := fieldAt_of Try.underlying26 rfl rfl (z := 1) (by kernel_rfl) (by decide)
theorem fa_26_1 : FieldAt Try.prog 26 1 1 := fieldAt_of Try.underlying26 rfl rfl (z := 1) (by kernel_rfl) (by decide)
theorem fa_26_2 : FieldAt Try.prog 26 2 2 := fieldAt_of Try.underlying26 rfl rfl (z := 1) (by kernel_rfl) (by decide)
theorem fa_41_0 : FieldAt Try.prog 41 0 0 := fieldAt_of Try.underlying41 rfl rfl (z := 1) (by kernel_rfl) (by decide)
theorem fa_42_0 : FieldAt Try.prog 42 0 0 := fieldAt_of Try.underlying42 rfl rfl (z := 1) (by kernel_rfl) (by decide)
theorem fa_46_0 : FieldAt Try.prog 46 0 0 := fieldAt_of Try.underlying46 rfl rfl (z := 1) (by kernel_rfl) (by decide)
theorem fa_46_1 : FieldAt Try.prog 46 1 1 := fieldAt_of Try.underlying46 rfl rfl (z := 1) (by kernel_rfl) (by decide)
theorem fa_47_0 : FieldAt Try.prog 47 0 0 := fieldAt_of Try.underlying47 rfl rfl (z := 1) (by kernel_rfl) (by decide)
theorem fa_47_1 : FieldAt Try.prog 47 1 1 := fieldAt_of Try.underlying47 rfl rfl (z := 1) (by kernel_rfl) (by decide)
theorem fa_48_0 : FieldAt Try.prog 48 0 0 := fieldAt_of Try.underlying48 rfl rfl (z := 1) (by kernel_rfl) (by decide)
theorem fa_48_1 : FieldAt Try.prog 48 1 1 := fieldAt_of Try.underlying48 rfl rfl (z := 1) (by kernel_rfl) (by decide)
theorem fa_48_2 : FieldAt Try.prog 48 2 2 := fieldAt_of Try.underlying48 rfl rfl (z := 1) (by kernel_rfl) (by decide)
theorem fa_48_3 : FieldAt Try.prog 48 3 3 := fieldAt_of Try.underlying48 rfl rfl (z := 1) (by kernel_rfl) (by decide)
theorem fa_49_0 : FieldAt Try.prog 49 0 0 := fieldAt_of Try.underlying49 rfl rfl (z := 1) (by kernel_rfl) (by decide)
theorem fa_49_1 : FieldAt Try.prog 49 1 1 := fieldAt_of Try.underlying49 rfl rfl (z := 1) (by kernel_rfl) (by decide)
theorem fa_49_2 : FieldAt Try.prog 49 2 2 := fieldAt_of Try.underlying49 rfl rfl (z := 1) (by kernel_rfl) (by decide)
theorem fa_49_3 : FieldAt Try.prog 49 3 3 := fieldAt_of Try.underlying49 rfl rfl (z := 1) (by kernel_rfl) (by decide)
theorem fa_51_0 : FieldAt Try.prog 51 0 0 := fieldAt_of Try.underlying51 rfl rfl (z := 1) (by kernel_rfl) (by decide)
theorem fa_51_1 : FieldAt Try.prog 51 1 1 := fieldAt_of Try.underlying51 rfl rfl (z := 1) (by kernel_rfl) (by decide)
theorem fa_51_2 : FieldAt Try.prog 51 2 2 := fieldAt_of Try.underlying51 rfl rfl (z := 1) (by kernel_rfl) (by decide)
theorem fa_52_0 : FieldAt Try.prog 52 0 0 := fieldAt_of Try.underlying52 rfl rfl (z := 1) (by kernel_rfl) (by decide)
theorem fa_52_1 : FieldAt Try.prog 52 1 1 := fieldAt_of Try.underlying52 rfl rfl (z := 1) (by kernel_rfl) (by decide)
theorem fa_52_2 : FieldAt Try.prog 52 2 2 := fieldAt_of Try.underlying52 rfl rfl (z := 1) (by kernel_rfl) (by decide)
theorem fa_53_0 : FieldAt Try.prog 53 0 0 := fieldAt_of Try.underlying53 rfl rfl (z := 1) (by kernel_rfl) (by decide)
theorem fa_53_1 : FieldAt Try.prog 53 1 1 := fieldAt_of Try.underlying53 rfl rfl (z := 1) (by kernel_rfl) (by decide)
theorem fa_54_0 : FieldAt Try.prog 54 0 0 := fieldAt_of Try.underlying54 rfl rfl (z := 1) (by kernel_rfl) (by decide)
theorem fa_54_1 : FieldAt Try.prog 54 1 1 := fieldAt_of Try.underlying54 rfl rfl (z := 1) (by kernel_rfl) (by decide)
theorem fa_60_0 : FieldAt Try.prog 60 0 0 := fieldAt_of Try.underlying60 rfl rfl (z := 1) (by kernel_rfl) (by decide)
theorem fa_61_0 : FieldAt Try.prog 61 0 0 := fieldAt_of Try.underlying61 rfl rfl (z := 1) (by kernel_rfl) (by decide)
theorem fa_7_0 : FieldAt Try.prog 7 0 0 := fieldAt_of Try.underlying7 rfl rfl (z := 1) (by kernel_rfl) (by decide)
theorem fa_7_1 : FieldAt Try.prog 7 1 1 := fieldAt_of Try.underlying7 rfl rfl (z := 1) (by kernel_rfl) (by decide)
theorem fa_7_2 : FieldAt Try.prog 7 2 2 := fieldAt_of Try.underlying7 rfl rfl (z := 1) (by kernel_rfl) (by decide)
theorem fa_7_3 : FieldAt Try.prog 7 3 3 := fieldAt_of Try.underlying7 rfl rfl (z := 1) (by kernel_rfl) (by decide)
theorem fa_8_0 : FieldAt Try.prog 8 0 0 := fieldAt_of Try.underlying8 rfl rfl (z := 1) (by kernel_rfl) (by decide)
theorem fa_8_1 : FieldAt Try.prog 8 1 1 := fieldAt_of Try.underlying8 rfl rfl (z := 1) (by kernel_rfl) (by decide)
theorem fa_8_2 : FieldAt Try.prog 8 2 2 := fieldAt_of Try.underlying8 rfl rfl (z := 1) (by kernel_rfl) (by decide)
theorem fa_8_3 : FieldAt Try.prog 8 3 3 := fieldAt_of Try.underlying8 rfl rfl (z := 1) (by kernel_rfl) (by decide)
theorem fa_85_0 : FieldAt Try.prog 85 0 0 := fieldAt_of Try.underlying85 rfl rfl (z := 1) (by kernel_rfl) (by decide)
theorem fa_86_0 : FieldAt Try.prog 86 0 0 := fieldAt_of Try.underlying86 rfl rfl (z := 1) (by kernel_rfl) (by decide)
theorem inf_1 : (Try.prog.info? 1).map (fun i => (i.zero, i.size, i.bytes)) = some (some .nilFunc, 1, 8) := by kernel_rfl
theorem inf_10 : (Try.prog.info? 10).map (fun i => (i.zero, i.size, i.bytes)) = some (some (.string ⟨#[]⟩), 1, 16) := by kernel_rfl
theorem inf_100 : (Try.prog.info? 100).map (fun i => (i.zero, i.size, i.bytes)) = some (some .nilFunc, 1, 8) := by kernel_rfl
theorem inf_101 : (Try.prog.info? 101).map (fun i => (i.zero, i.size, i.bytes)) = some (some .nilFunc, 1, 8) := by kernel_rfl
theorem inf_103 : (Try.prog.info? 103).map (fun i => (i.zero, i.size, i.bytes)) = some (some .nilFunc, 1, 8) := by kernel_rfl
theorem inf_104 : (Try.prog.info? 104).map (fun i => (i.zero, i.size, i.bytes)) = some (some .nilFunc, 1, 8) := by kernel_rfl
theorem inf_105 : (Try.prog.info? 105).map (fun i => (i.zero, i.size, i.bytes)) = some (some (.agg #[(.string ⟨#[]⟩), (.string ⟨#[]⟩)]), 2, 32) := by kernel_rfl
theorem inf_106 : (Try.prog.info? 106).map (fun i => (i.zero, i.size, i.bytes)) = some (some (.agg #[(.string ⟨#[]⟩), (.string ⟨#[]⟩)]), 2, 32) := by kernel_rfl
theorem inf_108 : (Try.prog.info? 108).map (fun i => (i.zero, i.size, i.bytes)) = some (some .nilFunc, 1, 8) := by kernel_rfl
theorem inf_109 : (Try.prog.info? 109).map (fun i => (i.zero, i.size, i.bytes)) = some (some .nilFunc, 1, 8) := by kernel_rfl
theorem inf_11 : (Try.prog.info? 11).map (fun i => (i.zero, i.size, i.bytes)) = some (some (.string ⟨#[]⟩), 1, 16) := by kernel_rfl
theorem inf_110 : (Try.prog.info? 110).map (fun i => (i.zero, i.size, i.bytes)) = some (some .nilFunc, 1, 8) := by kernel_rfl
theorem inf_111 : (Try.prog.info? 111).map (fun i => (i.zero, i.size, i.bytes)) = some (some .nilFunc, 1, 8) := by kernel_rfl
theorem inf_112 : (Try.prog.info? 112).map (fun i => (i.zero, i.size, i.bytes)) = some (some .nilFunc, 1, 8) := by kernel_rfl
theorem inf_113 : (Try.prog.info? 113).map (fun i => (i.zero, i.size, i.bytes)) = some (some .nilFunc, 1, 8) := by kernel_rfl
theorem inf_114 : (Try.prog.info? 114).map (fun i => (i.zero, i.size, i.bytes)) = some (some .nilFunc, 1, 8) := by kernel_rfl
theorem inf_115 : (Try.prog.info? 115).map (fun i => (i.zero, i.size, i.bytes)) = some (some .nilFunc, 1, 8) := by kernel_rfl
theorem inf_116 : (Try.prog.info? 116).map (fun i => (i.zero, i.size, i.bytes)) = some (some (.agg #[(.string ⟨#[]⟩), (.string ⟨#[]⟩), (.string ⟨#[]⟩), (.string ⟨#[]⟩), (.string ⟨#[]⟩), (.string ⟨#[]⟩), (.string ⟨#[]⟩), (.string ⟨#[]⟩), (.string ⟨#[]⟩), (.string ⟨#[]⟩), (.string ⟨#[]⟩), (.string ⟨#[]⟩), (.string ⟨#[]⟩), (.string ⟨#[]⟩), (.string ⟨#[]⟩), (.string ⟨#[]⟩), (.string ⟨#[]⟩), (.string ⟨#[]⟩), (.string ⟨#[]⟩), (.string ⟨#[]⟩), (.string ⟨#[]⟩), (.string ⟨#[]⟩), (.string ⟨#[]⟩), (.string ⟨#[]⟩), (.string ⟨#[]⟩), (.string ⟨#[]⟩), (.string ⟨#[]⟩), (.string ⟨#[]⟩), (.string ⟨#[]⟩), (.string ⟨#[]⟩), (.string ⟨#[]⟩), (.string ⟨#[]⟩)]), 32, 512) := by kernel_rfl
theorem inf_117 : (Try.prog.info? 117).map (fun i => (i.zero, i.size, i.bytes)) = some (some .nilFunc, 1, 8) := by kernel_rfl
theorem inf_118 : (Try.prog.info? 118).map (fun i => (i.zero, i.size, i.bytes)) = some (some .nilFunc, 1, 8) := by kernel_rfl
theorem inf_119 : (Try.prog.info? 119).map (fun i => (i.zero, i.size, i.bytes)) = some (some .nilFunc, 1, 8) := by kernel_rfl
theorem inf_12 : (Try.prog.info? 12).map (fun i => (i.zero, i.size, i.bytes)) = some (some (.int .u64 0), 1, 8) := by kernel_rfl
theorem inf_120 : (Try.prog.info? 120).map (fun i => (i.zero, i.size, i.bytes)) = some (some .nilFunc, 1, 8) := by kernel_rfl
theorem inf_121 : (Try.prog.info? 121).map (fun i => (i.zero, i.size, i.bytes)) = some (some .nilFunc, 1, 8) := by kernel_rfl
theorem inf_122 : (Try.prog.info? 122).map (fun i => (i.zero, i.size, i.bytes)) = some (some (.int .i64 0), 1, 8) := by kernel_rfl
theorem inf_124 : (Try.prog.info? 124).map (fun i => (i.zero, i.size, i.bytes)) = some (some .nilFunc, 1, 8) := by kernel_rfl
theorem inf_125 : (Try.prog.info? 125).map (fun i => (i.zero, i.size, i.bytes)) = some (some .nilFunc, 1, 8) := by kernel_rfl
theorem inf_126 : (Try.prog.info? 126).map (fun i => (i.zero, i.size, i.bytes)) = some (some .nilFunc, 1, 8) := by kernel_rfl
theorem inf_127 : (Try.prog.info? 127).map (fun i => (i.zero, i.size, i.bytes)) = some (some .nilFunc, 1, 8) := by kernel_rfl
theorem inf_129 : (Try.prog.info? 129).map (fun i => (i.zero, i.size, i.bytes)) = some (some .nilFunc, 1, 8) := by kernel_rfl
theorem inf_13 : (Try.prog.info? 13).map (fun i => (i.zero, i.size, i.bytes)) = some (some (.agg #[(.string ⟨#[]⟩), (.int .u64 0)]), 2, 24) := by kernel_rfl
theorem inf_130 : (Try.prog.info? 130).map (fun i => (i.zero, i.size, i.bytes)) = some (some .nilFunc, 1, 8) := by kernel_rfl
theorem inf_131 : (Try.prog.info? 131).map (fun i => (i.zero, i.size, i.bytes)) = some (some (.int .u32 0), 1, 4) := by kernel_rfl
theorem inf_132 : (Try.prog.info? 132).map (fun i => (i.zero, i.size, i.bytes)) = some (some .nilFunc, 1, 8) := by kernel_rfl
theorem inf_133 : (Try.prog.info? 133).map (fun i => (i.zero, i.size, i.bytes)) = some (some (.int .u64 0), 1, 8) := by kernel_rfl
theorem inf_134 : (Try.prog.info? 134).map (fun i => (i.zero, i.size, i.bytes)) = some (some (.int .u64 0), 1, 8) := by kernel_rfl
theorem inf_135 : (Try.prog.info? 135).map (fun i => (i.zero, i.size, i.bytes)) = some (some .nilFunc, 1, 8) := by kernel_rfl
theorem inf_136 : (Try.prog.info? 136).map (fun i => (i.zero, i.size, i.bytes)) = some (some .nilFunc, 1, 8) := by kernel_rfl
theorem inf_137 : (Try.prog.info? 137).map (fun i => (i.zero, i.size, i.bytes)) = some (some .nilFunc, 1, 8) := by kernel_rfl
theorem inf_138 : (Try.prog.info? 138).map (fun i => (i.zero, i.size, i.bytes)) = some (some .nilFunc, 1, 8) := by kernel_rfl
theorem inf_139 : (Try.prog.info? 139).map (fun i => (i.zero, i.size, i.bytes)) = some (some (.pointer none), 1, 8) := by kernel_rfl
theorem inf_14 : (Try.prog.info? 14).map (fun i => (i.zero, i.size, i.bytes)) = some (some (.agg #[(.string ⟨#[]⟩), (.int .u64 0)]), 2, 24) := by kernel_rfl
theorem inf_141 : (Try.prog.info? 141).map (fun i => (i.zero, i.size, i.bytes)) = some (some .nilFunc, 1, 8) := by kernel_rfl
theorem inf_142 : (Try.prog.info? 142).map (fun i => (i.zero, i.size, i.bytes)) = some (some .nilFunc, 1, 8) := by kernel_rfl
theorem inf_143 : (Try.prog.info? 143).map (fun i => (i.zero, i.size, i.bytes)) = some (some (.agg #[(.pointer none), (.pointer none), (.pointer none), (.string ⟨#[]⟩)]), 4, 40) := by kernel_rfl
theorem inf_144 : (Try.prog.info? 144).map (fun i => (i.zero, i.size, i.bytes)) = some (some (.agg #[(.pointer none), (.pointer none), (.pointer none), (.string ⟨#[]⟩)]), 4, 40) := by kernel_rfl
theorem inf_148 : (Try.prog.info? 148).map (fun i => (i.zero, i.size, i.bytes)) = some (some (.int .u8 0), 1, 1) := by kernel_rfl
theorem inf_149 : (Try.prog.info? 149).map (fun i => (i.zero, i.size, i.bytes)) = some (some (.int .u8 0), 1, 1) := by kernel_rfl
theorem inf_15 : (Try.prog.info? 15).map (fun i => (i.zero, i.size, i.bytes)) = some (some (.pointer none), 1, 8) := by kernel_rfl
theorem inf_150 : (Try.prog.info? 150).map (fun i => (i.zero, i.size, i.bytes)) = some (some .nilFunc, 1, 8) := by kernel_rfl
theorem inf_151 : (Try.prog.info? 151).map (fun i => (i.zero, i.size, i.bytes)) = some (some (.pointer none), 1, 8) := by kernel_rfl
theorem inf_152 : (Try.prog.info? 152).map (fun i => (i.zero, i.size, i.bytes)) = some (some (.int .i32 0), 1, 4) := by kernel_rfl
theorem inf_153 : (Try.prog.info? 153).map (fun i => (i.zero, i.size, i.bytes)) = some (some (.int .i32 0), 1, 4) := by kernel_rfl
theorem inf_154 : (Try.prog.info? 154).map (fun i => (i.zero, i.size, i.bytes)) = some (some (.agg #[(.int .u64 0), (.int .u64 0), (.int .u32 0), (.int .u8 0), (.int .u8 0), (.int .u8 0), (.int .u8 0), .nilFunc, (.pointer none), (.int .i32 0), (.int .i32 0)]), 11, 48) := by kernel_rfl
theorem inf_155 : (Try.prog.info? 155).map (fun i => (i.zero, i.size, i.bytes)) = some (some (.agg #[(.int .u64 0), (.int .u64 0), (.int .u32 0), (.int .u8 0), (.int .u8 0), (.int .u8 0), (.int .u8 0), .nilFunc, (.pointer none), (.int .i32 0), (.int .i32 0)]), 11, 48) := by kernel_rfl
theorem inf_16 : (Try.prog.info? 16).map (fun i => (i.zero, i.size, i.bytes)) = some (some (.pointer none), 1, 8) := by kernel_rfl
theorem inf_17 : (Try.prog.info? 17).map (fun i => (i.zero, i.size, i.bytes)) = some (some (.pointer none), 1, 8) := by kernel_rfl
theorem inf_18 : (Try.prog.info? 18).map (fun i => (i.zero, i.size, i.bytes)) = some (some (.agg #[(.pointer none)]), 1, 8) := by kernel_rfl
theorem inf_19 : (Try.prog.info? 19).map (fun i => (i.zero, i.size, i.bytes)) = some (some (.agg #[(.pointer none)]), 1, 8) := by kernel_rfl
theorem inf_2 : (Try.prog.info? 2).map (fun i => (i.zero, i.size, i.bytes)) = some (some (.int .i64 0), 1, 8) := by kernel_rfl
theorem inf_21 : (Try.prog.info? 21).map (fun i => (i.zero, i.size, i.bytes)) = some (some (.int .i32 0), 1, 4) := by kernel_rfl
theorem inf_22 : (Try.prog.info? 22).map (fun i => (i.zero, i.size, i.bytes)) = some (some (.slice none 0 0), 1, 24) := by kernel_rfl
theorem inf_23 : (Try.prog.info? 23).map (fun i => (i.zero, i.size, i.bytes)) = some (some (.slice none 0 0), 1, 24) := by kernel_rfl
theorem inf_24 : (Try.prog.info? 24).map (fun i => (i.zero, i.size, i.bytes)) = some (some (.slice none 0 0), 1, 24) := by kernel_rfl
theorem inf_25 : (Try.prog.info? 25).map (fun i => (i.zero, i.size, i.bytes)) = some (some (.agg #[(.slice none 0 0), (.slice none 0 0), (.slice none 0 0)]), 3, 72) := by kernel_rfl
theorem inf_26 : (Try.prog.info? 26).map (fun i => (i.zero, i.size, i.bytes)) = some (some (.agg #[(.slice none 0 0), (.slice none 0 0), (.slice none 0 0)]), 3, 72) := by kernel_rfl
theorem inf_27 : (Try.prog.info? 27).map (fun i => (i.zero, i.size, i.bytes)) = some (some (.int .i64 0), 1, 8) := by kernel_rfl
theorem inf_29 : (Try.prog.info? 29).map (fun i => (i.zero, i.size, i.bytes)) = some (some .nilFunc, 1, 8) := by kernel_rfl
theorem inf_3 : (Try.prog.info? 3).map (fun i => (i.zero, i.size, i.bytes)) = some (some (.int .i64 0), 1, 8) := by kernel_rfl
theorem inf_30 : (Try.prog.info? 30).map (fun i => (i.zero, i.size, i.bytes)) = some (some .nilFunc, 1, 8) := by kernel_rfl
theorem inf_31 : (Try.prog.info? 31).map (fun i => (i.zero, i.size, i.bytes)) = some (some .nilFunc, 1, 8) := by kernel_rfl
theorem inf_33 : (Try.prog.info? 33).map (fun i => (i.zero, i.size, i.bytes)) = some (some .nilFunc, 1, 8) := by kernel_rfl
theorem inf_34 : (Try.prog.info? 34).map (fun i => (i.zero, i.size, i.bytes)) = some (some .nilFunc, 1, 8) := by kernel_rfl
theorem inf_35 : (Try.prog.info? 35).map (fun i => (i.zero, i.size, i.bytes)) = some (some .nilFunc, 1, 8) := by kernel_rfl
theorem inf_37 : (Try.prog.info? 37).map (fun i => (i.zero, i.size, i.bytes)) = some (some .nilFunc, 1, 8) := by kernel_rfl
theorem inf_38 : (Try.prog.info? 38).map (fun i => (i.zero, i.size, i.bytes)) = some (some .nilFunc, 1, 8) := by kernel_rfl
theorem inf_39 : (Try.prog.info? 39).map (fun i => (i.zero, i.size, i.bytes)) = some (some (.pointer none), 1, 8) := by kernel_rfl
theorem inf_4 : (Try.prog.info? 4).map (fun i => (i.zero, i.size, i.bytes)) = some (some (.bool false), 1, 1) := by kernel_rfl
theorem inf_40 : (Try.prog.info? 40).map (fun i => (i.zero, i.size, i.bytes)) = some (some (.slice none 0 0), 1, 24) := by kernel_rfl
theorem inf_41 : (Try.prog.info? 41).map (fun i => (i.zero, i.size, i.bytes)) = some (some (.agg #[(.slice none 0 0)]), 1, 24) := by kernel_rfl
theorem inf_42 : (Try.prog.info? 42).map (fun i => (i.zero, i.size, i.bytes)) = some (some (.agg #[(.slice none 0 0)]), 1, 24) := by kernel_rfl
theorem inf_43 : (Try.prog.info? 43).map (fun i => (i.zero, i.size, i.bytes)) = some (some .nilFunc, 1, 8) := by kernel_rfl
theorem inf_44 : (Try.prog.info? 44).map (fun i => (i.zero, i.size, i.bytes)) = some (some (.slice none 0 0), 1, 24) := by kernel_rfl
theorem inf_45 : (Try.prog.info? 45).map (fun i => (i.zero, i.size, i.bytes)) = some (some (.slice none 0 0), 1, 24) := by kernel_rfl
theorem inf_46 : (Try.prog.info? 46).map (fun i => (i.zero, i.size, i.bytes)) = some (some (.agg #[(.slice none 0 0), (.slice none 0 0)]), 2, 48) := by kernel_rfl
theorem inf_47 : (Try.prog.info? 47).map (fun i => (i.zero, i.size, i.bytes)) = some (some (.agg #[(.slice none 0 0), (.slice none 0 0)]), 2, 48) := by kernel_rfl
theorem inf_48 : (Try.prog.info? 48).map (fun i => (i.zero, i.size, i.bytes)) = some (some (.agg #[(.int .i64 0), (.int .i64 0), (.int .i64 0), (.int .i64 0)]), 4, 32) := by kernel_rfl
theorem inf_49 : (Try.prog.info? 49).map (fun i => (i.zero, i.size, i.bytes)) = some (some (.agg #[(.int .i64 0), (.int .i64 0), (.int .i64 0), (.int .i64 0)]), 4, 32) := by kernel_rfl
theorem inf_5 : (Try.prog.info? 5).map (fun i => (i.zero, i.size, i.bytes)) = some (some (.int .u8 0), 1, 1) := by kernel_rfl
theorem inf_50 : (Try.prog.info? 50).map (fun i => (i.zero, i.size, i.bytes)) = some (some .nilFunc, 1, 8) := by kernel_rfl
theorem inf_51 : (Try.prog.info? 51).map (fun i => (i.zero, i.size, i.bytes)) = some (some (.agg #[(.int .i64 0), (.int .i64 0), (.int .i64 0)]), 3, 24) := by kernel_rfl
theorem inf_52 : (Try.prog.info? 52).map (fun i => (i.zero, i.size, i.bytes)) = some (some (.agg #[(.int .i64 0), (.int .i64 0), (.int .i64 0)]), 3, 24) := by kernel_rfl
theorem inf_53 : (Try.prog.info? 53).map (fun i => (i.zero, i.size, i.bytes)) = some (some (.agg #[(.int .i64 0), (.int .i64 0)]), 2, 16) := by kernel_rfl
theorem inf_54 : (Try.prog.info? 54).map (fun i => (i.zero, i.size, i.bytes)) = some (some (.agg #[(.int .i64 0), (.int .i64 0)]), 2, 16) := by kernel_rfl
theorem inf_55 : (Try.prog.info? 55).map (fun i => (i.zero, i.size, i.bytes)) = some (some .nilFunc, 1, 8) := by kernel_rfl
theorem inf_56 : (Try.prog.info? 56).map (fun i => (i.zero, i.size, i.bytes)) = some (some .nilFunc, 1, 8) := by kernel_rfl
theorem inf_57 : (Try.prog.info? 57).map (fun i => (i.zero, i.size, i.bytes)) = some (some .nilFunc, 1, 8) := by kernel_rfl
theorem inf_58 : (Try.prog.info? 58).map (fun i => (i.zero, i.size, i.bytes)) = some (some .nilFunc, 1, 8) := by kernel_rfl
theorem inf_59 : (Try.prog.info? 59).map (fun i => (i.zero, i.size, i.bytes)) = some (some (.pointer none), 1, 8) := by kernel_rfl
theorem inf_6 : (Try.prog.info? 6).map (fun i => (i.zero, i.size, i.bytes)) = some (some (.int .u8 0), 1, 1) := by kernel_rfl
theorem inf_60 : (Try.prog.info? 60).map (fun i => (i.zero, i.size, i.bytes)) = some (some (.agg #[(.string ⟨#[]⟩)]), 1, 16) := by kernel_rfl
theorem inf_61 : (Try.prog.info? 61).map (fun i => (i.zero, i.size, i.bytes)) = some (some (.agg #[(.string ⟨#[]⟩)]), 1, 16) := by kernel_rfl
theorem inf_62 : (Try.prog.info? 62).map (fun i => (i.zero, i.size, i.bytes)) = some (some .nilFunc, 1, 8) := by kernel_rfl
theorem inf_63 : (Try.prog.info? 63).map (fun i => (i.zero, i.size, i.bytes)) = some (some (.pointer none), 1, 8) := by kernel_rfl
theorem inf_64 : (Try.prog.info? 64).map (fun i => (i.zero, i.size, i.bytes)) = some (some .nilFunc, 1, 8) := by kernel_rfl
theorem inf_65 : (Try.prog.info? 65).map (fun i => (i.zero, i.size, i.bytes)) = some (some (.pointer none), 1, 8) := by kernel_rfl
theorem inf_66 : (Try.prog.info? 66).map (fun i => (i.zero, i.size, i.bytes)) = some (some .nilFunc, 1, 8) := by kernel_rfl
theorem inf_67 : (Try.prog.info? 67).map (fun i => (i.zero, i.size, i.bytes)) = some (some (.pointer none), 1, 8) := by kernel_rfl
theorem inf_68 : (Try.prog.info? 68).map (fun i => (i.zero, i.size, i.bytes)) = some (some .nilFunc, 1, 8) := by kernel_rfl
theorem inf_69 : (Try.prog.info? 69).map (fun i => (i.zero, i.size, i.bytes)) = some (some .nilFunc, 1, 8) := by kernel_rfl
theorem inf_7 : (Try.prog.info? 7).map (fun i => (i.zero, i.size, i.bytes)) = some (some (.agg #[(.int .i64 0), (.int .i64 0), (.bool false), (.int .u8 0)]), 4, 24) := by kernel_rfl
theorem inf_70 : (Try.prog.info? 70).map (fun i => (i.zero, i.size, i.bytes)) = some (some .nilFunc, 1, 8) := by kernel_rfl
theorem inf_71 : (Try.prog.info? 71).map (fun i => (i.zero, i.size, i.bytes)) = some (some .nilFunc, 1, 8) := by kernel_rfl
theorem inf_72 : (Try.prog.info? 72).map (fun i => (i.zero, i.size, i.bytes)) = some (some .nilFunc, 1, 8) := by kernel_rfl
theorem inf_73 : (Try.prog.info? 73).map (fun i => (i.zero, i.size, i.bytes)) = some (some .nilFunc, 1, 8) := by kernel_rfl
theorem inf_74 : (Try.prog.info? 74).map (fun i => (i.zero, i.size, i.bytes)) = some (some (.pointer none), 1, 8) := by kernel_rfl
theorem inf_75 : (Try.prog.info? 75).map (fun i => (i.zero, i.size, i.bytes)) = some (some .nilFunc, 1, 8) := by kernel_rfl
theorem inf_76 : (Try.prog.info? 76).map (fun i => (i.zero, i.size, i.bytes)) = some (some .nilFunc, 1, 8) := by kernel_rfl
theorem inf_77 : (Try.prog.info? 77).map (fun i => (i.zero, i.size, i.bytes)) = some (some (.pointer none), 1, 8) := by kernel_rfl
theorem inf_78 : (Try.prog.info? 78).map (fun i => (i.zero, i.size, i.bytes)) = some (some .nilFunc, 1, 8) := by kernel_rfl
theorem inf_8 : (Try.prog.info? 8).map (fun i => (i.zero, i.size, i.bytes)) = some (some (.agg #[(.int .i64 0), (.int .i64 0), (.bool false), (.int .u8 0)]), 4, 24) := by kernel_rfl
theorem inf_81 : (Try.prog.info? 81).map (fun i => (i.zero, i.size, i.bytes)) = some (some .nilFunc, 1, 8) := by kernel_rfl
theorem inf_82 : (Try.prog.info? 82).map (fun i => (i.zero, i.size, i.bytes)) = some (some .nilFunc, 1, 8) := by kernel_rfl
theorem inf_83 : (Try.prog.info? 83).map (fun i => (i.zero, i.size, i.bytes)) = some (some .nilFunc, 1, 8) := by kernel_rfl
theorem inf_84 : (Try.prog.info? 84).map (fun i => (i.zero, i.size, i.bytes)) = some (some (.pointer none), 1, 8) := by kernel_rfl
theorem inf_85 : (Try.prog.info? 85).map (fun i => (i.zero, i.size, i.bytes)) = some (some (.agg #[(.string ⟨#[]⟩)]), 1, 16) := by kernel_rfl
theorem inf_86 : (Try.prog.info? 86).map (fun i => (i.zero, i.size, i.bytes)) = some (some (.agg #[(.string ⟨#[]⟩)]), 1, 16) := by kernel_rfl
theorem inf_87 : (Try.prog.info? 87).map (fun i => (i.zero, i.size, i.bytes)) = some (some .nilFunc, 1, 8) := by kernel_rfl
theorem inf_88 : (Try.prog.info? 88).map (fun i => (i.zero, i.size, i.bytes)) = some (some .nilFunc, 1, 8) := by kernel_rfl
theorem inf_89 : (Try.prog.info? 89).map (fun i => (i.zero, i.size, i.bytes)) = some (some .nilFunc, 1, 8) := by kernel_rfl
theorem inf_9 : (Try.prog.info? 9).map (fun i => (i.zero, i.size, i.bytes)) = some (some (.string ⟨#[]⟩), 1, 16) := by kernel_rfl
theorem inf_90 : (Try.prog.info? 90).map (fun i => (i.zero, i.size, i.bytes)) = some (some .nilFunc, 1, 8) := by kernel_rfl
theorem inf_91 : (Try.prog.info? 91).map (fun i => (i.zero, i.size, i.bytes)) = some (some .nilFunc, 1, 8) := by kernel_rfl
theorem inf_92 : (Try.prog.info? 92).map (fun i => (i.zero, i.size, i.bytes)) = some (some .nilFunc, 1, 8) := by kernel_rfl
theorem inf_93 : (Try.prog.info? 93).map (fun i => (i.zero, i.size, i.bytes)) = some (some .nilFunc, 1, 8) := by kernel_rfl
theorem inf_95 : (Try.prog.info? 95).map (fun i => (i.zero, i.size, i.bytes)) = some (some .nilFunc, 1, 8) := by kernel_rfl
theorem inf_96 : (Try.prog.info? 96).map (fun i => (i.zero, i.size, i.bytes)) = some (some .nilFunc, 1, 8) := by kernel_rfl
theorem inf_97 : (Try.prog.info? 97).map (fun i => (i.zero, i.size, i.bytes)) = some (some .nilFunc, 1, 8) := by kernel_rfl
theorem inf_98 : (Try.prog.info? 98).map (fun i => (i.zero, i.size, i.bytes)) = some (some (.int .u64 0), 1, 8) := by kernel_rfl
theorem inf_99 : (Try.prog.info? 99).map (fun i => (i.zero, i.size, i.bytes)) = some (some (.slice none 0 0), 1, 24) := by kernel_rfl
theorem mixed_ok : Try.prog.follows .mixedOrders = true := by kernel_rfl
theorem sz_1 : (Try.prog.info? 1).map (·.size) = some 1 := by kernel_rfl
theorem sz_10 : (Try.prog.info? 10).map (·.size) = some 1 := by kernel_rfl
theorem sz_100 : (Try.prog.info? 100).map (·.size) = some 1 := by kernel_rfl
theorem sz_101 : (Try.prog.info? 101).map (·.size) = some 1 := by kernel_rfl
theorem sz_103 : (Try.prog.info? 103).map (·.size) = some 1 := by kernel_rfl
theorem sz_104 : (Try.prog.info? 104).map (·.size) = some 1 := by kernel_rfl
theorem sz_105 : (Try.prog.info? 105).map (·.size) = some 2 := by kernel_rfl
theorem sz_106 : (Try.prog.info? 106).map (·.size) = some 2 := by kernel_rfl
theorem sz_108 : (Try.prog.info? 108).map (·.size) = some 1 := by kernel_rfl
theorem sz_109 : (Try.prog.info? 109).map (·.size) = some 1 := by kernel_rfl
theorem sz_11 : (Try.prog.info? 11).map (·.size) = some 1 := by kernel_rfl
theorem sz_110 : (Try.prog.info? 110).map (·.size) = some 1 := by kernel_rfl
theorem sz_111 : (Try.prog.info? 111).map (·.size) = some 1 := by kernel_rfl
theorem sz_112 : (Try.prog.info? 112).map (·.size) = some 1 := by kernel_rfl
theorem sz_113 : (Try.prog.info? 113).map (·.size) = some 1 := by kernel_rfl
theorem sz_114 : (Try.prog.info? 114).map (·.size) = some 1 := by kernel_rfl
theorem sz_115 : (Try.prog.info? 115).map (·.size) = some 1 := by kernel_rfl
theorem sz_116 : (Try.prog.info? 116).map (·.size) = some 32 := by kernel_rfl
theorem sz_117 : (Try.prog.info? 117).map (·.size) = some 1 := by kernel_rfl
theorem sz_118 : (Try.prog.info? 118).map (·.size) = some 1 := by kernel_rfl
theorem sz_119 : (Try.prog.info? 119).map (·.size) = some 1 := by kernel_rfl
theorem sz_12 : (Try.prog.info? 12).map (·.size) = some 1 := by kernel_rfl
theorem sz_120 : (Try.prog.info? 120).map (·.size) = some 1 := by kernel_rfl
theorem sz_121 : (Try.prog.info? 121).map (·.size) = some 1 := by kernel_rfl
theorem sz_122 : (Try.prog.info? 122).map (·.size) = some 1 := by kernel_rfl
theorem sz_124 : (Try.prog.info? 124).map (·.size) = some 1 := by kernel_rfl
theorem sz_125 : (Try.prog.info? 125).map (·.size) = some 1 := by kernel_rfl
theorem sz_126 : (Try.prog.info? 126).map (·.size) = some 1 := by kernel_rfl
theorem sz_127 : (Try.prog.info? 127).map (·.size) = some 1 := by kernel_rfl
theorem sz_129 : (Try.prog.info? 129).map (·.size) = some 1 := by kernel_rfl
theorem sz_13 : (Try.prog.info? 13).map (·.size) = some 2 := by kernel_rfl
theorem sz_130 : (Try.prog.info? 130).map (·.size) = some 1 := by kernel_rfl
theorem sz_131 : (Try.prog.info? 131).map (·.size) = some 1 := by kernel_rfl
theorem sz_132 : (Try.prog.info? 132).map (·.size) = some 1 := by kernel_rfl
theorem sz_133 : (Try.prog.info? 133).map (·.size) = some 1 := by kernel_rfl
theorem sz_134 : (Try.prog.info? 134).map (·.size) = some 1 := by kernel_rfl
theorem sz_135 : (Try.prog.info? 135).map (·.size) = some 1 := by kernel_rfl
theorem sz_136 : (Try.prog.info? 136).map (·.size) = some 1 := by kernel_rfl
theorem sz_137 : (Try.prog.info? 137).map (·.size) = some 1 := by kernel_rfl
theorem sz_138 : (Try.prog.info? 138).map (·.size) = some 1 := by kernel_rfl
theorem sz_139 : (Try.prog.info? 139).map (·.size) = some 1 := by kernel_rfl
theorem sz_14 : (Try.prog.info? 14).map (·.size) = some 2 := by kernel_rfl
theorem sz_141 : (Try.prog.info? 141).map (·.size) = some 1 := by kernel_rfl
theorem sz_142 : (Try.prog.info? 142).map (·.size) = some 1 := by kernel_rfl
theorem sz_143 : (Try.prog.info? 143).map (·.size) = some 4 := by kernel_rfl
theorem sz_144 : (Try.prog.info? 144).map (·.size) = some 4 := by kernel_rfl
theorem sz_148 : (Try.prog.info? 148).map (·.size) = some 1 := by kernel_rfl
theorem sz_149 : (Try.prog.info? 149).map (·.size) = some 1 := by kernel_rfl
theorem sz_15 : (Try.prog.info? 15).map (·.size) = some 1 := by kernel_rfl
theorem sz_150 : (Try.prog.info? 150).map (·.size) = some 1 := by kernel_rfl
theorem sz_151 : (Try.prog.info? 151).map (·.size) = some 1 := by kernel_rfl
theorem sz_152 : (Try.prog.info? 152).map (·.size) = some 1 := by kernel_rfl
theorem sz_153 : (Try.prog.info? 153).map (·.size) = some 1 := by kernel_rfl
theorem sz_154 : (Try.prog.info? 154).map (·.size) = some 11 := by kernel_rfl
theorem sz_155 : (Try.prog.info? 155).map (·.size) = some 11 := by kernel_rfl
theorem sz_16 : (Try.prog.info? 16).map (·.size) = some 1 := by kernel_rfl
theorem sz_17 : (Try.prog.info? 17).map (·.size) = some 1 := by kernel_rfl
theorem sz_18 : (Try.prog.info? 18).map (·.size) = some 1 := by kernel_rfl
theorem sz_19 : (Try.prog.info? 19).map (·.size) = some 1 := by kernel_rfl
theorem sz_2 : (Try.prog.info? 2).map (·.size) = some 1 := by kernel_rfl
theorem sz_21 : (Try.prog.info? 21).map (·.size) = some 1 := by kernel_rfl
theorem sz_22 : (Try.prog.info? 22).map (·.size) = some 1 := by kernel_rfl
theorem sz_23 : (Try.prog.info? 23).map (·.size) = some 1 := by kernel_rfl
theorem sz_24 : (Try.prog.info? 24).map (·.size) = some 1 := by kernel_rfl
theorem sz_25 : (Try.prog.info? 25).map (·.size) = some 3 := by kernel_rfl
theorem sz_26 : (Try.prog.info? 26).map (·.size) = some 3 := by kernel_rfl
theorem sz_27 : (Try.prog.info? 27).map (·.size) = some 1 := by kernel_rfl
theorem sz_29 : (Try.prog.info? 29).map (·.size) = some 1 := by kernel_rfl
theorem sz_3 : (Try.prog.info? 3).map (·.size) = some 1 := by kernel_rfl
theorem sz_30 : (Try.prog.info? 30).map (·.size) = some 1 := by kernel_rfl
theorem sz_31 : (Try.prog.info? 31).map (·.size) = some 1 := by kernel_rfl
theorem sz_33 : (Try.prog.info? 33).map (·.size) = some 1 := by kernel_rfl
theorem sz_34 : (Try.prog.info? 34).map (·.size) = some 1 := by kernel_rfl
theorem sz_35 : (Try.prog.info? 35).map (·.size) = some 1 := by kernel_rfl
theorem sz_37 : (Try.prog.info? 37).map (·.size) = some 1 := by kernel_rfl
theorem sz_38 : (Try.prog.info? 38).map (·.size) = some 1 := by kernel_rfl
theorem sz_39 : (Try.prog.info? 39).map (·.size) = some 1 := by kernel_rfl
theorem sz_4 : (Try.prog.info? 4).map (·.size) = some 1 := by kernel_rfl
theorem sz_40 : (Try.prog.info? 40).map (·.size) = some 1 := by kernel_rfl
theorem sz_41 : (Try.prog.info? 41).map (·.size) = some 1 := by kernel_rfl
theorem sz_42 : (Try.prog.info? 42).map (·.size) = some 1 := by kernel_rfl
theorem sz_43 : (Try.prog.info? 43).map (·.size) = some 1 := by kernel_rfl
theorem sz_44 : (Try.prog.info? 44).map (·.size) = some 1 := by kernel_rfl
theorem sz_45 : (Try.prog.info? 45).map (·.size) = some 1 := by kernel_rfl
theorem sz_46 : (Try.prog.info? 46).map (·.size) = some 2 := by kernel_rfl
theorem sz_47 : (Try.prog.info? 47).map (·.size) = some 2 := by kernel_rfl
theorem sz_48 : (Try.prog.info? 48).map (·.size) = some 4 := by kernel_rfl
theorem sz_49 : (Try.prog.info? 49).map (·.size) = some 4 := by kernel_rfl
theorem sz_5 : (Try.prog.info? 5).map (·.size) = some 1 := by kernel_rfl
theorem sz_50 : (Try.prog.info? 50).map (·.size) = some 1 := by kernel_rfl
theorem sz_51 : (Try.prog.info? 51).map (·.size) = some 3 := by kernel_rfl
theorem sz_52 : (Try.prog.info? 52).map (·.size) = some 3 := by kernel_rfl
theorem sz_53 : (Try.prog.info? 53).map (·.size) = some 2 := by kernel_rfl
theorem sz_54 : (Try.prog.info? 54).map (·.size) = some 2 := by kernel_rfl
theorem sz_55 : (Try.prog.info? 55).map (·.size) = some 1 := by kernel_rfl
theorem sz_56 : (Try.prog.info? 56).map (·.size) = some 1 := by kernel_rfl
theorem sz_57 : (Try.prog.info? 57).map (·.size) = some 1 := by kernel_rfl
theorem sz_58 : (Try.prog.info? 58).map (·.size) = some 1 := by kernel_rfl
theorem sz_59 : (Try.prog.info? 59).map (·.size) = some 1 := by kernel_rfl
theorem sz_6 : (Try.prog.info? 6).map (·.size) = some 1 := by kernel_rfl
theorem sz_60 : (Try.prog.info? 60).map (·.size) = some 1 := by kernel_rfl
theorem sz_61 : (Try.prog.info? 61).map (·.size) = some 1 := by kernel_rfl
theorem sz_62 : (Try.prog.info? 62).map (·.size) = some 1 := by kernel_rfl
theorem sz_63 : (Try.prog.info? 63).map (·.size) = some 1 := by kernel_rfl
theorem sz_64 : (Try.prog.info? 64).map (·.size) = some 1 := by kernel_rfl
theorem sz_65 : (Try.prog.info? 65).map (·.size) = some 1 := by kernel_rfl
theorem sz_66 : (Try.prog.info? 66).map (·.size) = some 1 := by kernel_rfl
theorem sz_67 : (Try.prog.info? 67).map (·.size) = some 1 := by kernel_rfl
theorem sz_68 : (Try.prog.info? 68).map (·.size) = some 1 := by kernel_rfl
theorem sz_69 : (Try.prog.info? 69).map (·.size) = some 1 := by kernel_rfl
theorem sz_7 : (Try.prog.info? 7).map (·.size) = some 4 := by kernel_rfl
theorem sz_70 : (Try.prog.info? 70).map (·.size) = some 1 := by kernel_rfl
theorem sz_71 : (Try.prog.info? 71).map (·.size) = some 1 := by kernel_rfl
theorem sz_72 : (Try.prog.info? 72).map (·.size) = some 1 := by kernel_rfl
theorem sz_73 : (Try.prog.info? 73).map (·.size) = some 1 := by kernel_rfl
theorem sz_74 : (Try.prog.info? 74).map (·.size) = some 1 := by kernel_rfl
theorem sz_75 : (Try.prog.info? 75).map (·.size) = some 1 := by kernel_rfl
theorem sz_76 : (Try.prog.info? 76).map (·.size) = some 1 := by kernel_rfl
theorem sz_77 : (Try.prog.info? 77).map (·.size) = some 1 := by kernel_rfl
theorem sz_78 : (Try.prog.info? 78).map (·.size) = some 1 := by kernel_rfl
theorem sz_8 : (Try.prog.info? 8).map (·.size) = some 4 := by kernel_rfl
theorem sz_81 : (Try.prog.info? 81).map (·.size) = some 1 := by kernel_rfl
theorem sz_82 : (Try.prog.info? 82).map (·.size) = some 1 := by kernel_rfl
theorem sz_83 : (Try.prog.info? 83).map (·.size) = some 1 := by kernel_rfl
theorem sz_84 : (Try.prog.info? 84).map (·.size) = some 1 := by kernel_rfl
theorem sz_85 : (Try.prog.info? 85).map (·.size) = some 1 := by kernel_rfl
theorem sz_86 : (Try.prog.info? 86).map (·.size) = some 1 := by kernel_rfl
theorem sz_87 : (Try.prog.info? 87).map (·.size) = some 1 := by kernel_rfl
theorem sz_88 : (Try.prog.info? 88).map (·.size) = some 1 := by kernel_rfl
theorem sz_89 : (Try.prog.info? 89).map (·.size) = some 1 := by kernel_rfl
theorem sz_9 : (Try.prog.info? 9).map (·.size) = some 1 := by kernel_rfl
theorem sz_90 : (Try.prog.info? 90).map (·.size) = some 1 := by kernel_rfl
theorem sz_91 : (Try.prog.info? 91).map (·.size) = some 1 := by kernel_rfl
theorem sz_92 : (Try.prog.info? 92).map (·.size) = some 1 := by kernel_rfl
theorem sz_93 : (Try.prog.info? 93).map (·.size) = some 1 := by kernel_rfl
theorem sz_95 : (Try.prog.info? 95).map (·.size) = some 1 := by kernel_rfl
theorem sz_96 : (Try.prog.info? 96).map (·.size) = some 1 := by kernel_rfl
theorem sz_97 : (Try.prog.info? 97).map (·.size) = some 1 := by kernel_rfl
theorem sz_98 : (Try.prog.info? 98).map (·.size) = some 1 := by kernel_rfl
theorem sz_99 : (Try.prog.info? 99).map (·.size) = some 1 := by kernel_rfl
theorem ze_1 : (Try.prog.info? 1).map (·.zero) = some (some .nilFunc) := by kernel_rfl
theorem ze_10 : (Try.prog.info? 10).map (·.zero) = some (some (.string ⟨#[]⟩)) := by kernel_rfl
theorem ze_100 : (Try.prog.info? 100).map (·.zero) = some (some .nilFunc) := by kernel_rfl
theorem ze_101 : (Try.prog.info? 101).map (·.zero) = some (some .nilFunc) := by kernel_rfl
theorem ze_103 : (Try.prog.info? 103).map (·.zero) = some (some .nilFunc) := by kernel_rfl
theorem ze_104 : (Try.prog.info? 104).map (·.zero) = some (some .nilFunc) := by kernel_rfl
theorem ze_105 : (Try.prog.info? 105).map (·.zero) = some (some (.agg #[(.string ⟨#[]⟩), (.string ⟨#[]⟩)])) := by kernel_rfl
theorem ze_106 : (Try.prog.info? 106).map (·.zero) = some (some (.agg #[(.string ⟨#[]⟩), (.string ⟨#[]⟩)])) := by kernel_rfl
theorem ze_108 : (Try.prog.info? 108).map (·.zero) = some (some .nilFunc) := by kernel_rfl
theorem ze_109 : (Try.prog.info? 109).map (·.zero) = some (some .nilFunc) := by kernel_rfl
theorem ze_11 : (Try.prog.info? 11).map (·.zero) = some (some (.string ⟨#[]⟩)) := by kernel_rfl
theorem ze_110 : (Try.prog.info? 110).map (·.zero) = some (some .nilFunc) := by kernel_rfl
theorem ze_111 : (Try.prog.info? 111).map (·.zero) = some (some .nilFunc) := by kernel_rfl
theorem ze_112 : (Try.prog.info? 112).map (·.zero) = some (some .nilFunc) := by kernel_rfl
theorem ze_113 : (Try.prog.info? 113).map (·.zero) = some (some .nilFunc) := by kernel_rfl
theorem ze_114 : (Try.prog.info? 114).map (·.zero) = some (some .nilFunc) := by kernel_rfl
theorem ze_115 : (Try.prog.info? 115).map (·.zero) = some (some .nilFunc) := by kernel_rfl
theorem ze_116 : (Try.prog.info? 116).map (·.zero) = some (some (.agg #[(.string ⟨#[]⟩), (.string ⟨#[]⟩), (.string ⟨#[]⟩), (.string ⟨#[]⟩), (.string ⟨#[]⟩), (.string ⟨#[]⟩), (.string ⟨#[]⟩), (.string ⟨#[]⟩), (.string ⟨#[]⟩), (.string ⟨#[]⟩), (.string ⟨#[]⟩), (.string ⟨#[]⟩), (.string ⟨#[]⟩), (.string ⟨#[]⟩), (.string ⟨#[]⟩), (.string ⟨#[]⟩), (.string ⟨#[]⟩), (.string ⟨#[]⟩), (.string ⟨#[]⟩), (.string ⟨#[]⟩), (.string ⟨#[]⟩), (.string ⟨#[]⟩), (.string ⟨#[]⟩), (.string ⟨#[]⟩), (.string ⟨#[]⟩), (.string ⟨#[]⟩), (.string ⟨#[]⟩), (.string ⟨#[]⟩), (.string ⟨#[]⟩), (.string ⟨#[]⟩), (.string ⟨#[]⟩), (.string ⟨#[]⟩)])) := by kernel_rfl
theorem ze_117 : (Try.prog.info? 117).map (·.zero) = some (some .nilFunc) := by kernel_rfl
theorem ze_118 : (Try.prog.info? 118).map (·.zero) = some (some .nilFunc) := by kernel_rfl
theorem ze_119 : (Try.prog.info? 119).map (·.zero) = some (some .nilFunc) := by kernel_rfl
theorem ze_12 : (Try.prog.info? 12).map (·.zero) = some (some (.int .u64 0)) := by kernel_rfl
theorem ze_120 : (Try.prog.info? 120).map (·.zero) = some (some .nilFunc) := by kernel_rfl
theorem ze_121 : (Try.prog.info? 121).map (·.zero) = some (some .nilFunc) := by kernel_rfl
theorem ze_122 : (Try.prog.info? 122).map (·.zero) = some (some (.int .i64 0)) := by kernel_rfl
theorem ze_124 : (Try.prog.info? 124).map (·.zero) = some (some .nilFunc) := by kernel_rfl
theorem ze_125 : (Try.prog.info? 125).map (·.zero) = some (some .nilFunc) := by kernel_rfl
theorem ze_126 : (Try.prog.info? 126).map (·.zero) = some (some .nilFunc) := by kernel_rfl
theorem ze_127 : (Try.prog.info? 127).map (·.zero) = some (some .nilFunc) := by kernel_rfl
theorem ze_129 : (Try.prog.info? 129).map (·.zero) = some (some .nilFunc) := by kernel_rfl
theorem ze_13 : (Try.prog.info? 13).map (·.zero) = some (some (.agg #[(.string ⟨#[]⟩), (.int .u64 0)])) := by kernel_rfl
theorem ze_130 : (Try.prog.info? 130).map (·.zero) = some (some .nilFunc) := by kernel_rfl
theorem ze_131 : (Try.prog.info? 131).map (·.zero) = some (some (.int .u32 0)) := by kernel_rfl
theorem ze_132 : (Try.prog.info? 132).map (·.zero) = some (some .nilFunc) := by kernel_rfl
theorem ze_133 : (Try.prog.info? 133).map (·.zero) = some (some (.int .u64 0)) := by kernel_rfl
theorem ze_134 : (Try.prog.info? 134).map (·.zero) = some (some (.int .u64 0)) := by kernel_rfl
theorem ze_135 : (Try.prog.info? 135).map (·.zero) = some (some .nilFunc) := by kernel_rfl
theorem ze_136 : (Try.prog.info? 136).map (·.zero) = some (some .nilFunc) := by kernel_rfl
theorem ze_137 : (Try.prog.info? 137).map (·.zero) = some (some .nilFunc) := by kernel_rfl
theorem ze_138 : (Try.prog.info? 138).map (·.zero) = some (some .nilFunc) := by kernel_rfl
theorem ze_139 : (Try.prog.info? 139).map (·.zero) = some (some (.pointer none)) := by kernel_rfl
theorem ze_14 : (Try.prog.info? 14).map (·.zero) = some (some (.agg #[(.string ⟨#[]⟩), (.int .u64 0)])) := by kernel_rfl
theorem ze_141 : (Try.prog.info? 141).map (·.zero) = some (some .nilFunc) := by kernel_rfl
theorem ze_142 : (Try.prog.info? 142).map (·.zero) = some (some .nilFunc) := by kernel_rfl
theorem ze_143 : (Try.prog.info? 143).map (·.zero) = some (some (.agg #[(.pointer none), (.pointer none), (.pointer none), (.string ⟨#[]⟩)])) := by kernel_rfl
theorem ze_144 : (Try.prog.info? 144).map (·.zero) = some (some (.agg #[(.pointer none), (.pointer none), (.pointer none), (.string ⟨#[]⟩)])) := by kernel_rfl
theorem ze_148 : (Try.prog.info? 148).map (·.zero) = some (some (.int .u8 0)) := by kernel_rfl
theorem ze_149 : (Try.prog.info? 149).map (·.zero) = some (some (.int .u8 0)) := by kernel_rfl
theorem ze_15 : (Try.prog.info? 15).map (·.zero) = some (some (.pointer none)) := by kernel_rfl
theorem ze_150 : (Try.prog.info? 150).map (·.zero) = some (some .nilFunc) := by kernel_rfl
theorem ze_151 : (Try.prog.info? 151).map (·.zero) = some (some (.pointer none)) := by kernel_rfl
theorem ze_152 : (Try.prog.info? 152).map (·.zero) = some (some (.int .i32 0)) := by kernel_rfl
theorem ze_153 : (Try.prog.info? 153).map (·.zero) = some (some (.int .i32 0)) := by kernel_rfl
theorem ze_154 : (Try.prog.info? 154).map (·.zero) = some (some (.agg #[(.int .u64 0), (.int .u64 0), (.int .u32 0), (.int .u8 0), (.int .u8 0), (.int .u8 0), (.int .u8 0), .nilFunc, (.pointer none), (.int .i32 0), (.int .i32 0)])) := by kernel_rfl
theorem ze_155 : (Try.prog.info? 155).map (·.zero) = some (some (.agg #[(.int .u64 0), (.int .u64 0), (.int .u32 0), (.int .u8 0), (.int .u8 0), (.int .u8 0), (.int .u8 0), .nilFunc, (.pointer none), (.int .i32 0), (.int .i32 0)])) := by kernel_rfl
theorem ze_16 : (Try.prog.info? 16).map (·.zero) = some (some (.pointer none)) := by kernel_rfl
theorem ze_17 : (Try.prog.info? 17).map (·.zero) = some (some (.pointer none)) := by kernel_rfl
theorem ze_18 : (Try.prog.info? 18).map (·.zero) = some (some (.agg #[(.pointer none)])) := by kernel_rfl
theorem ze_19 : (Try.prog.info? 19).map (·.zero) = some (some (.agg #[(.pointer none)])) := by kernel_rfl
theorem ze_2 : (Try.prog.info? 2).map (·.zero) = some (some (.int .i64 0)) := by kernel_rfl
theorem ze_21 : (Try.prog.info? 21).map (·.zero) = some (some (.int .i32 0)) := by kernel_rfl
theorem ze_22 : (Try.prog.info? 22).map (·.zero) = some (some (.slice none 0 0)) := by kernel_rfl
theorem ze_23 : (Try.prog.info? 23).map (·.zero) = some (some (.slice none 0 0)) := by kernel_rfl
theorem ze_24 : (Try.prog.info? 24).map (·.zero) = some (some (.slice none 0 0)) := by kernel_rfl
theorem ze_25 : (Try.prog.info? 25).map (·.zero) = some (some (.agg #[(.slice none 0 0), (.slice none 0 0), (.slice none 0 0)])) := by kernel_rfl
theorem ze_26 : (Try.prog.info? 26).map (·.zero) = some (some (.agg #[(.slice none 0 0), (.slice none 0 0), (.slice none 0 0)])) := by kernel_rfl
theorem ze_27 : (Try.prog.info? 27).map (·.zero) = some (some (.int .i64 0)) := by kernel_rfl
theorem ze_29 : (Try.prog.info? 29).map (·.zero) = some (some .nilFunc) := by kernel_rfl
theorem ze_3 : (Try.prog.info? 3).map (·.zero) = some (some (.int .i64 0)) := by kernel_rfl
theorem ze_30 : (Try.prog.info? 30).map (·.zero) = some (some .nilFunc) := by kernel_rfl
theorem ze_31 : (Try.prog.info? 31).map (·.zero) = some (some .nilFunc) := by kernel_rfl
theorem ze_33 : (Try.prog.info? 33).map (·.zero) = some (some .nilFunc) := by kernel_rfl
theorem ze_34 : (Try.prog.info? 34).map (·.zero) = some (some .nilFunc) := by kernel_rfl
theorem ze_35 : (Try.prog.info? 35).map (·.zero) = some (some .nilFunc) := by kernel_rfl
theorem ze_37 : (Try.prog.info? 37).map (·.zero) = some (some .nilFunc) := by kernel_rfl
theorem ze_38 : (Try.prog.info? 38).map (·.zero) = some (some .nilFunc) := by kernel_rfl
theorem ze_39 : (Try.prog.info? 39).map (·.zero) = some (some (.pointer none)) := by kernel_rfl
theorem ze_4 : (Try.prog.info? 4).map (·.zero) = some (some (.bool false)) := by kernel_rfl
theorem ze_40 : (Try.prog.info? 40).map (·.zero) = some (some (.slice none 0 0)) := by kernel_rfl
theorem ze_41 : (Try.prog.info? 41).map (·.zero) = some (some (.agg #[(.slice none 0 0)])) := by kernel_rfl
theorem ze_42 : (Try.prog.info? 42).map (·.zero) = some (some (.agg #[(.slice none 0 0)])) := by kernel_rfl
theorem ze_43 : (Try.prog.info? 43).map (·.zero) = some (some .nilFunc) := by kernel_rfl
theorem ze_44 : (Try.prog.info? 44).map (·.zero) = some (some (.slice none 0 0)) := by kernel_rfl
theorem ze_45 : (Try.prog.info? 45).map (·.zero) = some (some (.slice none 0 0)) := by kernel_rfl
theorem ze_46 : (Try.prog.info? 46).map (·.zero) = some (some (.agg #[(.slice none 0 0), (.slice none 0 0)])) := by kernel_rfl
theorem ze_47 : (Try.prog.info? 47).map (·.zero) = some (some (.agg #[(.slice none 0 0), (.slice none 0 0)])) := by kernel_rfl
theorem ze_48 : (Try.prog.info? 48).map (·.zero) = some (some (.agg #[(.int .i64 0), (.int .i64 0), (.int .i64 0), (.int .i64 0)])) := by kernel_rfl
theorem ze_49 : (Try.prog.info? 49).map (·.zero) = some (some (.agg #[(.int .i64 0), (.int .i64 0), (.int .i64 0), (.int .i64 0)])) := by kernel_rfl
theorem ze_5 : (Try.prog.info? 5).map (·.zero) = some (some (.int .u8 0)) := by kernel_rfl
theorem ze_50 : (Try.prog.info? 50).map (·.zero) = some (some .nilFunc) := by kernel_rfl
theorem ze_51 : (Try.prog.info? 51).map (·.zero) = some (some (.agg #[(.int .i64 0), (.int .i64 0), (.int .i64 0)])) := by kernel_rfl
theorem ze_52 : (Try.prog.info? 52).map (·.zero) = some (some (.agg #[(.int .i64 0), (.int .i64 0), (.int .i64 0)])) := by kernel_rfl
theorem ze_53 : (Try.prog.info? 53).map (·.zero) = some (some (.agg #[(.int .i64 0), (.int .i64 0)])) := by kernel_rfl
theorem ze_54 : (Try.prog.info? 54).map (·.zero) = some (some (.agg #[(.int .i64 0), (.int .i64 0)])) := by kernel_rfl
theorem ze_55 : (Try.prog.info? 55).map (·.zero) = some (some .nilFunc) := by kernel_rfl
theorem ze_56 : (Try.prog.info? 56).map (·.zero) = some (some .nilFunc) := by kernel_rfl
theorem ze_57 : (Try.prog.info? 57).map (·.zero) = some (some .nilFunc) := by kernel_rfl
theorem ze_58 : (Try.prog.info? 58).map (·.zero) = some (some .nilFunc) := by kernel_rfl
theorem ze_59 : (Try.prog.info? 59).map (·.zero) = some (some (.pointer none)) := by kernel_rfl
theorem ze_6 : (Try.prog.info? 6).map (·.zero) = some (some (.int .u8 0)) := by kernel_rfl
theorem ze_60 : (Try.prog.info? 60).map (·.zero) = some (some (.agg #[(.string ⟨#[]⟩)])) := by kernel_rfl
theorem ze_61 : (Try.prog.info? 61).map (·.zero) = some (some (.agg #[(.string ⟨#[]⟩)])) := by kernel_rfl
theorem ze_62 : (Try.prog.info? 62).map (·.zero) = some (some .nilFunc) := by kernel_rfl
theorem ze_63 : (Try.prog.info? 63).map (·.zero) = some (some (.pointer none)) := by kernel_rfl
theorem ze_64 : (Try.prog.info? 64).map (·.zero) = some (some .nilFunc) := by kernel_rfl
theorem ze_65 : (Try.prog.info? 65).map (·.zero) = some (some (.pointer none)) := by kernel_rfl
theorem ze_66 : (Try.prog.info? 66).map (·.zero) = some (some .nilFunc) := by kernel_rfl
theorem ze_67 : (Try.prog.info? 67).map (·.zero) = some (some (.pointer none)) := by kernel_rfl
theorem ze_68 : (Try.prog.info? 68).map (·.zero) = some (some .nilFunc) := by kernel_rfl
theorem ze_69 : (Try.prog.info? 69).map (·.zero) = some (some .nilFunc) := by kernel_rfl
theorem ze_7 : (Try.prog.info? 7).map (·.zero) = some (some (.agg #[(.int .i64 0), (.int .i64 0), (.bool false), (.int .u8 0)])) := by kernel_rfl
theorem ze_70 : (Try.prog.info? 70).map (·.zero) = some (some .nilFunc) := by kernel_rfl
theorem ze_71 : (Try.prog.info? 71).map (·.zero) = some (some .nilFunc) := by kernel_rfl
theorem ze_72 : (Try.prog.info? 72).map (·.zero) = some (some .nilFunc) := by kernel_rfl
theorem ze_73 : (Try.prog.info? 73).map (·.zero) = some (some .nilFunc) := by kernel_rfl
theorem ze_74 : (Try.prog.info? 74).map (·.zero) = some (some (.pointer none)) := by kernel_rfl
theorem ze_75 : (Try.prog.info? 75).map (·.zero) = some (some .nilFunc) := by kernel_rfl
theorem ze_76 : (Try.prog.info? 76).map (·.zero) = some (some .nilFunc) := by kernel_rfl
theorem ze_77 : (Try.prog.info? 77).map (·.zero) = some (some (.pointer none)) := by kernel_rfl
theorem ze_78 : (Try.prog.info? 78).map (·.zero) = some (some .nilFunc) := by kernel_rfl
theorem ze_8 : (Try.prog.info? 8).map (·.zero) = some (some (.agg #[(.int .i64 0), (.int .i64 0), (.bool false), (.int .u8 0)])) := by kernel_rfl
theorem ze_81 : (Try.prog.info? 81).map (·.zero) = some (some .nilFunc) := by kernel_rfl
theorem ze_82 : (Try.prog.info? 82).map (·.zero) = some (some .nilFunc) := by kernel_rfl
theorem ze_83 : (Try.prog.info? 83).map (·.zero) = some (some .nilFunc) := by kernel_rfl
theorem ze_84 : (Try.prog.info? 84).map (·.zero) = some (some (.pointer none)) := by kernel_rfl
theorem ze_85 : (Try.prog.info? 85).map (·.zero) = some (some (.agg #[(.string ⟨#[]⟩)])) := by kernel_rfl
theorem ze_86 : (Try.prog.info? 86).map (·.zero) = some (some (.agg #[(.string ⟨#[]⟩)])) := by kernel_rfl
theorem ze_87 : (Try.prog.info? 87).map (·.zero) = some (some .nilFunc) := by kernel_rfl
theorem ze_88 : (Try.prog.info? 88).map (·.zero) = some (some .nilFunc) := by kernel_rfl
theorem ze_89 : (Try.prog.info? 89).map (·.zero) = some (some .nilFunc) := by kernel_rfl
theorem ze_9 : (Try.prog.info? 9).map (·.zero) = some (some (.string ⟨#[]⟩)) := by kernel_rfl
theorem ze_90 : (Try.prog.info? 90).map (·.zero) = some (some .nilFunc) := by kernel_rfl
theorem ze_91 : (Try.prog.info? 91).map (·.zero) = some (some .nilFunc) := by kernel_rfl
theorem ze_92 : (Try.prog.info? 92).map (·.zero) = some (some .nilFunc) := by kernel_rfl
theorem ze_93 : (Try.prog.info? 93).map (·.zero) = some (some .nilFunc) := by kernel_rfl
theorem ze_95 : (Try.prog.info? 95).map (·.zero) = some (some .nilFunc) := by kernel_rfl
theorem ze_96 : (Try.prog.info? 96).map (·.zero) = some (some .nilFunc) := by kernel_rfl
theorem ze_97 : (Try.prog.info? 97).map (·.zero) = some (some .nilFunc) := by kernel_rfl
theorem ze_98 : (Try.prog.info? 98).map (·.zero) = some (some (.int .u64 0)) := by kernel_rfl
theorem ze_99 : (Try.prog.info? 99).map (·.zero) = some (some (.slice none 0 0)) := by kernel_rfl
theorem eqt_49 (a0 a1 a2 a3 b0 b1 b2 b3 : Int) (x y : Operand) (w : World) : (do eqGuard .eql 49 x y (.agg #[.int .i64 a0, .int .i64 a1, .int .i64 a2, .int .i64 a3]) (.agg #[.int .i64 b0, .int .i64 b1, .int .i64 b2, .int .i64 b3]); binOp .eql 49 (.agg #[.int .i64 a0, .int .i64 a1, .int .i64 a2, .int .i64 a3]) (.agg #[.int .i64 b0, .int .i64 b1, .int .i64 b2, .int .i64 b3]) : Sem Value).run Try.prog w = .ok (.bool (decide ((a0 = b0 ∧ a1 = b1 ∧ a2 = b2 ∧ a3 = b3)))) w := by
  have h := (eqS (P := Try.prog) (T := 49) (by kernel_rfl) (by kernel_rfl) (by kernel_rfl) (by kernel_rfl) [a0, a1, a2, a3] [b0, b1, b2, b3] (by kernel_rfl) (by kernel_rfl) x y w).1
  rwa [show (decide ([a0, a1, a2, a3] = [b0, b1, b2, b3])) = decide ((a0 = b0 ∧ a1 = b1 ∧ a2 = b2 ∧ a3 = b3)) by simp] at h
theorem net_49 (a0 a1 a2 a3 b0 b1 b2 b3 : Int) (x y : Operand) (w : World) : (do eqGuard .neq 49 x y (.agg #[.int .i64 a0, .int .i64 a1, .int .i64 a2, .int .i64 a3]) (.agg #[.int .i64 b0, .int .i64 b1, .int .i64 b2, .int .i64 b3]); binOp .neq 49 (.agg #[.int .i64 a0, .int .i64 a1, .int .i64 a2, .int .i64 a3]) (.agg #[.int .i64 b0, .int .i64 b1, .int .i64 b2, .int .i64 b3]) : Sem Value).run Try.prog w = .ok (.bool (decide (¬ (a0 = b0 ∧ a1 = b1 ∧ a2 = b2 ∧ a3 = b3)))) w := by
  have h := (eqS (P := Try.prog) (T := 49) (by kernel_rfl) (by kernel_rfl) (by kernel_rfl) (by kernel_rfl) [a0, a1, a2, a3] [b0, b1, b2, b3] (by kernel_rfl) (by kernel_rfl) x y w).2
  rwa [show (!(decide ([a0, a1, a2, a3] = [b0, b1, b2, b3]))) = decide (¬ (a0 = b0 ∧ a1 = b1 ∧ a2 = b2 ∧ a3 = b3)) by simp] at h
theorem eqt_52 (a0 a1 a2 b0 b1 b2 : Int) (x y : Operand) (w : World) : (do eqGuard .eql 52 x y (.agg #[.int .i64 a0, .int .i64 a1, .int .i64 a2]) (.agg #[.int .i64 b0, .int .i64 b1, .int .i64 b2]); binOp .eql 52 (.agg #[.int .i64 a0, .int .i64 a1, .int .i64 a2]) (.agg #[.int .i64 b0, .int .i64 b1, .int .i64 b2]) : Sem Value).run Try.prog w = .ok (.bool (decide ((a0 = b0 ∧ a1 = b1 ∧ a2 = b2)))) w := by
  have h := (eqS (P := Try.prog) (T := 52) (by kernel_rfl) (by kernel_rfl) (by kernel_rfl) (by kernel_rfl) [a0, a1, a2] [b0, b1, b2] (by kernel_rfl) (by kernel_rfl) x y w).1
  rwa [show (decide ([a0, a1, a2] = [b0, b1, b2])) = decide ((a0 = b0 ∧ a1 = b1 ∧ a2 = b2)) by simp] at h
theorem net_52 (a0 a1 a2 b0 b1 b2 : Int) (x y : Operand) (w : World) : (do eqGuard .neq 52 x y (.agg #[.int .i64 a0, .int .i64 a1, .int .i64 a2]) (.agg #[.int .i64 b0, .int .i64 b1, .int .i64 b2]); binOp .neq 52 (.agg #[.int .i64 a0, .int .i64 a1, .int .i64 a2]) (.agg #[.int .i64 b0, .int .i64 b1, .int .i64 b2]) : Sem Value).run Try.prog w = .ok (.bool (decide (¬ (a0 = b0 ∧ a1 = b1 ∧ a2 = b2)))) w := by
  have h := (eqS (P := Try.prog) (T := 52) (by kernel_rfl) (by kernel_rfl) (by kernel_rfl) (by kernel_rfl) [a0, a1, a2] [b0, b1, b2] (by kernel_rfl) (by kernel_rfl) x y w).2
  rwa [show (!(decide ([a0, a1, a2] = [b0, b1, b2]))) = decide (¬ (a0 = b0 ∧ a1 = b1 ∧ a2 = b2)) by simp] at h
theorem eqt_54 (a0 a1 b0 b1 : Int) (x y : Operand) (w : World) : (do eqGuard .eql 54 x y (.agg #[.int .i64 a0, .int .i64 a1]) (.agg #[.int .i64 b0, .int .i64 b1]); binOp .eql 54 (.agg #[.int .i64 a0, .int .i64 a1]) (.agg #[.int .i64 b0, .int .i64 b1]) : Sem Value).run Try.prog w = .ok (.bool (decide ((a0 = b0 ∧ a1 = b1)))) w := by
  have h := (eqS (P := Try.prog) (T := 54) (by kernel_rfl) (by kernel_rfl) (by kernel_rfl) (by kernel_rfl) [a0, a1] [b0, b1] (by kernel_rfl) (by kernel_rfl) x y w).1
  rwa [show (decide ([a0, a1] = [b0, b1])) = decide ((a0 = b0 ∧ a1 = b1)) by simp] at h
theorem net_54 (a0 a1 b0 b1 : Int) (x y : Operand) (w : World) : (do eqGuard .neq 54 x y (.agg #[.int .i64 a0, .int .i64 a1]) (.agg #[.int .i64 b0, .int .i64 b1]); binOp .neq 54 (.agg #[.int .i64 a0, .int .i64 a1]) (.agg #[.int .i64 b0, .int .i64 b1]) : Sem Value).run Try.prog w = .ok (.bool (decide (¬ (a0 = b0 ∧ a1 = b1)))) w := by
  have h := (eqS (P := Try.prog) (T := 54) (by kernel_rfl) (by kernel_rfl) (by kernel_rfl) (by kernel_rfl) [a0, a1] [b0, b1] (by kernel_rfl) (by kernel_rfl) x y w).2
  rwa [show (!(decide ([a0, a1] = [b0, b1]))) = decide (¬ (a0 = b0 ∧ a1 = b1)) by simp] at h
end Go.Proofs.Ytnpflhaggfabnaa
