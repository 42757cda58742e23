/- Closed facts on the program's types and functions. -/
import Derived.Test.YtfkngjglnhfdcaaGreatDoorProg
import Derived.Test.YtfkngjglnhfdcaaGreatDoorEng
namespace Go.Proofs.YtfkngjglnhfdcaaGreatDoor
set_option linter.unusedVariables false
set_option linter.unusedSimpArgs false
open Go.RowKit
theorem en_10 : Enters Tryz.prog 10 := enters_of Tryz.func10 (by kernel_rfl) rfl
theorem en_100 : Enters Tryz.prog 100 := enters_of Tryz.func100 (by kernel_rfl) rfl
theorem en_101 : Enters Tryz.prog 101 := enters_of Tryz.func101 (by kernel_rfl) rfl
theorem en_102 : Enters Tryz.prog 102 := enters_of Tryz.func102 (by kernel_rfl) rfl
theorem en_103 : Enters Tryz.prog 103 := enters_of Tryz.func103 (by kernel_rfl) rfl
theorem en_104 : Enters Tryz.prog 104 := enters_of Tryz.func104 (by kernel_rfl) rfl
theorem en_105 : Enters Tryz.prog 105 := enters_of Tryz.func105 (by kernel_rfl) rfl
theorem en_106 : Enters Tryz.prog 106 := enters_of Tryz.func106 (by kernel_rfl) rfl
theorem en_107 : Enters Tryz.prog 107 := enters_of Tryz.func107 (by kernel_rfl) rfl
theorem en_108 : Enters Tryz.prog 108 := enters_of Tryz.func108 (by kernel_rfl) rfl
theorem en_11 : Enters Tryz.prog 11 := enters_of Tryz.func11 (by kernel_rfl) rfl
theorem en_110 : Enters Tryz.prog 110 := enters_of Tryz.func110 (by kernel_rfl) rfl
theorem en_111 : Enters Tryz.prog 111 := enters_of Tryz.func111 (by kernel_rfl) rfl
theorem en_112 : Enters Tryz.prog 112 := enters_of Tryz.func112 (by kernel_rfl) rfl
theorem en_113 : Enters Tryz.prog 113 := enters_of Tryz.func113 (by kernel_rfl) rfl
theorem en_114 : Enters Tryz.prog 114 := enters_of Tryz.func114 (by kernel_rfl) rfl
theorem en_115 : Enters Tryz.prog 115 := enters_of Tryz.func115 (by kernel_rfl) rfl
theorem en_116 : Enters Tryz.prog 116 := enters_of Tryz.func116 (by kernel_rfl) rfl
theorem en_12 : Enters Tryz.prog 12 := enters_of Tryz.func12 (by kernel_rfl) rfl
theorem en_13 : Enters Tryz.prog 13 := enters_of Tryz.func13 (by kernel_rfl) rfl
theorem en_14 : Enters Tryz.prog 14 := enters_of Tryz.func14 (by kernel_rfl) rfl
theorem en_15 : Enters Tryz.prog 15 := enters_of Tryz.func15 (by kernel_rfl) rfl
theorem en_16 : Enters Tryz.prog 16 := enters_of Tryz.func16 (by kernel_rfl) rfl
theorem en_17 : Enters Tryz.prog 17 := enters_of Tryz.func17 (by kernel_rfl) rfl
theorem en_18 : Enters Tryz.prog 18 := enters_of Tryz.func18 (by kernel_rfl) rfl
theorem en_19 : Enters Tryz.prog 19 := enters_of Tryz.func19 (by kernel_rfl) rfl
theorem en_2 : Enters Tryz.prog 2 := enters_of Tryz.func2 (by kernel_rfl) rfl
theorem en_20 : Enters Tryz.prog 20 := enters_of Tryz.func20 (by kernel_rfl) rfl
theorem en_21 : Enters Tryz.prog 21 := enters_of Tryz.func21 (by kernel_rfl) rfl
theorem en_22 : Enters Tryz.prog 22 := enters_of Tryz.func22 (by kernel_rfl) rfl
theorem en_23 : Enters Tryz.prog 23 := enters_of Tryz.func23 (by kernel_rfl) rfl
theorem en_24 : Enters Tryz.prog 24 := enters_of Tryz.func24 (by kernel_rfl) rfl
theorem en_25 : Enters Tryz.prog 25 := enters_of Tryz.func25 (by kernel_rfl) rfl
theorem en_26 : Enters Tryz.prog 26 := enters_of Tryz.func26 (by kernel_rfl) rfl
theorem en_27 : Enters Tryz.prog 27 := enters_of Tryz.func27 (by kernel_rfl) rfl
theorem en_28 : Enters Tryz.prog 28 := enters_of Tryz.func28 (by kernel_rfl) rfl
theorem en_29 : Enters Tryz.prog 29 := enters_of Tryz.func29 (by kernel_rfl) rfl
theorem en_3 : Enters Tryz.prog 3 := enters_of Tryz.func3 (by kernel_rfl) rfl
theorem en_30 : Enters Tryz.prog 30 := enters_of Tryz.func30 (by kernel_rfl) rfl
theorem en_31 : Enters Tryz.prog 31 := enters_of Tryz.func31 (by kernel_rfl) rfl
theorem en_32 : Enters Tryz.prog 32 := enters_of Tryz.func32 (by kernel_rfl) rfl
theorem en_33 : Enters Tryz.prog 33 := enters_of Tryz.func33 (by kernel_rfl) rfl
theorem en_34 : Enters Tryz.prog 34 := enters_of Tryz.func34 (by kernel_rfl) rfl
theorem en_35 : Enters Tryz.prog 35 := enters_of Tryz.func35 (by kernel_rfl) rfl
theorem en_36 : Enters Tryz.prog 36 := enters_of Tryz.func36 (by kernel_rfl) rfl
theorem en_37 : Enters Tryz.prog 37 := enters_of Tryz.func37 (by kernel_rfl) rfl
theorem en_38 : Enters Tryz.prog 38 := enters_of Tryz.func38 (by kernel_rfl) rfl
theorem en_39 : Enters Tryz.prog 39 := enters_of Tryz.func39 (by kernel_rfl) rfl
theorem en_4 : Enters Tryz.prog 4 := enters_of Tryz.func4 (by kernel_rfl) rfl
theorem en_40 : Enters Tryz.prog 40 := enters_of Tryz.func40 (by kernel_rfl) rfl
theorem en_41 : Enters Tryz.prog 41 := enters_of Tryz.func41 (by kernel_rfl) rfl
theorem en_42 : Enters Tryz.prog 42 := enters_of Tryz.func42 (by kernel_rfl) rfl
theorem en_43 : Enters Tryz.prog 43 := enters_of Tryz.func43 (by kernel_rfl) rfl
theorem en_44 : Enters Tryz.prog 44 := enters_of Tryz.func44 (by kernel_rfl) rfl
theorem en_45 : Enters Tryz.prog 45 := enters_of Tryz.func45 (by kernel_rfl) rfl
theorem en_46 : Enters Tryz.prog 46 := enters_of Tryz.func46 (by kernel_rfl) rfl
theorem en_47 : Enters Tryz.prog 47 := enters_of Tryz.func47 (by kernel_rfl) rfl
theorem en_48 : Enters Tryz.prog 48 := enters_of Tryz.func48 (by kernel_rfl) rfl
theorem en_49 : Enters Tryz.prog 49 := enters_of Tryz.func49 (by kernel_rfl) rfl
theorem en_5 : Enters Tryz.prog 5 := enters_of Tryz.func5 (by kernel_rfl) rfl
theorem en_50 : Enters Tryz.prog 50 := enters_of Tryz.func50 (by kernel_rfl) rfl
theorem en_51 : Enters Tryz.prog 51 := enters_of Tryz.func51 (by kernel_rfl) rfl
theorem en_52 : Enters Tryz.prog 52 := enters_of Tryz.func52 (by kernel_rfl) rfl
theorem en_53 : Enters Tryz.prog 53 := enters_of Tryz.func53 (by kernel_rfl) rfl
theorem en_54 : Enters Tryz.prog 54 := enters_of Tryz.func54 (by kernel_rfl) rfl
theorem en_55 : Enters Tryz.prog 55 := enters_of Tryz.func55 (by kernel_rfl) rfl
theorem en_56 : Enters Tryz.prog 56 := enters_of Tryz.func56 (by kernel_rfl) rfl
theorem en_57 : Enters Tryz.prog 57 := enters_of Tryz.func57 (by kernel_rfl) rfl
theorem en_59 : Enters Tryz.prog 59 := enters_of Tryz.func59 (by kernel_rfl) rfl
theorem en_6 : Enters Tryz.prog 6 := enters_of Tryz.func6 (by kernel_rfl) rfl
theorem en_60 : Enters Tryz.prog 60 := enters_of Tryz.func60 (by kernel_rfl) rfl
theorem en_61 : Enters Tryz.prog 61 := enters_of Tryz.func61 (by kernel_rfl) rfl
theorem en_62 : Enters Tryz.prog 62 := enters_of Tryz.func62 (by kernel_rfl) rfl
theorem en_63 : Enters Tryz.prog 63 := enters_of Tryz.func63 (by kernel_rfl) rfl
theorem en_64 : Enters Tryz.prog 64 := enters_of Tryz.func64 (by kernel_rfl) rfl
theorem en_65 : Enters Tryz.prog 65 := enters_of Tryz.func65 (by kernel_rfl) rfl
theorem en_66 : Enters Tryz.prog 66 := enters_of Tryz.func66 (by kernel_rfl) rfl
theorem en_67 : Enters Tryz.prog 67 := enters_of Tryz.func67 (by kernel_rfl) rfl
theorem en_68 : Enters Tryz.prog 68 := enters_of Tryz.func68 (by kernel_rfl) rfl
theorem en_69 : Enters Tryz.prog 69 := enters_of Tryz.func69 (by kernel_rfl) rfl
theorem en_7 : Enters Tryz.prog 7 := enters_of Tryz.func7 (by kernel_rfl) rfl
theorem en_70 : Enters Tryz.prog 70 := enters_of Tryz.func70 (by kernel_rfl) rfl
theorem en_71 : Enters Tryz.prog 71 := enters_of Tryz.func71 (by kernel_rfl) rfl
theorem en_72 : Enters Tryz.prog 72 := enters_of Tryz.func72 (by kernel_rfl) rfl
theorem en_73 : Enters Tryz.prog 73 := enters_of Tryz.func73 (by kernel_rfl) rfl
theorem en_74 : Enters Tryz.prog 74 := enters_of Tryz.func74 (by kernel_rfl) rfl
theorem en_75 : Enters Tryz.prog 75 := enters_of Tryz.func75 (by kernel_rfl) rfl
theorem en_77 : Enters Tryz.prog 77 := enters_of Tryz.func77 (by kernel_rfl) rfl
theorem en_78 : Enters Tryz.prog 78 := enters_of Tryz.func78 (by kernel_rfl) rfl
theorem en_79 : Enters Tryz.prog 79 := enters_of Tryz.func79 (by kernel_rfl) rfl
theorem en_8 : Enters Tryz.prog 8 := enters_of Tryz.func8 (by kernel_rfl) rfl
theorem en_80 : Enters Tryz.prog 80 := enters_of Tryz.func80 (by kernel_rfl) rfl
theorem en_81 : Enters Tryz.prog 81 := enters_of Tryz.func81 (by kernel_rfl) rfl
theorem en_82 : Enters Tryz.prog 82 := enters_of Tryz.func82 (by kernel_rfl) rfl
theorem en_83 : Enters Tryz.prog 83 := enters_of Tryz.func83 (by kernel_rfl) rfl
theorem en_84 : Enters Tryz.prog 84 := enters_of Tryz.func84 (by kernel_rfl) rfl
theorem en_85 : Enters Tryz.prog 85 := enters_of Tryz.func85 (by kernel_rfl) rfl
theorem en_86 : Enters Tryz.prog 86 := enters_of Tryz.func86 (by kernel_rfl) rfl
theorem en_87 : Enters Tryz.prog 87 := enters_of Tryz.func87 (by kernel_rfl) rfl
theorem en_88 : Enters Tryz.prog 88 := enters_of Tryz.func88 (by kernel_rfl) rfl
theorem en_89 : Enters Tryz.prog 89 := enters_of Tryz.func89 (by kernel_rfl) rfl
theorem en_9 : Enters Tryz.prog 9 := enters_of Tryz.func9 (by kernel_rfl) rfl
theorem en_90 : Enters Tryz.prog 90 := enters_of Tryz.func90 (by kernel_rfl) rfl
theorem en_91 : Enters Tryz.prog 91 := enters_of Tryz.func91 (by kernel_rfl) rfl
theorem en_92 : Enters Tryz.prog 92 := enters_of Tryz.func92 (by kernel_rfl) rfl
theorem en_93 : Enters Tryz.prog 93 := enters_of Tryz.func93 (by kernel_rfl) rfl
theorem en_94 : Enters Tryz.prog 94 := enters_of Tryz.func94 (by kernel_rfl) rfl
theorem en_96 : Enters Tryz.prog 96 := enters_of Tryz.func96 (by kernel_rfl) rfl
theorem en_97 : Enters Tryz.prog 97 := enters_of Tryz.func97 (by kernel_rfl) rfl
theorem en_99 : Enters Tryz.prog 99 := enters_of Tryz.func99 (by kernel_rfl) rfl
theorem fa_13_0 : FieldAt Tryz.prog 13 0 0 := fieldAt_of Tryz.underlying13 rfl rfl (z := 1) (by kernel_rfl) (by decide)
theorem fa_13_1 : FieldAt Tryz.prog 13 1 1 := fieldAt_of Tryz.underlying13 rfl rfl (z := 1) (by kernel_rfl) (by decide)
theorem fa_139_0 : FieldAt Tryz.prog 139 0 0 := fieldAt_of Tryz.underlying139 rfl rfl (z := 1) (by kernel_rfl) (by decide)
theorem fa_139_1 : FieldAt Tryz.prog 139 1 1 := fieldAt_of Tryz.underlying139 rfl rfl (z := 1) (by kernel_rfl) (by decide)
theorem fa_139_2 : FieldAt Tryz.prog 139 2 2 := fieldAt_of Tryz.underlying139 rfl rfl (z := 1) (by kernel_rfl) (by decide)
theorem fa_14_0 : FieldAt Tryz.prog 14 0 0 := fieldAt_of Tryz.underlying14 rfl rfl (z := 1) (by kernel_rfl) (by decide)
theorem fa_14_1 : FieldAt Tryz.prog 14 1 1 := fieldAt_of Tryz.underlying14 rfl rfl (z := 1) (by kernel_rfl) (by decide)
theorem fa_140_0 : FieldAt Tryz.prog 140 0 0 := fieldAt_of Tryz.underlying140 rfl rfl (z := 1) (by kernel_rfl) (by decide)
theorem fa_140_1 : FieldAt Tryz.prog 140 1 1 := fieldAt_of Tryz.underlying140 rfl rfl (z := 1) (by kernel_rfl) (by decide)
theorem fa_140_2 : FieldAt Tryz.prog 140 2 2 := fieldAt_of Tryz.underlying140 rfl rfl (z := 1) (by kernel_rfl) (by decide)
theorem fa_151_0 : FieldAt Tryz.prog 151 0 0 := fieldAt_of Tryz.underlying151 rfl rfl (z := 1) (by kernel_rfl) (by decide)
theorem fa_152_0 : FieldAt Tryz.prog 152 0 0 := fieldAt_of Tryz.underlying152 rfl rfl (z := 1) (by kernel_rfl) (by decide)
theorem fa_154_0 : FieldAt Tryz.prog 154 0 0 := fieldAt_of Tryz.underlying154 rfl rfl (z := 1) (by kernel_rfl) (by decide)
theorem fa_154_1 : FieldAt Tryz.prog 154 1 1 := fieldAt_of Tryz.underlying154 rfl rfl (z := 1) (by kernel_rfl) (by decide)
theorem fa_155_0 : FieldAt Tryz.prog 155 0 0 := fieldAt_of Tryz.underlying155 rfl rfl (z := 1) (by kernel_rfl) (by decide)
theorem fa_155_1 : FieldAt Tryz.prog 155 1 1 := fieldAt_of Tryz.underlying155 rfl rfl (z := 1) (by kernel_rfl) (by decide)
theorem fa_161_0 : FieldAt Tryz.prog 161 0 0 := fieldAt_of Tryz.underlying161 rfl rfl (z := 1) (by kernel_rfl) (by decide)
theorem fa_161_1 : FieldAt Tryz.prog 161 1 1 := fieldAt_of Tryz.underlying161 rfl rfl (z := 1) (by kernel_rfl) (by decide)
theorem fa_161_2 : FieldAt Tryz.prog 161 2 2 := fieldAt_of Tryz.underlying161 rfl rfl (z := 1) (by kernel_rfl) (by decide)
theorem fa_161_3 : FieldAt Tryz.prog 161 3 3 := fieldAt_of Tryz.underlying161 rfl rfl (z := 1) (by kernel_rfl) (by decide)
theorem fa_162_0 : FieldAt Tryz.prog 162 0 0 := fieldAt_of Tryz.underlying162 rfl rfl (z := 1) (by kernel_rfl) (by decide)
theorem fa_162_1 : FieldAt Tryz.prog 162 1 1 := fieldAt_of Tryz.underlying162 rfl rfl (z := 1) (by kernel_rfl) (by decide)
theorem fa_162_2 : FieldAt Tryz.prog 162 2 2 := fieldAt_of Tryz.underlying162 rfl rfl (z := 1) (by kernel_rfl) (by decide)
theorem fa_162_3 : FieldAt Tryz.prog 162 3 3 := fieldAt_of Tryz.underlying162 rfl rfl (z := 1) (by kernel_rfl) (by decide)
theorem fa_172_0 : FieldAt Tryz.prog 172 0 0 := fieldAt_of Tryz.underlying172 rfl rfl (z := 1) (by kernel_rfl) (by decide)
theorem fa_172_1 : FieldAt Tryz.prog 172 1 1 := fieldAt_of Tryz.underlying172 rfl rfl (z := 1) (by kernel_rfl) (by decide)
theorem fa_172_10 : FieldAt Tryz.prog 172 10 10 := fieldAt_of Tryz.underlying172 rfl rfl (z := 1) (by kernel_rfl) (by decide)
theorem fa_172_2 : FieldAt Tryz.prog 172 2 2 := fieldAt_of Tryz.underlying172 rfl rfl (z := 1) (by kernel_rfl) (by decide)
theorem fa_172_3 : FieldAt Tryz.prog 172 3 3 := fieldAt_of Tryz.underlying172 rfl rfl (z := 1) (by kernel_rfl) (by decide)
theorem fa_172_4 : FieldAt Tryz.prog 172 4 4 := fieldAt_of Tryz.underlying172 rfl rfl (z := 1) (by kernel_rfl) (by decide)
theorem fa_172_5 : FieldAt Tryz.prog 172 5 5 := fieldAt_of Tryz.underlying172 rfl rfl (z := 1) (by kernel_rfl) (by decide)
theorem fa_172_6 : FieldAt Tryz.prog 172 6 6 := fieldAt_of Tryz.underlying172 rfl rfl (z := 1) (by kernel_rfl) (by decide)
theorem fa_172_7 : FieldAt Tryz.prog 172 7 7 := fieldAt_of Tryz.underlying172 rfl rfl (z := 1) (by kernel_rfl) (by decide)
theorem fa_172_8 : FieldAt Tryz.prog 172 8 8 := fieldAt_of Tryz.underlying172 rfl rfl (z := 1) (by kernel_rfl) (by decide)
theorem fa_172_9 : FieldAt Tryz.prog 172 9 9 := fieldAt_of Tryz.underlying172 rfl rfl (z := 1) (by kernel_rfl) (by decide)
theorem fa_173_0 : FieldAt Tryz.prog 173 0 0 := fieldAt_of Tryz.underlying173 rfl rfl (z := 1) (by kernel_rfl) (by decide)
theorem fa_173_1 : FieldAt Tryz.prog 173 1 1 := fieldAt_of Tryz.underlying173 rfl rfl (z := 1) (by kernel_rfl) (by decide)
theorem fa_173_10 : FieldAt Tryz.prog 173 10 10 := fieldAt_of Tryz.underlying173 rfl rfl (z := 1) (by kernel_rfl) (by decide)
theorem fa_173_2 : FieldAt Tryz.prog 173 2 2 := fieldAt_of Tryz.underlying173 rfl rfl (z := 1) (by kernel_rfl) (by decide)
theorem fa_173_3 : FieldAt Tryz.prog 173 3 3 := fieldAt_of Tryz.underlying173 rfl rfl (z := 1) (by kernel_rfl) (by decide)
theorem fa_173_4 : FieldAt Tryz.prog 173 4 4 := fieldAt_of Tryz.underlying173 rfl rfl (z := 1) (by kernel_rfl) (by decide)
theorem fa_173_5 : FieldAt Tryz.prog 173 5 5 := fieldAt_of Tryz.underlying173 rfl rfl (z := 1) (by kernel_rfl) (by decide)
theorem fa_173_6 : FieldAt Tryz.prog 173 6 6 := fieldAt_of Tryz.underlying173 rfl rfl (z := 1) (by kernel_rfl) (by decide)
theorem fa_173_7 : FieldAt Tryz.prog 173 7 7 := fieldAt_of Tryz.underlying173 rfl rfl (z := 1) (by kernel_rfl) (by decide)
theorem fa_173_8 : FieldAt Tryz.prog 173 8 8 := fieldAt_of Tryz.underlying173 rfl rfl (z := 1) (by kernel_rfl) (by decide)
theorem fa_173_9 : FieldAt Tryz.prog 173 9 9 := fieldAt_of Tryz.underlying173 rfl rfl (z := 1) (by kernel_rfl) (by decide)
theorem fa_18_0 : FieldAt Tryz.prog 18 0 0 := fieldAt_of Tryz.underlying18 rfl rfl (z := 1) (by kernel_rfl) (by decide)
theorem fa_19_0 : FieldAt Tryz.prog 19 0 0 := fieldAt_of Tryz.underlying19 rfl rfl (z := 1) (by kernel_rfl) (by decide)
theorem fa_45_0 : FieldAt Tryz.prog 45 0 0 := fieldAt_of Tryz.underlying45 rfl rfl (z := 1) (by kernel_rfl) (by decide)
theorem fa_45_1 : FieldAt Tryz.prog 45 1 1 := fieldAt_of Tryz.underlying45 rfl rfl (z := 1) (by kernel_rfl) (by decide)
theorem fa_45_2 : FieldAt Tryz.prog 45 2 2 := fieldAt_of Tryz.underlying45 rfl rfl (z := 1) (by kernel_rfl) (by decide)
theorem fa_45_3 : FieldAt Tryz.prog 45 3 3 := fieldAt_of Tryz.underlying45 rfl rfl (z := 1) (by kernel_rfl) (by decide)
theorem fa_46_0 : FieldAt Tryz.prog 46 0 0 := fieldAt_of Tryz.underlying46 rfl rfl (z := 1) (by kernel_rfl) (by decide)
theorem fa_46_1 : FieldAt Tryz.prog 46 1 1 := fieldAt_of Tryz.underlying46 rfl rfl (z := 1) (by kernel_rfl) (by decide)
theorem fa_46_2 : FieldAt Tryz.prog 46 2 2 := fieldAt_of Tryz.underlying46 rfl rfl (z := 1) (by kernel_rfl) (by decide)
theorem fa_46_3 : FieldAt Tryz.prog 46 3 3 := fieldAt_of Tryz.underlying46 rfl rfl (z := 1) (by kernel_rfl) (by decide)
theorem fa_50_0 : FieldAt Tryz.prog 50 0 0 := fieldAt_of Tryz.underlying50 rfl rfl (z := 1) (by kernel_rfl) (by decide)
theorem fa_50_1 : FieldAt Tryz.prog 50 1 1 := fieldAt_of Tryz.underlying50 rfl rfl (z := 1) (by kernel_rfl) (by decide)
theorem fa_51_0 : FieldAt Tryz.prog 51 0 0 := fieldAt_of Tryz.underlying51 rfl rfl (z := 1) (by kernel_rfl) (by decide)
theorem fa_51_1 : FieldAt Tryz.prog 51 1 1 := fieldAt_of Tryz.underlying51 rfl rfl (z := 1) (by kernel_rfl) (by decide)
theorem fa_7_0 : FieldAt Tryz.prog 7 0 0 := fieldAt_of Tryz.underlying7 rfl rfl (z := 1) (by kernel_rfl) (by decide)
theorem fa_7_1 : FieldAt Tryz.prog 7 1 1 := fieldAt_of Tryz.underlying7 rfl rfl (z := 1) (by kernel_rfl) (by decide)
theorem fa_7_2 : FieldAt Tryz.prog 7 2 2 := fieldAt_of Tryz.underlying7 rfl rfl (z := 1) (by kernel_rfl) (by decide)
theorem fa_7_3 : FieldAt Tryz.prog 7 3 3 := fieldAt_of Tryz.underlying7 rfl rfl (z := 1) (by kernel_rfl) (by decide)
theorem fa_75_0 : FieldAt Tryz.prog 75 0 0 := fieldAt_of Tryz.underlying75 rfl rfl (z := 1) (by kernel_rfl) (by decide)
theorem fa_75_1 : FieldAt Tryz.prog 75 1 1 := fieldAt_of Tryz.underlying75 rfl rfl (z := 1) (by kernel_rfl) (by decide)
theorem fa_76_0 : FieldAt Tryz.prog 76 0 0 := fieldAt_of Tryz.underlying76 rfl rfl (z := 1) (by kernel_rfl) (by decide)
theorem fa_76_1 : FieldAt Tryz.prog 76 1 1 := fieldAt_of Tryz.underlying76 rfl rfl (z := 1) (by kernel_rfl) (by decide)
theorem fa_8_0 : FieldAt Tryz.prog 8 0 0 := fieldAt_of Tryz.underlying8 rfl rfl (z := 1) (by kernel_rfl) (by decide)
theorem fa_8_1 : FieldAt Tryz.prog 8 1 1 := fieldAt_of Tryz.underlying8 rfl rfl (z := 1) (by kernel_rfl) (by decide)
theorem fa_8_2 : FieldAt Tryz.prog 8 2 2 := fieldAt_of Tryz.underlying8 rfl rfl (z := 1) (by kernel_rfl) (by decide)
theorem fa_8_3 : FieldAt Tryz.prog 8 3 3 := fieldAt_of Tryz.underlying8 rfl rfl (z := 1) (by kernel_rfl) (by decide)
theorem inf_1 : (Tryz.prog.info? 1).map (fun i => (i.zero, i.size, i.bytes)) = some (some .nilFunc, 1, 8) := by kernel_rfl
theorem inf_10 : (Tryz.prog.info? 10).map (fun i => (i.zero, i.size, i.bytes)) = some (some (.string ⟨#[]⟩), 1, 16) := by kernel_rfl
theorem inf_100 : (Tryz.prog.info? 100).map (fun i => (i.zero, i.size, i.bytes)) = some (some .nilFunc, 1, 8) := by kernel_rfl
theorem inf_101 : (Tryz.prog.info? 101).map (fun i => (i.zero, i.size, i.bytes)) = some (some .nilFunc, 1, 8) := by kernel_rfl
theorem inf_102 : (Tryz.prog.info? 102).map (fun i => (i.zero, i.size, i.bytes)) = some (some .nilFunc, 1, 8) := by kernel_rfl
theorem inf_103 : (Tryz.prog.info? 103).map (fun i => (i.zero, i.size, i.bytes)) = some (some (.int .i64 0), 1, 8) := by kernel_rfl
theorem inf_105 : (Tryz.prog.info? 105).map (fun i => (i.zero, i.size, i.bytes)) = some (some .nilFunc, 1, 8) := by kernel_rfl
theorem inf_106 : (Tryz.prog.info? 106).map (fun i => (i.zero, i.size, i.bytes)) = some (some .nilFunc, 1, 8) := by kernel_rfl
theorem inf_107 : (Tryz.prog.info? 107).map (fun i => (i.zero, i.size, i.bytes)) = some (some .nilFunc, 1, 8) := by kernel_rfl
theorem inf_108 : (Tryz.prog.info? 108).map (fun i => (i.zero, i.size, i.bytes)) = some (some .nilFunc, 1, 8) := by kernel_rfl
theorem inf_11 : (Tryz.prog.info? 11).map (fun i => (i.zero, i.size, i.bytes)) = some (some (.string ⟨#[]⟩), 1, 16) := by kernel_rfl
theorem inf_110 : (Tryz.prog.info? 110).map (fun i => (i.zero, i.size, i.bytes)) = some (some .nilFunc, 1, 8) := by kernel_rfl
theorem inf_111 : (Tryz.prog.info? 111).map (fun i => (i.zero, i.size, i.bytes)) = some (some .nilFunc, 1, 8) := by kernel_rfl
theorem inf_112 : (Tryz.prog.info? 112).map (fun i => (i.zero, i.size, i.bytes)) = some (some (.int .u32 0), 1, 4) := by kernel_rfl
theorem inf_113 : (Tryz.prog.info? 113).map (fun i => (i.zero, i.size, i.bytes)) = some (some .nilFunc, 1, 8) := by kernel_rfl
theorem inf_114 : (Tryz.prog.info? 114).map (fun i => (i.zero, i.size, i.bytes)) = some (some (.int .u64 0), 1, 8) := by kernel_rfl
theorem inf_115 : (Tryz.prog.info? 115).map (fun i => (i.zero, i.size, i.bytes)) = some (some .nilFunc, 1, 8) := by kernel_rfl
theorem inf_116 : (Tryz.prog.info? 116).map (fun i => (i.zero, i.size, i.bytes)) = some (some .nilFunc, 1, 8) := by kernel_rfl
theorem inf_117 : (Tryz.prog.info? 117).map (fun i => (i.zero, i.size, i.bytes)) = some (some .nilFunc, 1, 8) := by kernel_rfl
theorem inf_118 : (Tryz.prog.info? 118).map (fun i => (i.zero, i.size, i.bytes)) = some (some (.int .i64 0), 1, 8) := by kernel_rfl
theorem inf_12 : (Tryz.prog.info? 12).map (fun i => (i.zero, i.size, i.bytes)) = some (some (.int .u64 0), 1, 8) := by kernel_rfl
theorem inf_120 : (Tryz.prog.info? 120).map (fun i => (i.zero, i.size, i.bytes)) = some (some .nilFunc, 1, 8) := by kernel_rfl
theorem inf_121 : (Tryz.prog.info? 121).map (fun i => (i.zero, i.size, i.bytes)) = some (some (.pointer none), 1, 8) := by kernel_rfl
theorem inf_122 : (Tryz.prog.info? 122).map (fun i => (i.zero, i.size, i.bytes)) = some (some .nilFunc, 1, 8) := by kernel_rfl
theorem inf_123 : (Tryz.prog.info? 123).map (fun i => (i.zero, i.size, i.bytes)) = some (some .nilFunc, 1, 8) := by kernel_rfl
theorem inf_124 : (Tryz.prog.info? 124).map (fun i => (i.zero, i.size, i.bytes)) = some (some (.int .u64 0), 1, 8) := by kernel_rfl
theorem inf_125 : (Tryz.prog.info? 125).map (fun i => (i.zero, i.size, i.bytes)) = some (some .nilFunc, 1, 8) := by kernel_rfl
theorem inf_126 : (Tryz.prog.info? 126).map (fun i => (i.zero, i.size, i.bytes)) = some (some .nilFunc, 1, 8) := by kernel_rfl
theorem inf_127 : (Tryz.prog.info? 127).map (fun i => (i.zero, i.size, i.bytes)) = some (some .nilFunc, 1, 8) := by kernel_rfl
theorem inf_128 : (Tryz.prog.info? 128).map (fun i => (i.zero, i.size, i.bytes)) = some (some .nilFunc, 1, 8) := by kernel_rfl
theorem inf_129 : (Tryz.prog.info? 129).map (fun i => (i.zero, i.size, i.bytes)) = some (some (.agg #[(.int .u8 0), (.int .u8 0), (.int .u8 0), (.int .u8 0), (.int .u8 0), (.int .u8 0), (.int .u8 0), (.int .u8 0), (.int .u8 0), (.int .u8 0), (.int .u8 0), (.int .u8 0), (.int .u8 0), (.int .u8 0), (.int .u8 0), (.int .u8 0), (.int .u8 0), (.int .u8 0), (.int .u8 0), (.int .u8 0), (.int .u8 0), (.int .u8 0), (.int .u8 0), (.int .u8 0)]), 24, 24) := by kernel_rfl
theorem inf_13 : (Tryz.prog.info? 13).map (fun i => (i.zero, i.size, i.bytes)) = some (some (.agg #[(.string ⟨#[]⟩), (.int .u64 0)]), 2, 24) := by kernel_rfl
theorem inf_130 : (Tryz.prog.info? 130).map (fun i => (i.zero, i.size, i.bytes)) = some (some .nilFunc, 1, 8) := by kernel_rfl
theorem inf_132 : (Tryz.prog.info? 132).map (fun i => (i.zero, i.size, i.bytes)) = some (some .nilFunc, 1, 8) := by kernel_rfl
theorem inf_133 : (Tryz.prog.info? 133).map (fun i => (i.zero, i.size, i.bytes)) = some (some .nilFunc, 1, 8) := by kernel_rfl
theorem inf_135 : (Tryz.prog.info? 135).map (fun i => (i.zero, i.size, i.bytes)) = some (some .nilFunc, 1, 8) := by kernel_rfl
theorem inf_137 : (Tryz.prog.info? 137).map (fun i => (i.zero, i.size, i.bytes)) = some (some .nilFunc, 1, 8) := by kernel_rfl
theorem inf_138 : (Tryz.prog.info? 138).map (fun i => (i.zero, i.size, i.bytes)) = some (some .nilFunc, 1, 8) := by kernel_rfl
theorem inf_139 : (Tryz.prog.info? 139).map (fun i => (i.zero, i.size, i.bytes)) = some (some (.agg #[(.string ⟨#[]⟩), (.string ⟨#[]⟩), .nilIface]), 3, 48) := by kernel_rfl
theorem inf_14 : (Tryz.prog.info? 14).map (fun i => (i.zero, i.size, i.bytes)) = some (some (.agg #[(.string ⟨#[]⟩), (.int .u64 0)]), 2, 24) := by kernel_rfl
theorem inf_140 : (Tryz.prog.info? 140).map (fun i => (i.zero, i.size, i.bytes)) = some (some (.agg #[(.string ⟨#[]⟩), (.string ⟨#[]⟩), .nilIface]), 3, 48) := by kernel_rfl
theorem inf_141 : (Tryz.prog.info? 141).map (fun i => (i.zero, i.size, i.bytes)) = some (some .nilFunc, 1, 8) := by kernel_rfl
theorem inf_142 : (Tryz.prog.info? 142).map (fun i => (i.zero, i.size, i.bytes)) = some (some (.pointer none), 1, 8) := by kernel_rfl
theorem inf_144 : (Tryz.prog.info? 144).map (fun i => (i.zero, i.size, i.bytes)) = some (some .nilFunc, 1, 8) := by kernel_rfl
theorem inf_145 : (Tryz.prog.info? 145).map (fun i => (i.zero, i.size, i.bytes)) = some (some .nilFunc, 1, 8) := by kernel_rfl
theorem inf_146 : (Tryz.prog.info? 146).map (fun i => (i.zero, i.size, i.bytes)) = some (some .nilFunc, 1, 8) := by kernel_rfl
theorem inf_147 : (Tryz.prog.info? 147).map (fun i => (i.zero, i.size, i.bytes)) = some (some (.agg #[(.int .u64 0), (.int .u64 0), (.int .u64 0), (.int .u64 0), (.int .u64 0), (.int .u64 0), (.int .u64 0), (.int .u64 0), (.int .u64 0), (.int .u64 0), (.int .u64 0), (.int .u64 0), (.int .u64 0), (.int .u64 0), (.int .u64 0), (.int .u64 0), (.int .u64 0), (.int .u64 0), (.int .u64 0), (.int .u64 0)]), 20, 160) := by kernel_rfl
theorem inf_148 : (Tryz.prog.info? 148).map (fun i => (i.zero, i.size, i.bytes)) = some (some (.agg #[(.int .u8 0), (.int .u8 0), (.int .u8 0), (.int .u8 0), (.int .u8 0), (.int .u8 0), (.int .u8 0), (.int .u8 0), (.int .u8 0), (.int .u8 0), (.int .u8 0), (.int .u8 0), (.int .u8 0), (.int .u8 0), (.int .u8 0), (.int .u8 0), (.int .u8 0), (.int .u8 0), (.int .u8 0), (.int .u8 0), (.int .u8 0), (.int .u8 0), (.int .u8 0), (.int .u8 0), (.int .u8 0), (.int .u8 0), (.int .u8 0), (.int .u8 0), (.int .u8 0), (.int .u8 0), (.int .u8 0), (.int .u8 0), (.int .u8 0), (.int .u8 0), (.int .u8 0), (.int .u8 0), (.int .u8 0), (.int .u8 0), (.int .u8 0), (.int .u8 0), (.int .u8 0), (.int .u8 0), (.int .u8 0), (.int .u8 0), (.int .u8 0), (.int .u8 0), (.int .u8 0), (.int .u8 0), (.int .u8 0), (.int .u8 0), (.int .u8 0), (.int .u8 0), (.int .u8 0), (.int .u8 0), (.int .u8 0), (.int .u8 0), (.int .u8 0), (.int .u8 0), (.int .u8 0), (.int .u8 0), (.int .u8 0), (.int .u8 0), (.int .u8 0), (.int .u8 0), (.int .u8 0)]), 65, 65) := by kernel_rfl
theorem inf_149 : (Tryz.prog.info? 149).map (fun i => (i.zero, i.size, i.bytes)) = some (some .nilFunc, 1, 8) := by kernel_rfl
theorem inf_15 : (Tryz.prog.info? 15).map (fun i => (i.zero, i.size, i.bytes)) = some (some (.pointer none), 1, 8) := by kernel_rfl
theorem inf_150 : (Tryz.prog.info? 150).map (fun i => (i.zero, i.size, i.bytes)) = some (some (.pointer none), 1, 8) := by kernel_rfl
theorem inf_151 : (Tryz.prog.info? 151).map (fun i => (i.zero, i.size, i.bytes)) = some (some (.agg #[(.string ⟨#[]⟩)]), 1, 16) := by kernel_rfl
theorem inf_152 : (Tryz.prog.info? 152).map (fun i => (i.zero, i.size, i.bytes)) = some (some (.agg #[(.string ⟨#[]⟩)]), 1, 16) := by kernel_rfl
theorem inf_153 : (Tryz.prog.info? 153).map (fun i => (i.zero, i.size, i.bytes)) = some (some (.agg #[(.int .u8 0), (.int .u8 0), (.int .u8 0), (.int .u8 0), (.int .u8 0), (.int .u8 0), (.int .u8 0), (.int .u8 0), (.int .u8 0), (.int .u8 0), (.int .u8 0), (.int .u8 0), (.int .u8 0), (.int .u8 0), (.int .u8 0), (.int .u8 0), (.int .u8 0), (.int .u8 0), (.int .u8 0), (.int .u8 0), (.int .u8 0), (.int .u8 0), (.int .u8 0), (.int .u8 0), (.int .u8 0), (.int .u8 0), (.int .u8 0), (.int .u8 0), (.int .u8 0), (.int .u8 0), (.int .u8 0), (.int .u8 0), (.int .u8 0), (.int .u8 0), (.int .u8 0), (.int .u8 0), (.int .u8 0), (.int .u8 0), (.int .u8 0), (.int .u8 0), (.int .u8 0), (.int .u8 0), (.int .u8 0), (.int .u8 0), (.int .u8 0), (.int .u8 0), (.int .u8 0), (.int .u8 0), (.int .u8 0), (.int .u8 0), (.int .u8 0), (.int .u8 0), (.int .u8 0), (.int .u8 0), (.int .u8 0), (.int .u8 0), (.int .u8 0), (.int .u8 0), (.int .u8 0), (.int .u8 0), (.int .u8 0), (.int .u8 0), (.int .u8 0), (.int .u8 0), (.int .u8 0), (.int .u8 0), (.int .u8 0), (.int .u8 0), (.int .u8 0), (.int .u8 0), (.int .u8 0), (.int .u8 0), (.int .u8 0), (.int .u8 0), (.int .u8 0), (.int .u8 0), (.int .u8 0), (.int .u8 0), (.int .u8 0), (.int .u8 0), (.int .u8 0), (.int .u8 0), (.int .u8 0), (.int .u8 0), (.int .u8 0), (.int .u8 0), (.int .u8 0), (.int .u8 0), (.int .u8 0), (.int .u8 0), (.int .u8 0), (.int .u8 0), (.int .u8 0), (.int .u8 0), (.int .u8 0), (.int .u8 0), (.int .u8 0), (.int .u8 0), (.int .u8 0), (.int .u8 0), (.int .u8 0), (.int .u8 0), (.int .u8 0), (.int .u8 0), (.int .u8 0), (.int .u8 0), (.int .u8 0), (.int .u8 0), (.int .u8 0), (.int .u8 0), (.int .u8 0), (.int .u8 0), (.int .u8 0), (.int .u8 0), (.int .u8 0), (.int .u8 0), (.int .u8 0), (.int .u8 0), (.int .u8 0), (.int .u8 0), (.int .u8 0), (.int .u8 0), (.int .u8 0), (.int .u8 0), (.int .u8 0), (.int .u8 0), (.int .u8 0), (.int .u8 0), (.int .u8 0), (.int .u8 0), (.int .u8 0), (.int .u8 0), (.int .u8 0), (.int .u8 0), (.int .u8 0), (.int .u8 0), (.int .u8 0), (.int .u8 0), (.int .u8 0), (.int .u8 0), (.int .u8 0), (.int .u8 0), (.int .u8 0), (.int .u8 0), (.int .u8 0), (.int .u8 0), (.int .u8 0), (.int .u8 0), (.int .u8 0), (.int .u8 0), (.int .u8 0), (.int .u8 0), (.int .u8 0), (.int .u8 0), (.int .u8 0), (.int .u8 0), (.int .u8 0), (.int .u8 0), (.int .u8 0), (.int .u8 0), (.int .u8 0), (.int .u8 0), (.int .u8 0), (.int .u8 0), (.int .u8 0), (.int .u8 0), (.int .u8 0), (.int .u8 0), (.int .u8 0), (.int .u8 0), (.int .u8 0), (.int .u8 0), (.int .u8 0), (.int .u8 0), (.int .u8 0), (.int .u8 0), (.int .u8 0), (.int .u8 0), (.int .u8 0), (.int .u8 0), (.int .u8 0), (.int .u8 0), (.int .u8 0), (.int .u8 0), (.int .u8 0), (.int .u8 0), (.int .u8 0), (.int .u8 0), (.int .u8 0), (.int .u8 0), (.int .u8 0), (.int .u8 0), (.int .u8 0), (.int .u8 0), (.int .u8 0), (.int .u8 0), (.int .u8 0), (.int .u8 0), (.int .u8 0), (.int .u8 0), (.int .u8 0), (.int .u8 0), (.int .u8 0), (.int .u8 0), (.int .u8 0), (.int .u8 0), (.int .u8 0), (.int .u8 0), (.int .u8 0), (.int .u8 0), (.int .u8 0), (.int .u8 0), (.int .u8 0), (.int .u8 0), (.int .u8 0), (.int .u8 0), (.int .u8 0), (.int .u8 0), (.int .u8 0), (.int .u8 0), (.int .u8 0), (.int .u8 0), (.int .u8 0), (.int .u8 0), (.int .u8 0), (.int .u8 0), (.int .u8 0), (.int .u8 0), (.int .u8 0), (.int .u8 0), (.int .u8 0), (.int .u8 0), (.int .u8 0), (.int .u8 0), (.int .u8 0), (.int .u8 0), (.int .u8 0), (.int .u8 0), (.int .u8 0), (.int .u8 0), (.int .u8 0), (.int .u8 0), (.int .u8 0), (.int .u8 0), (.int .u8 0), (.int .u8 0), (.int .u8 0), (.int .u8 0), (.int .u8 0), (.int .u8 0), (.int .u8 0), (.int .u8 0), (.int .u8 0), (.int .u8 0), (.int .u8 0), (.int .u8 0)]), 256, 256) := by kernel_rfl
theorem inf_154 : (Tryz.prog.info? 154).map (fun i => (i.zero, i.size, i.bytes)) = some (some (.agg #[(.int .u8 0), (.int .u8 0)]), 2, 2) := by kernel_rfl
theorem inf_155 : (Tryz.prog.info? 155).map (fun i => (i.zero, i.size, i.bytes)) = some (some (.agg #[(.int .u8 0), (.int .u8 0)]), 2, 2) := by kernel_rfl
theorem inf_156 : (Tryz.prog.info? 156).map (fun i => (i.zero, i.size, i.bytes)) = some (some (.agg #[(.int .u8 0), (.int .u8 0), (.int .u8 0), (.int .u8 0), (.int .u8 0), (.int .u8 0), (.int .u8 0), (.int .u8 0), (.int .u8 0), (.int .u8 0), (.int .u8 0), (.int .u8 0), (.int .u8 0), (.int .u8 0), (.int .u8 0), (.int .u8 0), (.int .u8 0), (.int .u8 0), (.int .u8 0), (.int .u8 0), (.int .u8 0), (.int .u8 0), (.int .u8 0), (.int .u8 0), (.int .u8 0), (.int .u8 0), (.int .u8 0), (.int .u8 0), (.int .u8 0), (.int .u8 0), (.int .u8 0), (.int .u8 0)]), 32, 32) := by kernel_rfl
theorem inf_158 : (Tryz.prog.info? 158).map (fun i => (i.zero, i.size, i.bytes)) = some (some .nilFunc, 1, 8) := by kernel_rfl
theorem inf_159 : (Tryz.prog.info? 159).map (fun i => (i.zero, i.size, i.bytes)) = some (some (.agg #[(.int .u8 0), (.int .u8 0), (.int .u8 0), (.int .u8 0), (.int .u8 0), (.int .u8 0), (.int .u8 0), (.int .u8 0), (.int .u8 0), (.int .u8 0), (.int .u8 0), (.int .u8 0), (.int .u8 0), (.int .u8 0), (.int .u8 0), (.int .u8 0), (.int .u8 0), (.int .u8 0), (.int .u8 0), (.int .u8 0), (.int .u8 0), (.int .u8 0), (.int .u8 0), (.int .u8 0), (.int .u8 0), (.int .u8 0), (.int .u8 0), (.int .u8 0), (.int .u8 0), (.int .u8 0), (.int .u8 0), (.int .u8 0)]), 32, 32) := by kernel_rfl
theorem inf_16 : (Tryz.prog.info? 16).map (fun i => (i.zero, i.size, i.bytes)) = some (some (.pointer none), 1, 8) := by kernel_rfl
theorem inf_160 : (Tryz.prog.info? 160).map (fun i => (i.zero, i.size, i.bytes)) = some (some (.agg #[(.int .u8 0), (.int .u8 0), (.int .u8 0), (.int .u8 0), (.int .u8 0), (.int .u8 0), (.int .u8 0), (.int .u8 0), (.int .u8 0), (.int .u8 0), (.int .u8 0), (.int .u8 0), (.int .u8 0), (.int .u8 0), (.int .u8 0), (.int .u8 0), (.int .u8 0), (.int .u8 0), (.int .u8 0), (.int .u8 0), (.int .u8 0), (.int .u8 0), (.int .u8 0), (.int .u8 0), (.int .u8 0), (.int .u8 0), (.int .u8 0), (.int .u8 0), (.int .u8 0), (.int .u8 0), (.int .u8 0), (.int .u8 0), (.int .u8 0), (.int .u8 0), (.int .u8 0), (.int .u8 0), (.int .u8 0), (.int .u8 0), (.int .u8 0), (.int .u8 0), (.int .u8 0), (.int .u8 0), (.int .u8 0), (.int .u8 0), (.int .u8 0), (.int .u8 0), (.int .u8 0), (.int .u8 0), (.int .u8 0), (.int .u8 0), (.int .u8 0), (.int .u8 0), (.int .u8 0), (.int .u8 0), (.int .u8 0), (.int .u8 0), (.int .u8 0), (.int .u8 0), (.int .u8 0), (.int .u8 0), (.int .u8 0), (.int .u8 0), (.int .u8 0), (.int .u8 0)]), 64, 64) := by kernel_rfl
theorem inf_161 : (Tryz.prog.info? 161).map (fun i => (i.zero, i.size, i.bytes)) = some (some (.agg #[(.pointer none), (.pointer none), (.pointer none), (.string ⟨#[]⟩)]), 4, 40) := by kernel_rfl
theorem inf_162 : (Tryz.prog.info? 162).map (fun i => (i.zero, i.size, i.bytes)) = some (some (.agg #[(.pointer none), (.pointer none), (.pointer none), (.string ⟨#[]⟩)]), 4, 40) := by kernel_rfl
theorem inf_166 : (Tryz.prog.info? 166).map (fun i => (i.zero, i.size, i.bytes)) = some (some .nilFunc, 1, 8) := by kernel_rfl
theorem inf_167 : (Tryz.prog.info? 167).map (fun i => (i.zero, i.size, i.bytes)) = some (some (.int .u8 0), 1, 1) := by kernel_rfl
theorem inf_168 : (Tryz.prog.info? 168).map (fun i => (i.zero, i.size, i.bytes)) = some (some (.int .u8 0), 1, 1) := by kernel_rfl
theorem inf_169 : (Tryz.prog.info? 169).map (fun i => (i.zero, i.size, i.bytes)) = some (some .nilFunc, 1, 8) := by kernel_rfl
theorem inf_17 : (Tryz.prog.info? 17).map (fun i => (i.zero, i.size, i.bytes)) = some (some (.pointer none), 1, 8) := by kernel_rfl
theorem inf_170 : (Tryz.prog.info? 170).map (fun i => (i.zero, i.size, i.bytes)) = some (some (.int .i32 0), 1, 4) := by kernel_rfl
theorem inf_171 : (Tryz.prog.info? 171).map (fun i => (i.zero, i.size, i.bytes)) = some (some (.int .i32 0), 1, 4) := by kernel_rfl
theorem inf_172 : (Tryz.prog.info? 172).map (fun i => (i.zero, i.size, i.bytes)) = some (some (.agg #[(.int .u64 0), (.int .u64 0), (.int .u32 0), (.int .u8 0), (.int .u8 0), (.int .u8 0), (.int .u8 0), .nilFunc, (.pointer none), (.int .i32 0), (.int .i32 0)]), 11, 48) := by kernel_rfl
theorem inf_173 : (Tryz.prog.info? 173).map (fun i => (i.zero, i.size, i.bytes)) = some (some (.agg #[(.int .u64 0), (.int .u64 0), (.int .u32 0), (.int .u8 0), (.int .u8 0), (.int .u8 0), (.int .u8 0), .nilFunc, (.pointer none), (.int .i32 0), (.int .i32 0)]), 11, 48) := by kernel_rfl
theorem inf_18 : (Tryz.prog.info? 18).map (fun i => (i.zero, i.size, i.bytes)) = some (some (.agg #[(.pointer none)]), 1, 8) := by kernel_rfl
theorem inf_19 : (Tryz.prog.info? 19).map (fun i => (i.zero, i.size, i.bytes)) = some (some (.agg #[(.pointer none)]), 1, 8) := by kernel_rfl
theorem inf_2 : (Tryz.prog.info? 2).map (fun i => (i.zero, i.size, i.bytes)) = some (some (.int .i64 0), 1, 8) := by kernel_rfl
theorem inf_21 : (Tryz.prog.info? 21).map (fun i => (i.zero, i.size, i.bytes)) = some (some (.int .i32 0), 1, 4) := by kernel_rfl
theorem inf_22 : (Tryz.prog.info? 22).map (fun i => (i.zero, i.size, i.bytes)) = some (some (.slice none 0 0), 1, 24) := by kernel_rfl
theorem inf_23 : (Tryz.prog.info? 23).map (fun i => (i.zero, i.size, i.bytes)) = some (some (.slice none 0 0), 1, 24) := by kernel_rfl
theorem inf_24 : (Tryz.prog.info? 24).map (fun i => (i.zero, i.size, i.bytes)) = some (some (.int .i64 0), 1, 8) := by kernel_rfl
theorem inf_26 : (Tryz.prog.info? 26).map (fun i => (i.zero, i.size, i.bytes)) = some (some .nilFunc, 1, 8) := by kernel_rfl
theorem inf_27 : (Tryz.prog.info? 27).map (fun i => (i.zero, i.size, i.bytes)) = some (some .nilFunc, 1, 8) := by kernel_rfl
theorem inf_28 : (Tryz.prog.info? 28).map (fun i => (i.zero, i.size, i.bytes)) = some (some .nilFunc, 1, 8) := by kernel_rfl
theorem inf_29 : (Tryz.prog.info? 29).map (fun i => (i.zero, i.size, i.bytes)) = some (some .nilFunc, 1, 8) := by kernel_rfl
theorem inf_3 : (Tryz.prog.info? 3).map (fun i => (i.zero, i.size, i.bytes)) = some (some (.int .i64 0), 1, 8) := by kernel_rfl
theorem inf_30 : (Tryz.prog.info? 30).map (fun i => (i.zero, i.size, i.bytes)) = some (some .nilFunc, 1, 8) := by kernel_rfl
theorem inf_31 : (Tryz.prog.info? 31).map (fun i => (i.zero, i.size, i.bytes)) = some (some .nilFunc, 1, 8) := by kernel_rfl
theorem inf_33 : (Tryz.prog.info? 33).map (fun i => (i.zero, i.size, i.bytes)) = some (some .nilFunc, 1, 8) := by kernel_rfl
theorem inf_34 : (Tryz.prog.info? 34).map (fun i => (i.zero, i.size, i.bytes)) = some (some .nilFunc, 1, 8) := by kernel_rfl
theorem inf_36 : (Tryz.prog.info? 36).map (fun i => (i.zero, i.size, i.bytes)) = some (some .nilFunc, 1, 8) := by kernel_rfl
theorem inf_38 : (Tryz.prog.info? 38).map (fun i => (i.zero, i.size, i.bytes)) = some (some .nilFunc, 1, 8) := by kernel_rfl
theorem inf_39 : (Tryz.prog.info? 39).map (fun i => (i.zero, i.size, i.bytes)) = some (some .nilFunc, 1, 8) := by kernel_rfl
theorem inf_4 : (Tryz.prog.info? 4).map (fun i => (i.zero, i.size, i.bytes)) = some (some (.bool false), 1, 1) := by kernel_rfl
theorem inf_40 : (Tryz.prog.info? 40).map (fun i => (i.zero, i.size, i.bytes)) = some (some .nilFunc, 1, 8) := by kernel_rfl
theorem inf_41 : (Tryz.prog.info? 41).map (fun i => (i.zero, i.size, i.bytes)) = some (some .nilFunc, 1, 8) := by kernel_rfl
theorem inf_42 : (Tryz.prog.info? 42).map (fun i => (i.zero, i.size, i.bytes)) = some (some .nilFunc, 1, 8) := by kernel_rfl
theorem inf_43 : (Tryz.prog.info? 43).map (fun i => (i.zero, i.size, i.bytes)) = some (some .nilFunc, 1, 8) := by kernel_rfl
theorem inf_44 : (Tryz.prog.info? 44).map (fun i => (i.zero, i.size, i.bytes)) = some (some .nilFunc, 1, 8) := by kernel_rfl
theorem inf_45 : (Tryz.prog.info? 45).map (fun i => (i.zero, i.size, i.bytes)) = some (some (.agg #[(.int .i64 0), (.int .i64 0), (.int .i64 0), (.int .i64 0)]), 4, 32) := by kernel_rfl
theorem inf_46 : (Tryz.prog.info? 46).map (fun i => (i.zero, i.size, i.bytes)) = some (some (.agg #[(.int .i64 0), (.int .i64 0), (.int .i64 0), (.int .i64 0)]), 4, 32) := by kernel_rfl
theorem inf_47 : (Tryz.prog.info? 47).map (fun i => (i.zero, i.size, i.bytes)) = some (some .nilFunc, 1, 8) := by kernel_rfl
theorem inf_48 : (Tryz.prog.info? 48).map (fun i => (i.zero, i.size, i.bytes)) = some (some (.pointer none), 1, 8) := by kernel_rfl
theorem inf_49 : (Tryz.prog.info? 49).map (fun i => (i.zero, i.size, i.bytes)) = some (some (.slice none 0 0), 1, 24) := by kernel_rfl
theorem inf_5 : (Tryz.prog.info? 5).map (fun i => (i.zero, i.size, i.bytes)) = some (some (.int .u8 0), 1, 1) := by kernel_rfl
theorem inf_50 : (Tryz.prog.info? 50).map (fun i => (i.zero, i.size, i.bytes)) = some (some (.agg #[(.pointer none), (.slice none 0 0)]), 2, 32) := by kernel_rfl
theorem inf_51 : (Tryz.prog.info? 51).map (fun i => (i.zero, i.size, i.bytes)) = some (some (.agg #[(.pointer none), (.slice none 0 0)]), 2, 32) := by kernel_rfl
theorem inf_52 : (Tryz.prog.info? 52).map (fun i => (i.zero, i.size, i.bytes)) = some (some .nilFunc, 1, 8) := by kernel_rfl
theorem inf_56 : (Tryz.prog.info? 56).map (fun i => (i.zero, i.size, i.bytes)) = some (some .nilFunc, 1, 8) := by kernel_rfl
theorem inf_57 : (Tryz.prog.info? 57).map (fun i => (i.zero, i.size, i.bytes)) = some (some .nilFunc, 1, 8) := by kernel_rfl
theorem inf_58 : (Tryz.prog.info? 58).map (fun i => (i.zero, i.size, i.bytes)) = some (some .nilFunc, 1, 8) := by kernel_rfl
theorem inf_59 : (Tryz.prog.info? 59).map (fun i => (i.zero, i.size, i.bytes)) = some (some .nilFunc, 1, 8) := by kernel_rfl
theorem inf_6 : (Tryz.prog.info? 6).map (fun i => (i.zero, i.size, i.bytes)) = some (some (.int .u8 0), 1, 1) := by kernel_rfl
theorem inf_60 : (Tryz.prog.info? 60).map (fun i => (i.zero, i.size, i.bytes)) = some (some .nilFunc, 1, 8) := by kernel_rfl
theorem inf_61 : (Tryz.prog.info? 61).map (fun i => (i.zero, i.size, i.bytes)) = some (some .nilFunc, 1, 8) := by kernel_rfl
theorem inf_62 : (Tryz.prog.info? 62).map (fun i => (i.zero, i.size, i.bytes)) = some (some .nilFunc, 1, 8) := by kernel_rfl
theorem inf_64 : (Tryz.prog.info? 64).map (fun i => (i.zero, i.size, i.bytes)) = some (some .nilFunc, 1, 8) := by kernel_rfl
theorem inf_65 : (Tryz.prog.info? 65).map (fun i => (i.zero, i.size, i.bytes)) = some (some .nilFunc, 1, 8) := by kernel_rfl
theorem inf_66 : (Tryz.prog.info? 66).map (fun i => (i.zero, i.size, i.bytes)) = some (some (.slice none 0 0), 1, 24) := by kernel_rfl
theorem inf_67 : (Tryz.prog.info? 67).map (fun i => (i.zero, i.size, i.bytes)) = some (some .nilFunc, 1, 8) := by kernel_rfl
theorem inf_69 : (Tryz.prog.info? 69).map (fun i => (i.zero, i.size, i.bytes)) = some (some .nilFunc, 1, 8) := by kernel_rfl
theorem inf_7 : (Tryz.prog.info? 7).map (fun i => (i.zero, i.size, i.bytes)) = some (some (.agg #[(.int .i64 0), (.int .i64 0), (.bool false), (.int .u8 0)]), 4, 24) := by kernel_rfl
theorem inf_70 : (Tryz.prog.info? 70).map (fun i => (i.zero, i.size, i.bytes)) = some (some .nilFunc, 1, 8) := by kernel_rfl
theorem inf_71 : (Tryz.prog.info? 71).map (fun i => (i.zero, i.size, i.bytes)) = some (some .nilFunc, 1, 8) := by kernel_rfl
theorem inf_73 : (Tryz.prog.info? 73).map (fun i => (i.zero, i.size, i.bytes)) = some (some .nilFunc, 1, 8) := by kernel_rfl
theorem inf_74 : (Tryz.prog.info? 74).map (fun i => (i.zero, i.size, i.bytes)) = some (some .nilFunc, 1, 8) := by kernel_rfl
theorem inf_75 : (Tryz.prog.info? 75).map (fun i => (i.zero, i.size, i.bytes)) = some (some (.agg #[(.string ⟨#[]⟩), (.string ⟨#[]⟩)]), 2, 32) := by kernel_rfl
theorem inf_76 : (Tryz.prog.info? 76).map (fun i => (i.zero, i.size, i.bytes)) = some (some (.agg #[(.string ⟨#[]⟩), (.string ⟨#[]⟩)]), 2, 32) := by kernel_rfl
theorem inf_78 : (Tryz.prog.info? 78).map (fun i => (i.zero, i.size, i.bytes)) = some (some .nilFunc, 1, 8) := by kernel_rfl
theorem inf_79 : (Tryz.prog.info? 79).map (fun i => (i.zero, i.size, i.bytes)) = some (some .nilFunc, 1, 8) := by kernel_rfl
theorem inf_8 : (Tryz.prog.info? 8).map (fun i => (i.zero, i.size, i.bytes)) = some (some (.agg #[(.int .i64 0), (.int .i64 0), (.bool false), (.int .u8 0)]), 4, 24) := by kernel_rfl
theorem inf_80 : (Tryz.prog.info? 80).map (fun i => (i.zero, i.size, i.bytes)) = some (some (.pointer none), 1, 8) := by kernel_rfl
theorem inf_81 : (Tryz.prog.info? 81).map (fun i => (i.zero, i.size, i.bytes)) = some (some .nilFunc, 1, 8) := by kernel_rfl
theorem inf_82 : (Tryz.prog.info? 82).map (fun i => (i.zero, i.size, i.bytes)) = some (some (.pointer none), 1, 8) := by kernel_rfl
theorem inf_83 : (Tryz.prog.info? 83).map (fun i => (i.zero, i.size, i.bytes)) = some (some .nilFunc, 1, 8) := by kernel_rfl
theorem inf_84 : (Tryz.prog.info? 84).map (fun i => (i.zero, i.size, i.bytes)) = some (some .nilFunc, 1, 8) := by kernel_rfl
theorem inf_85 : (Tryz.prog.info? 85).map (fun i => (i.zero, i.size, i.bytes)) = some (some (.pointer none), 1, 8) := by kernel_rfl
theorem inf_86 : (Tryz.prog.info? 86).map (fun i => (i.zero, i.size, i.bytes)) = some (some .nilFunc, 1, 8) := by kernel_rfl
theorem inf_87 : (Tryz.prog.info? 87).map (fun i => (i.zero, i.size, i.bytes)) = some (some .nilFunc, 1, 8) := by kernel_rfl
theorem inf_88 : (Tryz.prog.info? 88).map (fun i => (i.zero, i.size, i.bytes)) = some (some .nilFunc, 1, 8) := by kernel_rfl
theorem inf_89 : (Tryz.prog.info? 89).map (fun i => (i.zero, i.size, i.bytes)) = some (some .nilFunc, 1, 8) := by kernel_rfl
theorem inf_9 : (Tryz.prog.info? 9).map (fun i => (i.zero, i.size, i.bytes)) = some (some (.string ⟨#[]⟩), 1, 16) := by kernel_rfl
theorem inf_90 : (Tryz.prog.info? 90).map (fun i => (i.zero, i.size, i.bytes)) = some (some (.agg #[(.string ⟨#[]⟩), (.string ⟨#[]⟩), (.string ⟨#[]⟩), (.string ⟨#[]⟩), (.string ⟨#[]⟩), (.string ⟨#[]⟩), (.string ⟨#[]⟩), (.string ⟨#[]⟩), (.string ⟨#[]⟩), (.string ⟨#[]⟩), (.string ⟨#[]⟩), (.string ⟨#[]⟩), (.string ⟨#[]⟩), (.string ⟨#[]⟩), (.string ⟨#[]⟩), (.string ⟨#[]⟩), (.string ⟨#[]⟩), (.string ⟨#[]⟩), (.string ⟨#[]⟩), (.string ⟨#[]⟩), (.string ⟨#[]⟩), (.string ⟨#[]⟩), (.string ⟨#[]⟩), (.string ⟨#[]⟩), (.string ⟨#[]⟩), (.string ⟨#[]⟩), (.string ⟨#[]⟩), (.string ⟨#[]⟩), (.string ⟨#[]⟩), (.string ⟨#[]⟩), (.string ⟨#[]⟩), (.string ⟨#[]⟩)]), 32, 512) := by kernel_rfl
theorem inf_91 : (Tryz.prog.info? 91).map (fun i => (i.zero, i.size, i.bytes)) = some (some .nilFunc, 1, 8) := by kernel_rfl
theorem inf_92 : (Tryz.prog.info? 92).map (fun i => (i.zero, i.size, i.bytes)) = some (some .nilFunc, 1, 8) := by kernel_rfl
theorem inf_93 : (Tryz.prog.info? 93).map (fun i => (i.zero, i.size, i.bytes)) = some (some .nilFunc, 1, 8) := by kernel_rfl
theorem inf_94 : (Tryz.prog.info? 94).map (fun i => (i.zero, i.size, i.bytes)) = some (some .nilFunc, 1, 8) := by kernel_rfl
theorem inf_95 : (Tryz.prog.info? 95).map (fun i => (i.zero, i.size, i.bytes)) = some (some .nilFunc, 1, 8) := by kernel_rfl
theorem inf_96 : (Tryz.prog.info? 96).map (fun i => (i.zero, i.size, i.bytes)) = some (some (.int .u64 0), 1, 8) := by kernel_rfl
theorem inf_97 : (Tryz.prog.info? 97).map (fun i => (i.zero, i.size, i.bytes)) = some (some .nilFunc, 1, 8) := by kernel_rfl
theorem inf_99 : (Tryz.prog.info? 99).map (fun i => (i.zero, i.size, i.bytes)) = some (some .nilFunc, 1, 8) := by kernel_rfl
theorem mixed_ok : Tryz.prog.follows .mixedOrders = true := by kernel_rfl
theorem sz_1 : (Tryz.prog.info? 1).map (·.size) = some 1 := by kernel_rfl
theorem sz_10 : (Tryz.prog.info? 10).map (·.size) = some 1 := by kernel_rfl
theorem sz_100 : (Tryz.prog.info? 100).map (·.size) = some 1 := by kernel_rfl
theorem sz_101 : (Tryz.prog.info? 101).map (·.size) = some 1 := by kernel_rfl
theorem sz_102 : (Tryz.prog.info? 102).map (·.size) = some 1 := by kernel_rfl
theorem sz_103 : (Tryz.prog.info? 103).map (·.size) = some 1 := by kernel_rfl
theorem sz_105 : (Tryz.prog.info? 105).map (·.size) = some 1 := by kernel_rfl
theorem sz_106 : (Tryz.prog.info? 106).map (·.size) = some 1 := by kernel_rfl
theorem sz_107 : (Tryz.prog.info? 107).map (·.size) = some 1 := by kernel_rfl
theorem sz_108 : (Tryz.prog.info? 108).map (·.size) = some 1 := by kernel_rfl
theorem sz_11 : (Tryz.prog.info? 11).map (·.size) = some 1 := by kernel_rfl
theorem sz_110 : (Tryz.prog.info? 110).map (·.size) = some 1 := by kernel_rfl
theorem sz_111 : (Tryz.prog.info? 111).map (·.size) = some 1 := by kernel_rfl
theorem sz_112 : (Tryz.prog.info? 112).map (·.size) = some 1 := by kernel_rfl
theorem sz_113 : (Tryz.prog.info? 113).map (·.size) = some 1 := by kernel_rfl
theorem sz_114 : (Tryz.prog.info? 114).map (·.size) = some 1 := by kernel_rfl
theorem sz_115 : (Tryz.prog.info? 115).map (·.size) = some 1 := by kernel_rfl
theorem sz_116 : (Tryz.prog.info? 116).map (·.size) = some 1 := by kernel_rfl
theorem sz_117 : (Tryz.prog.info? 117).map (·.size) = some 1 := by kernel_rfl
theorem sz_118 : (Tryz.prog.info? 118).map (·.size) = some 1 := by kernel_rfl
theorem sz_12 : (Tryz.prog.info? 12).map (·.size) = some 1 := by kernel_rfl
theorem sz_120 : (Tryz.prog.info? 120).map (·.size) = some 1 := by kernel_rfl
theorem sz_121 : (Tryz.prog.info? 121).map (·.size) = some 1 := by kernel_rfl
theorem sz_122 : (Tryz.prog.info? 122).map (·.size) = some 1 := by kernel_rfl
theorem sz_123 : (Tryz.prog.info? 123).map (·.size) = some 1 := by kernel_rfl
theorem sz_124 : (Tryz.prog.info? 124).map (·.size) = some 1 := by kernel_rfl
theorem sz_125 : (Tryz.prog.info? 125).map (·.size) = some 1 := by kernel_rfl
theorem sz_126 : (Tryz.prog.info? 126).map (·.size) = some 1 := by kernel_rfl
theorem sz_127 : (Tryz.prog.info? 127).map (·.size) = some 1 := by kernel_rfl
theorem sz_128 : (Tryz.prog.info? 128).map (·.size) = some 1 := by kernel_rfl
theorem sz_129 : (Tryz.prog.info? 129).map (·.size) = some 24 := by kernel_rfl
theorem sz_13 : (Tryz.prog.info? 13).map (·.size) = some 2 := by kernel_rfl
theorem sz_130 : (Tryz.prog.info? 130).map (·.size) = some 1 := by kernel_rfl
theorem sz_132 : (Tryz.prog.info? 132).map (·.size) = some 1 := by kernel_rfl
theorem sz_133 : (Tryz.prog.info? 133).map (·.size) = some 1 := by kernel_rfl
theorem sz_135 : (Tryz.prog.info? 135).map (·.size) = some 1 := by kernel_rfl
theorem sz_137 : (Tryz.prog.info? 137).map (·.size) = some 1 := by kernel_rfl
theorem sz_138 : (Tryz.prog.info? 138).map (·.size) = some 1 := by kernel_rfl
theorem sz_139 : (Tryz.prog.info? 139).map (·.size) = some 3 := by kernel_rfl
theorem sz_14 : (Tryz.prog.info? 14).map (·.size) = some 2 := by kernel_rfl
theorem sz_140 : (Tryz.prog.info? 140).map (·.size) = some 3 := by kernel_rfl
theorem sz_141 : (Tryz.prog.info? 141).map (·.size) = some 1 := by kernel_rfl
theorem sz_142 : (Tryz.prog.info? 142).map (·.size) = some 1 := by kernel_rfl
theorem sz_144 : (Tryz.prog.info? 144).map (·.size) = some 1 := by kernel_rfl
theorem sz_145 : (Tryz.prog.info? 145).map (·.size) = some 1 := by kernel_rfl
theorem sz_146 : (Tryz.prog.info? 146).map (·.size) = some 1 := by kernel_rfl
theorem sz_147 : (Tryz.prog.info? 147).map (·.size) = some 20 := by kernel_rfl
theorem sz_148 : (Tryz.prog.info? 148).map (·.size) = some 65 := by kernel_rfl
theorem sz_149 : (Tryz.prog.info? 149).map (·.size) = some 1 := by kernel_rfl
theorem sz_15 : (Tryz.prog.info? 15).map (·.size) = some 1 := by kernel_rfl
theorem sz_150 : (Tryz.prog.info? 150).map (·.size) = some 1 := by kernel_rfl
theorem sz_151 : (Tryz.prog.info? 151).map (·.size) = some 1 := by kernel_rfl
theorem sz_152 : (Tryz.prog.info? 152).map (·.size) = some 1 := by kernel_rfl
theorem sz_153 : (Tryz.prog.info? 153).map (·.size) = some 256 := by kernel_rfl
theorem sz_154 : (Tryz.prog.info? 154).map (·.size) = some 2 := by kernel_rfl
theorem sz_155 : (Tryz.prog.info? 155).map (·.size) = some 2 := by kernel_rfl
theorem sz_156 : (Tryz.prog.info? 156).map (·.size) = some 32 := by kernel_rfl
theorem sz_158 : (Tryz.prog.info? 158).map (·.size) = some 1 := by kernel_rfl
theorem sz_159 : (Tryz.prog.info? 159).map (·.size) = some 32 := by kernel_rfl
theorem sz_16 : (Tryz.prog.info? 16).map (·.size) = some 1 := by kernel_rfl
theorem sz_160 : (Tryz.prog.info? 160).map (·.size) = some 64 := by kernel_rfl
theorem sz_161 : (Tryz.prog.info? 161).map (·.size) = some 4 := by kernel_rfl
theorem sz_162 : (Tryz.prog.info? 162).map (·.size) = some 4 := by kernel_rfl
theorem sz_166 : (Tryz.prog.info? 166).map (·.size) = some 1 := by kernel_rfl
theorem sz_167 : (Tryz.prog.info? 167).map (·.size) = some 1 := by kernel_rfl
theorem sz_168 : (Tryz.prog.info? 168).map (·.size) = some 1 := by kernel_rfl
theorem sz_169 : (Tryz.prog.info? 169).map (·.size) = some 1 := by kernel_rfl
theorem sz_17 : (Tryz.prog.info? 17).map (·.size) = some 1 := by kernel_rfl
theorem sz_170 : (Tryz.prog.info? 170).map (·.size) = some 1 := by kernel_rfl
theorem sz_171 : (Tryz.prog.info? 171).map (·.size) = some 1 := by kernel_rfl
theorem sz_172 : (Tryz.prog.info? 172).map (·.size) = some 11 := by kernel_rfl
theorem sz_173 : (Tryz.prog.info? 173).map (·.size) = some 11 := by kernel_rfl
theorem sz_18 : (Tryz.prog.info? 18).map (·.size) = some 1 := by kernel_rfl
theorem sz_19 : (Tryz.prog.info? 19).map (·.size) = some 1 := by kernel_rfl
theorem sz_2 : (Tryz.prog.info? 2).map (·.size) = some 1 := by kernel_rfl
theorem sz_21 : (Tryz.prog.info? 21).map (·.size) = some 1 := by kernel_rfl
theorem sz_22 : (Tryz.prog.info? 22).map (·.size) = some 1 := by kernel_rfl
theorem sz_23 : (Tryz.prog.info? 23).map (·.size) = some 1 := by kernel_rfl
theorem sz_24 : (Tryz.prog.info? 24).map (·.size) = some 1 := by kernel_rfl
theorem sz_26 : (Tryz.prog.info? 26).map (·.size) = some 1 := by kernel_rfl
theorem sz_27 : (Tryz.prog.info? 27).map (·.size) = some 1 := by kernel_rfl
theorem sz_28 : (Tryz.prog.info? 28).map (·.size) = some 1 := by kernel_rfl
theorem sz_29 : (Tryz.prog.info? 29).map (·.size) = some 1 := by kernel_rfl
theorem sz_3 : (Tryz.prog.info? 3).map (·.size) = some 1 := by kernel_rfl
theorem sz_30 : (Tryz.prog.info? 30).map (·.size) = some 1 := by kernel_rfl
theorem sz_31 : (Tryz.prog.info? 31).map (·.size) = some 1 := by kernel_rfl
theorem sz_33 : (Tryz.prog.info? 33).map (·.size) = some 1 := by kernel_rfl
theorem sz_34 : (Tryz.prog.info? 34).map (·.size) = some 1 := by kernel_rfl
theorem sz_36 : (Tryz.prog.info? 36).map (·.size) = some 1 := by kernel_rfl
theorem sz_38 : (Tryz.prog.info? 38).map (·.size) = some 1 := by kernel_rfl
theorem sz_39 : (Tryz.prog.info? 39).map (·.size) = some 1 := by kernel_rfl
theorem sz_4 : (Tryz.prog.info? 4).map (·.size) = some 1 := by kernel_rfl
theorem sz_40 : (Tryz.prog.info? 40).map (·.size) = some 1 := by kernel_rfl
theorem sz_41 : (Tryz.prog.info? 41).map (·.size) = some 1 := by kernel_rfl
theorem sz_42 : (Tryz.prog.info? 42).map (·.size) = some 1 := by kernel_rfl
theorem sz_43 : (Tryz.prog.info? 43).map (·.size) = some 1 := by kernel_rfl
theorem sz_44 : (Tryz.prog.info? 44).map (·.size) = some 1 := by kernel_rfl
theorem sz_45 : (Tryz.prog.info? 45).map (·.size) = some 4 := by kernel_rfl
theorem sz_46 : (Tryz.prog.info? 46).map (·.size) = some 4 := by kernel_rfl
theorem sz_47 : (Tryz.prog.info? 47).map (·.size) = some 1 := by kernel_rfl
theorem sz_48 : (Tryz.prog.info? 48).map (·.size) = some 1 := by kernel_rfl
theorem sz_49 : (Tryz.prog.info? 49).map (·.size) = some 1 := by kernel_rfl
theorem sz_5 : (Tryz.prog.info? 5).map (·.size) = some 1 := by kernel_rfl
theorem sz_50 : (Tryz.prog.info? 50).map (·.size) = some 2 := by kernel_rfl
theorem sz_51 : (Tryz.prog.info? 51).map (·.size) = some 2 := by kernel_rfl
theorem sz_52 : (Tryz.prog.info? 52).map (·.size) = some 1 := by kernel_rfl
theorem sz_56 : (Tryz.prog.info? 56).map (·.size) = some 1 := by kernel_rfl
theorem sz_57 : (Tryz.prog.info? 57).map (·.size) = some 1 := by kernel_rfl
theorem sz_58 : (Tryz.prog.info? 58).map (·.size) = some 1 := by kernel_rfl
theorem sz_59 : (Tryz.prog.info? 59).map (·.size) = some 1 := by kernel_rfl
theorem sz_6 : (Tryz.prog.info? 6).map (·.size) = some 1 := by kernel_rfl
theorem sz_60 : (Tryz.prog.info? 60).map (·.size) = some 1 := by kernel_rfl
theorem sz_61 : (Tryz.prog.info? 61).map (·.size) = some 1 := by kernel_rfl
theorem sz_62 : (Tryz.prog.info? 62).map (·.size) = some 1 := by kernel_rfl
theorem sz_64 : (Tryz.prog.info? 64).map (·.size) = some 1 := by kernel_rfl
theorem sz_65 : (Tryz.prog.info? 65).map (·.size) = some 1 := by kernel_rfl
theorem sz_66 : (Tryz.prog.info? 66).map (·.size) = some 1 := by kernel_rfl
theorem sz_67 : (Tryz.prog.info? 67).map (·.size) = some 1 := by kernel_rfl
theorem sz_69 : (Tryz.prog.info? 69).map (·.size) = some 1 := by kernel_rfl
theorem sz_7 : (Tryz.prog.info? 7).map (·.size) = some 4 := by kernel_rfl
theorem sz_70 : (Tryz.prog.info? 70).map (·.size) = some 1 := by kernel_rfl
theorem sz_71 : (Tryz.prog.info? 71).map (·.size) = some 1 := by kernel_rfl
theorem sz_73 : (Tryz.prog.info? 73).map (·.size) = some 1 := by kernel_rfl
theorem sz_74 : (Tryz.prog.info? 74).map (·.size) = some 1 := by kernel_rfl
theorem sz_75 : (Tryz.prog.info? 75).map (·.size) = some 2 := by kernel_rfl
theorem sz_76 : (Tryz.prog.info? 76).map (·.size) = some 2 := by kernel_rfl
theorem sz_78 : (Tryz.prog.info? 78).map (·.size) = some 1 := by kernel_rfl
theorem sz_79 : (Tryz.prog.info? 79).map (·.size) = some 1 := by kernel_rfl
theorem sz_8 : (Tryz.prog.info? 8).map (·.size) = some 4 := by kernel_rfl
theorem sz_80 : (Tryz.prog.info? 80).map (·.size) = some 1 := by kernel_rfl
theorem sz_81 : (Tryz.prog.info? 81).map (·.size) = some 1 := by kernel_rfl
theorem sz_82 : (Tryz.prog.info? 82).map (·.size) = some 1 := by kernel_rfl
theorem sz_83 : (Tryz.prog.info? 83).map (·.size) = some 1 := by kernel_rfl
theorem sz_84 : (Tryz.prog.info? 84).map (·.size) = some 1 := by kernel_rfl
theorem sz_85 : (Tryz.prog.info? 85).map (·.size) = some 1 := by kernel_rfl
theorem sz_86 : (Tryz.prog.info? 86).map (·.size) = some 1 := by kernel_rfl
theorem sz_87 : (Tryz.prog.info? 87).map (·.size) = some 1 := by kernel_rfl
theorem sz_88 : (Tryz.prog.info? 88).map (·.size) = some 1 := by kernel_rfl
theorem sz_89 : (Tryz.prog.info? 89).map (·.size) = some 1 := by kernel_rfl
theorem sz_9 : (Tryz.prog.info? 9).map (·.size) = some 1 := by kernel_rfl
theorem sz_90 : (Tryz.prog.info? 90).map (·.size) = some 32 := by kernel_rfl
theorem sz_91 : (Tryz.prog.info? 91).map (·.size) = some 1 := by kernel_rfl
theorem sz_92 : (Tryz.prog.info? 92).map (·.size) = some 1 := by kernel_rfl
theorem sz_93 : (Tryz.prog.info? 93).map (·.size) = some 1 := by kernel_rfl
theorem sz_94 : (Tryz.prog.info? 94).map (·.size) = some 1 := by kernel_rfl
theorem sz_95 : (Tryz.prog.info? 95).map (·.size) = some 1 := by kernel_rfl
theorem sz_96 : (Tryz.prog.info? 96).map (·.size) = some 1 := by kernel_rfl
theorem sz_97 : (Tryz.prog.info? 97).map (·.size) = some 1 := by kernel_rfl
theorem sz_99 : (Tryz.prog.info? 99).map (·.size) = some 1 := by kernel_rfl
theorem ze_1 : (Tryz.prog.info? 1).map (·.zero) = some (some .nilFunc) := by kernel_rfl
theorem ze_10 : (Tryz.prog.info? 10).map (·.zero) = some (some (.string ⟨#[]⟩)) := by kernel_rfl
theorem ze_100 : (Tryz.prog.info? 100).map (·.zero) = some (some .nilFunc) := by kernel_rfl
theorem ze_101 : (Tryz.prog.info? 101).map (·.zero) = some (some .nilFunc) := by kernel_rfl
theorem ze_102 : (Tryz.prog.info? 102).map (·.zero) = some (some .nilFunc) := by kernel_rfl
theorem ze_103 : (Tryz.prog.info? 103).map (·.zero) = some (some (.int .i64 0)) := by kernel_rfl
theorem ze_105 : (Tryz.prog.info? 105).map (·.zero) = some (some .nilFunc) := by kernel_rfl
theorem ze_106 : (Tryz.prog.info? 106).map (·.zero) = some (some .nilFunc) := by kernel_rfl
theorem ze_107 : (Tryz.prog.info? 107).map (·.zero) = some (some .nilFunc) := by kernel_rfl
theorem ze_108 : (Tryz.prog.info? 108).map (·.zero) = some (some .nilFunc) := by kernel_rfl
theorem ze_11 : (Tryz.prog.info? 11).map (·.zero) = some (some (.string ⟨#[]⟩)) := by kernel_rfl
theorem ze_110 : (Tryz.prog.info? 110).map (·.zero) = some (some .nilFunc) := by kernel_rfl
theorem ze_111 : (Tryz.prog.info? 111).map (·.zero) = some (some .nilFunc) := by kernel_rfl
theorem ze_112 : (Tryz.prog.info? 112).map (·.zero) = some (some (.int .u32 0)) := by kernel_rfl
theorem ze_113 : (Tryz.prog.info? 113).map (·.zero) = some (some .nilFunc) := by kernel_rfl
theorem ze_114 : (Tryz.prog.info? 114).map (·.zero) = some (some (.int .u64 0)) := by kernel_rfl
theorem ze_115 : (Tryz.prog.info? 115).map (·.zero) = some (some .nilFunc) := by kernel_rfl
theorem ze_116 : (Tryz.prog.info? 116).map (·.zero) = some (some .nilFunc) := by kernel_rfl
theorem ze_117 : (Tryz.prog.info? 117).map (·.zero) = some (some .nilFunc) := by kernel_rfl
theorem ze_118 : (Tryz.prog.info? 118).map (·.zero) = some (some (.int .i64 0)) := by kernel_rfl
theorem ze_12 : (Tryz.prog.info? 12).map (·.zero) = some (some (.int .u64 0)) := by kernel_rfl
theorem ze_120 : (Tryz.prog.info? 120).map (·.zero) = some (some .nilFunc) := by kernel_rfl
theorem ze_121 : (Tryz.prog.info? 121).map (·.zero) = some (some (.pointer none)) := by kernel_rfl
theorem ze_122 : (Tryz.prog.info? 122).map (·.zero) = some (some .nilFunc) := by kernel_rfl
theorem ze_123 : (Tryz.prog.info? 123).map (·.zero) = some (some .nilFunc) := by kernel_rfl
theorem ze_124 : (Tryz.prog.info? 124).map (·.zero) = some (some (.int .u64 0)) := by kernel_rfl
theorem ze_125 : (Tryz.prog.info? 125).map (·.zero) = some (some .nilFunc) := by kernel_rfl
theorem ze_126 : (Tryz.prog.info? 126).map (·.zero) = some (some .nilFunc) := by kernel_rfl
theorem ze_127 : (Tryz.prog.info? 127).map (·.zero) = some (some .nilFunc) := by kernel_rfl
theorem ze_128 : (Tryz.prog.info? 128).map (·.zero) = some (some .nilFunc) := by kernel_rfl
theorem ze_129 : (Tryz.prog.info? 129).map (·.zero) = some (some (.agg #[(.int .u8 0), (.int .u8 0), (.int .u8 0), (.int .u8 0), (.int .u8 0), (.int .u8 0), (.int .u8 0), (.int .u8 0), (.int .u8 0), (.int .u8 0), (.int .u8 0), (.int .u8 0), (.int .u8 0), (.int .u8 0), (.int .u8 0), (.int .u8 0), (.int .u8 0), (.int .u8 0), (.int .u8 0), (.int .u8 0), (.int .u8 0), (.int .u8 0), (.int .u8 0), (.int .u8 0)])) := by kernel_rfl
theorem ze_13 : (Tryz.prog.info? 13).map (·.zero) = some (some (.agg #[(.string ⟨#[]⟩), (.int .u64 0)])) := by kernel_rfl
theorem ze_130 : (Tryz.prog.info? 130).map (·.zero) = some (some .nilFunc) := by kernel_rfl
theorem ze_132 : (Tryz.prog.info? 132).map (·.zero) = some (some .nilFunc) := by kernel_rfl
theorem ze_133 : (Tryz.prog.info? 133).map (·.zero) = some (some .nilFunc) := by kernel_rfl
theorem ze_135 : (Tryz.prog.info? 135).map (·.zero) = some (some .nilFunc) := by kernel_rfl
theorem ze_137 : (Tryz.prog.info? 137).map (·.zero) = some (some .nilFunc) := by kernel_rfl
theorem ze_138 : (Tryz.prog.info? 138).map (·.zero) = some (some .nilFunc) := by kernel_rfl
theorem ze_139 : (Tryz.prog.info? 139).map (·.zero) = some (some (.agg #[(.string ⟨#[]⟩), (.string ⟨#[]⟩), .nilIface])) := by kernel_rfl
theorem ze_14 : (Tryz.prog.info? 14).map (·.zero) = some (some (.agg #[(.string ⟨#[]⟩), (.int .u64 0)])) := by kernel_rfl
theorem ze_140 : (Tryz.prog.info? 140).map (·.zero) = some (some (.agg #[(.string ⟨#[]⟩), (.string ⟨#[]⟩), .nilIface])) := by kernel_rfl
theorem ze_141 : (Tryz.prog.info? 141).map (·.zero) = some (some .nilFunc) := by kernel_rfl
theorem ze_142 : (Tryz.prog.info? 142).map (·.zero) = some (some (.pointer none)) := by kernel_rfl
theorem ze_144 : (Tryz.prog.info? 144).map (·.zero) = some (some .nilFunc) := by kernel_rfl
theorem ze_145 : (Tryz.prog.info? 145).map (·.zero) = some (some .nilFunc) := by kernel_rfl
theorem ze_146 : (Tryz.prog.info? 146).map (·.zero) = some (some .nilFunc) := by kernel_rfl
theorem ze_147 : (Tryz.prog.info? 147).map (·.zero) = some (some (.agg #[(.int .u64 0), (.int .u64 0), (.int .u64 0), (.int .u64 0), (.int .u64 0), (.int .u64 0), (.int .u64 0), (.int .u64 0), (.int .u64 0), (.int .u64 0), (.int .u64 0), (.int .u64 0), (.int .u64 0), (.int .u64 0), (.int .u64 0), (.int .u64 0), (.int .u64 0), (.int .u64 0), (.int .u64 0), (.int .u64 0)])) := by kernel_rfl
theorem ze_148 : (Tryz.prog.info? 148).map (·.zero) = some (some (.agg #[(.int .u8 0), (.int .u8 0), (.int .u8 0), (.int .u8 0), (.int .u8 0), (.int .u8 0), (.int .u8 0), (.int .u8 0), (.int .u8 0), (.int .u8 0), (.int .u8 0), (.int .u8 0), (.int .u8 0), (.int .u8 0), (.int .u8 0), (.int .u8 0), (.int .u8 0), (.int .u8 0), (.int .u8 0), (.int .u8 0), (.int .u8 0), (.int .u8 0), (.int .u8 0), (.int .u8 0), (.int .u8 0), (.int .u8 0), (.int .u8 0), (.int .u8 0), (.int .u8 0), (.int .u8 0), (.int .u8 0), (.int .u8 0), (.int .u8 0), (.int .u8 0), (.int .u8 0), (.int .u8 0), (.int .u8 0), (.int .u8 0), (.int .u8 0), (.int .u8 0), (.int .u8 0), (.int .u8 0), (.int .u8 0), (.int .u8 0), (.int .u8 0), (.int .u8 0), (.int .u8 0), (.int .u8 0), (.int .u8 0), (.int .u8 0), (.int .u8 0), (.int .u8 0), (.int .u8 0), (.int .u8 0), (.int .u8 0), (.int .u8 0), (.int .u8 0), (.int .u8 0), (.int .u8 0), (.int .u8 0), (.int .u8 0), (.int .u8 0), (.int .u8 0), (.int .u8 0), (.int .u8 0)])) := by kernel_rfl
theorem ze_149 : (Tryz.prog.info? 149).map (·.zero) = some (some .nilFunc) := by kernel_rfl
theorem ze_15 : (Tryz.prog.info? 15).map (·.zero) = some (some (.pointer none)) := by kernel_rfl
theorem ze_150 : (Tryz.prog.info? 150).map (·.zero) = some (some (.pointer none)) := by kernel_rfl
theorem ze_151 : (Tryz.prog.info? 151).map (·.zero) = some (some (.agg #[(.string ⟨#[]⟩)])) := by kernel_rfl
theorem ze_152 : (Tryz.prog.info? 152).map (·.zero) = some (some (.agg #[(.string ⟨#[]⟩)])) := by kernel_rfl
theorem ze_153 : (Tryz.prog.info? 153).map (·.zero) = some (some (.agg #[(.int .u8 0), (.int .u8 0), (.int .u8 0), (.int .u8 0), (.int .u8 0), (.int .u8 0), (.int .u8 0), (.int .u8 0), (.int .u8 0), (.int .u8 0), (.int .u8 0), (.int .u8 0), (.int .u8 0), (.int .u8 0), (.int .u8 0), (.int .u8 0), (.int .u8 0), (.int .u8 0), (.int .u8 0), (.int .u8 0), (.int .u8 0), (.int .u8 0), (.int .u8 0), (.int .u8 0), (.int .u8 0), (.int .u8 0), (.int .u8 0), (.int .u8 0), (.int .u8 0), (.int .u8 0), (.int .u8 0), (.int .u8 0), (.int .u8 0), (.int .u8 0), (.int .u8 0), (.int .u8 0), (.int .u8 0), (.int .u8 0), (.int .u8 0), (.int .u8 0), (.int .u8 0), (.int .u8 0), (.int .u8 0), (.int .u8 0), (.int .u8 0), (.int .u8 0), (.int .u8 0), (.int .u8 0), (.int .u8 0), (.int .u8 0), (.int .u8 0), (.int .u8 0), (.int .u8 0), (.int .u8 0), (.int .u8 0), (.int .u8 0), (.int .u8 0), (.int .u8 0), (.int .u8 0), (.int .u8 0), (.int .u8 0), (.int .u8 0), (.int .u8 0), (.int .u8 0), (.int .u8 0), (.int .u8 0), (.int .u8 0), (.int .u8 0), (.int .u8 0), (.int .u8 0), (.int .u8 0), (.int .u8 0), (.int .u8 0), (.int .u8 0), (.int .u8 0), (.int .u8 0), (.int .u8 0), (.int .u8 0), (.int .u8 0), (.int .u8 0), (.int .u8 0), (.int .u8 0), (.int .u8 0), (.int .u8 0), (.int .u8 0), (.int .u8 0), (.int .u8 0), (.int .u8 0), (.int .u8 0), (.int .u8 0), (.int .u8 0), (.int .u8 0), (.int .u8 0), (.int .u8 0), (.int .u8 0), (.int .u8 0), (.int .u8 0), (.int .u8 0), (.int .u8 0), (.int .u8 0), (.int .u8 0), (.int .u8 0), (.int .u8 0), (.int .u8 0), (.int .u8 0), (.int .u8 0), (.int .u8 0), (.int .u8 0), (.int .u8 0), (.int .u8 0), (.int .u8 0), (.int .u8 0), (.int .u8 0), (.int .u8 0), (.int .u8 0), (.int .u8 0), (.int .u8 0), (.int .u8 0), (.int .u8 0), (.int .u8 0), (.int .u8 0), (.int .u8 0), (.int .u8 0), (.int .u8 0), (.int .u8 0), (.int .u8 0), (.int .u8 0), (.int .u8 0), (.int .u8 0), (.int .u8 0), (.int .u8 0), (.int .u8 0), (.int .u8 0), (.int .u8 0), (.int .u8 0), (.int .u8 0), (.int .u8 0), (.int .u8 0), (.int .u8 0), (.int .u8 0), (.int .u8 0), (.int .u8 0), (.int .u8 0), (.int .u8 0), (.int .u8 0), (.int .u8 0), (.int .u8 0), (.int .u8 0), (.int .u8 0), (.int .u8 0), (.int .u8 0), (.int .u8 0), (.int .u8 0), (.int .u8 0), (.int .u8 0), (.int .u8 0), (.int .u8 0), (.int .u8 0), (.int .u8 0), (.int .u8 0), (.int .u8 0), (.int .u8 0), (.int .u8 0), (.int .u8 0), (.int .u8 0), (.int .u8 0), (.int .u8 0), (.int .u8 0), (.int .u8 0), (.int .u8 0), (.int .u8 0), (.int .u8 0), (.int .u8 0), (.int .u8 0), (.int .u8 0), (.int .u8 0), (.int .u8 0), (.int .u8 0), (.int .u8 0), (.int .u8 0), (.int .u8 0), (.int .u8 0), (.int .u8 0), (.int .u8 0), (.int .u8 0), (.int .u8 0), (.int .u8 0), (.int .u8 0), (.int .u8 0), (.int .u8 0), (.int .u8 0), (.int .u8 0), (.int .u8 0), (.int .u8 0), (.int .u8 0), (.int .u8 0), (.int .u8 0), (.int .u8 0), (.int .u8 0), (.int .u8 0), (.int .u8 0), (.int .u8 0), (.int .u8 0), (.int .u8 0), (.int .u8 0), (.int .u8 0), (.int .u8 0), (.int .u8 0), (.int .u8 0), (.int .u8 0), (.int .u8 0), (.int .u8 0), (.int .u8 0), (.int .u8 0), (.int .u8 0), (.int .u8 0), (.int .u8 0), (.int .u8 0), (.int .u8 0), (.int .u8 0), (.int .u8 0), (.int .u8 0), (.int .u8 0), (.int .u8 0), (.int .u8 0), (.int .u8 0), (.int .u8 0), (.int .u8 0), (.int .u8 0), (.int .u8 0), (.int .u8 0), (.int .u8 0), (.int .u8 0), (.int .u8 0), (.int .u8 0), (.int .u8 0), (.int .u8 0), (.int .u8 0), (.int .u8 0), (.int .u8 0), (.int .u8 0), (.int .u8 0), (.int .u8 0), (.int .u8 0), (.int .u8 0), (.int .u8 0), (.int .u8 0), (.int .u8 0), (.int .u8 0), (.int .u8 0), (.int .u8 0), (.int .u8 0), (.int .u8 0), (.int .u8 0), (.int .u8 0), (.int .u8 0)])) := by kernel_rfl
theorem ze_154 : (Tryz.prog.info? 154).map (·.zero) = some (some (.agg #[(.int .u8 0), (.int .u8 0)])) := by kernel_rfl
theorem ze_155 : (Tryz.prog.info? 155).map (·.zero) = some (some (.agg #[(.int .u8 0), (.int .u8 0)])) := by kernel_rfl
theorem ze_156 : (Tryz.prog.info? 156).map (·.zero) = some (some (.agg #[(.int .u8 0), (.int .u8 0), (.int .u8 0), (.int .u8 0), (.int .u8 0), (.int .u8 0), (.int .u8 0), (.int .u8 0), (.int .u8 0), (.int .u8 0), (.int .u8 0), (.int .u8 0), (.int .u8 0), (.int .u8 0), (.int .u8 0), (.int .u8 0), (.int .u8 0), (.int .u8 0), (.int .u8 0), (.int .u8 0), (.int .u8 0), (.int .u8 0), (.int .u8 0), (.int .u8 0), (.int .u8 0), (.int .u8 0), (.int .u8 0), (.int .u8 0), (.int .u8 0), (.int .u8 0), (.int .u8 0), (.int .u8 0)])) := by kernel_rfl
theorem ze_158 : (Tryz.prog.info? 158).map (·.zero) = some (some .nilFunc) := by kernel_rfl
theorem ze_159 : (Tryz.prog.info? 159).map (·.zero) = some (some (.agg #[(.int .u8 0), (.int .u8 0), (.int .u8 0), (.int .u8 0), (.int .u8 0), (.int .u8 0), (.int .u8 0), (.int .u8 0), (.int .u8 0), (.int .u8 0), (.int .u8 0), (.int .u8 0), (.int .u8 0), (.int .u8 0), (.int .u8 0), (.int .u8 0), (.int .u8 0), (.int .u8 0), (.int .u8 0), (.int .u8 0), (.int .u8 0), (.int .u8 0), (.int .u8 0), (.int .u8 0), (.int .u8 0), (.int .u8 0), (.int .u8 0), (.int .u8 0), (.int .u8 0), (.int .u8 0), (.int .u8 0), (.int .u8 0)])) := by kernel_rfl
theorem ze_16 : (Tryz.prog.info? 16).map (·.zero) = some (some (.pointer none)) := by kernel_rfl
theorem ze_160 : (Tryz.prog.info? 160).map (·.zero) = some (some (.agg #[(.int .u8 0), (.int .u8 0), (.int .u8 0), (.int .u8 0), (.int .u8 0), (.int .u8 0), (.int .u8 0), (.int .u8 0), (.int .u8 0), (.int .u8 0), (.int .u8 0), (.int .u8 0), (.int .u8 0), (.int .u8 0), (.int .u8 0), (.int .u8 0), (.int .u8 0), (.int .u8 0), (.int .u8 0), (.int .u8 0), (.int .u8 0), (.int .u8 0), (.int .u8 0), (.int .u8 0), (.int .u8 0), (.int .u8 0), (.int .u8 0), (.int .u8 0), (.int .u8 0), (.int .u8 0), (.int .u8 0), (.int .u8 0), (.int .u8 0), (.int .u8 0), (.int .u8 0), (.int .u8 0), (.int .u8 0), (.int .u8 0), (.int .u8 0), (.int .u8 0), (.int .u8 0), (.int .u8 0), (.int .u8 0), (.int .u8 0), (.int .u8 0), (.int .u8 0), (.int .u8 0), (.int .u8 0), (.int .u8 0), (.int .u8 0), (.int .u8 0), (.int .u8 0), (.int .u8 0), (.int .u8 0), (.int .u8 0), (.int .u8 0), (.int .u8 0), (.int .u8 0), (.int .u8 0), (.int .u8 0), (.int .u8 0), (.int .u8 0), (.int .u8 0), (.int .u8 0)])) := by kernel_rfl
theorem ze_161 : (Tryz.prog.info? 161).map (·.zero) = some (some (.agg #[(.pointer none), (.pointer none), (.pointer none), (.string ⟨#[]⟩)])) := by kernel_rfl
theorem ze_162 : (Tryz.prog.info? 162).map (·.zero) = some (some (.agg #[(.pointer none), (.pointer none), (.pointer none), (.string ⟨#[]⟩)])) := by kernel_rfl
theorem ze_166 : (Tryz.prog.info? 166).map (·.zero) = some (some .nilFunc) := by kernel_rfl
theorem ze_167 : (Tryz.prog.info? 167).map (·.zero) = some (some (.int .u8 0)) := by kernel_rfl
theorem ze_168 : (Tryz.prog.info? 168).map (·.zero) = some (some (.int .u8 0)) := by kernel_rfl
theorem ze_169 : (Tryz.prog.info? 169).map (·.zero) = some (some .nilFunc) := by kernel_rfl
theorem ze_17 : (Tryz.prog.info? 17).map (·.zero) = some (some (.pointer none)) := by kernel_rfl
theorem ze_170 : (Tryz.prog.info? 170).map (·.zero) = some (some (.int .i32 0)) := by kernel_rfl
theorem ze_171 : (Tryz.prog.info? 171).map (·.zero) = some (some (.int .i32 0)) := by kernel_rfl
theorem ze_172 : (Tryz.prog.info? 172).map (·.zero) = some (some (.agg #[(.int .u64 0), (.int .u64 0), (.int .u32 0), (.int .u8 0), (.int .u8 0), (.int .u8 0), (.int .u8 0), .nilFunc, (.pointer none), (.int .i32 0), (.int .i32 0)])) := by kernel_rfl
theorem ze_173 : (Tryz.prog.info? 173).map (·.zero) = some (some (.agg #[(.int .u64 0), (.int .u64 0), (.int .u32 0), (.int .u8 0), (.int .u8 0), (.int .u8 0), (.int .u8 0), .nilFunc, (.pointer none), (.int .i32 0), (.int .i32 0)])) := by kernel_rfl
theorem ze_18 : (Tryz.prog.info? 18).map (·.zero) = some (some (.agg #[(.pointer none)])) := by kernel_rfl
theorem ze_19 : (Tryz.prog.info? 19).map (·.zero) = some (some (.agg #[(.pointer none)])) := by kernel_rfl
theorem ze_2 : (Tryz.prog.info? 2).map (·.zero) = some (some (.int .i64 0)) := by kernel_rfl
theorem ze_21 : (Tryz.prog.info? 21).map (·.zero) = some (some (.int .i32 0)) := by kernel_rfl
theorem ze_22 : (Tryz.prog.info? 22).map (·.zero) = some (some (.slice none 0 0)) := by kernel_rfl
theorem ze_23 : (Tryz.prog.info? 23).map (·.zero) = some (some (.slice none 0 0)) := by kernel_rfl
theorem ze_24 : (Tryz.prog.info? 24).map (·.zero) = some (some (.int .i64 0)) := by kernel_rfl
theorem ze_26 : (Tryz.prog.info? 26).map (·.zero) = some (some .nilFunc) := by kernel_rfl
theorem ze_27 : (Tryz.prog.info? 27).map (·.zero) = some (some .nilFunc) := by kernel_rfl
theorem ze_28 : (Tryz.prog.info? 28).map (·.zero) = some (some .nilFunc) := by kernel_rfl
theorem ze_29 : (Tryz.prog.info? 29).map (·.zero) = some (some .nilFunc) := by kernel_rfl
theorem ze_3 : (Tryz.prog.info? 3).map (·.zero) = some (some (.int .i64 0)) := by kernel_rfl
theorem ze_30 : (Tryz.prog.info? 30).map (·.zero) = some (some .nilFunc) := by kernel_rfl
theorem ze_31 : (Tryz.prog.info? 31).map (·.zero) = some (some .nilFunc) := by kernel_rfl
theorem ze_33 : (Tryz.prog.info? 33).map (·.zero) = some (some .nilFunc) := by kernel_rfl
theorem ze_34 : (Tryz.prog.info? 34).map (·.zero) = some (some .nilFunc) := by kernel_rfl
theorem ze_36 : (Tryz.prog.info? 36).map (·.zero) = some (some .nilFunc) := by kernel_rfl
theorem ze_38 : (Tryz.prog.info? 38).map (·.zero) = some (some .nilFunc) := by kernel_rfl
theorem ze_39 : (Tryz.prog.info? 39).map (·.zero) = some (some .nilFunc) := by kernel_rfl
theorem ze_4 : (Tryz.prog.info? 4).map (·.zero) = some (some (.bool false)) := by kernel_rfl
theorem ze_40 : (Tryz.prog.info? 40).map (·.zero) = some (some .nilFunc) := by kernel_rfl
theorem ze_41 : (Tryz.prog.info? 41).map (·.zero) = some (some .nilFunc) := by kernel_rfl
theorem ze_42 : (Tryz.prog.info? 42).map (·.zero) = some (some .nilFunc) := by kernel_rfl
theorem ze_43 : (Tryz.prog.info? 43).map (·.zero) = some (some .nilFunc) := by kernel_rfl
theorem ze_44 : (Tryz.prog.info? 44).map (·.zero) = some (some .nilFunc) := by kernel_rfl
theorem ze_45 : (Tryz.prog.info? 45).map (·.zero) = some (some (.agg #[(.int .i64 0), (.int .i64 0), (.int .i64 0), (.int .i64 0)])) := by kernel_rfl
theorem ze_46 : (Tryz.prog.info? 46).map (·.zero) = some (some (.agg #[(.int .i64 0), (.int .i64 0), (.int .i64 0), (.int .i64 0)])) := by kernel_rfl
theorem ze_47 : (Tryz.prog.info? 47).map (·.zero) = some (some .nilFunc) := by kernel_rfl
theorem ze_48 : (Tryz.prog.info? 48).map (·.zero) = some (some (.pointer none)) := by kernel_rfl
theorem ze_49 : (Tryz.prog.info? 49).map (·.zero) = some (some (.slice none 0 0)) := by kernel_rfl
theorem ze_5 : (Tryz.prog.info? 5).map (·.zero) = some (some (.int .u8 0)) := by kernel_rfl
theorem ze_50 : (Tryz.prog.info? 50).map (·.zero) = some (some (.agg #[(.pointer none), (.slice none 0 0)])) := by kernel_rfl
theorem ze_51 : (Tryz.prog.info? 51).map (·.zero) = some (some (.agg #[(.pointer none), (.slice none 0 0)])) := by kernel_rfl
theorem ze_52 : (Tryz.prog.info? 52).map (·.zero) = some (some .nilFunc) := by kernel_rfl
theorem ze_56 : (Tryz.prog.info? 56).map (·.zero) = some (some .nilFunc) := by kernel_rfl
theorem ze_57 : (Tryz.prog.info? 57).map (·.zero) = some (some .nilFunc) := by kernel_rfl
theorem ze_58 : (Tryz.prog.info? 58).map (·.zero) = some (some .nilFunc) := by kernel_rfl
theorem ze_59 : (Tryz.prog.info? 59).map (·.zero) = some (some .nilFunc) := by kernel_rfl
theorem ze_6 : (Tryz.prog.info? 6).map (·.zero) = some (some (.int .u8 0)) := by kernel_rfl
theorem ze_60 : (Tryz.prog.info? 60).map (·.zero) = some (some .nilFunc) := by kernel_rfl
theorem ze_61 : (Tryz.prog.info? 61).map (·.zero) = some (some .nilFunc) := by kernel_rfl
theorem ze_62 : (Tryz.prog.info? 62).map (·.zero) = some (some .nilFunc) := by kernel_rfl
theorem ze_64 : (Tryz.prog.info? 64).map (·.zero) = some (some .nilFunc) := by kernel_rfl
theorem ze_65 : (Tryz.prog.info? 65).map (·.zero) = some (some .nilFunc) := by kernel_rfl
theorem ze_66 : (Tryz.prog.info? 66).map (·.zero) = some (some (.slice none 0 0)) := by kernel_rfl
theorem ze_67 : (Tryz.prog.info? 67).map (·.zero) = some (some .nilFunc) := by kernel_rfl
theorem ze_69 : (Tryz.prog.info? 69).map (·.zero) = some (some .nilFunc) := by kernel_rfl
theorem ze_7 : (Tryz.prog.info? 7).map (·.zero) = some (some (.agg #[(.int .i64 0), (.int .i64 0), (.bool false), (.int .u8 0)])) := by kernel_rfl
theorem ze_70 : (Tryz.prog.info? 70).map (·.zero) = some (some .nilFunc) := by kernel_rfl
theorem ze_71 : (Tryz.prog.info? 71).map (·.zero) = some (some .nilFunc) := by kernel_rfl
theorem ze_73 : (Tryz.prog.info? 73).map (·.zero) = some (some .nilFunc) := by kernel_rfl
theorem ze_74 : (Tryz.prog.info? 74).map (·.zero) = some (some .nilFunc) := by kernel_rfl
theorem ze_75 : (Tryz.prog.info? 75).map (·.zero) = some (some (.agg #[(.string ⟨#[]⟩), (.string ⟨#[]⟩)])) := by kernel_rfl
theorem ze_76 : (Tryz.prog.info? 76).map (·.zero) = some (some (.agg #[(.string ⟨#[]⟩), (.string ⟨#[]⟩)])) := by kernel_rfl
theorem ze_78 : (Tryz.prog.info? 78).map (·.zero) = some (some .nilFunc) := by kernel_rfl
theorem ze_79 : (Tryz.prog.info? 79).map (·.zero) = some (some .nilFunc) := by kernel_rfl
theorem ze_8 : (Tryz.prog.info? 8).map (·.zero) = some (some (.agg #[(.int .i64 0), (.int .i64 0), (.bool false), (.int .u8 0)])) := by kernel_rfl
theorem ze_80 : (Tryz.prog.info? 80).map (·.zero) = some (some (.pointer none)) := by kernel_rfl
theorem ze_81 : (Tryz.prog.info? 81).map (·.zero) = some (some .nilFunc) := by kernel_rfl
theorem ze_82 : (Tryz.prog.info? 82).map (·.zero) = some (some (.pointer none)) := by kernel_rfl
theorem ze_83 : (Tryz.prog.info? 83).map (·.zero) = some (some .nilFunc) := by kernel_rfl
theorem ze_84 : (Tryz.prog.info? 84).map (·.zero) = some (some .nilFunc) := by kernel_rfl
theorem ze_85 : (Tryz.prog.info? 85).map (·.zero) = some (some (.pointer none)) := by kernel_rfl
theorem ze_86 : (Tryz.prog.info? 86).map (·.zero) = some (some .nilFunc) := by kernel_rfl
theorem ze_87 : (Tryz.prog.info? 87).map (·.zero) = some (some .nilFunc) := by kernel_rfl
theorem ze_88 : (Tryz.prog.info? 88).map (·.zero) = some (some .nilFunc) := by kernel_rfl
theorem ze_89 : (Tryz.prog.info? 89).map (·.zero) = some (some .nilFunc) := by kernel_rfl
theorem ze_9 : (Tryz.prog.info? 9).map (·.zero) = some (some (.string ⟨#[]⟩)) := by kernel_rfl
theorem ze_90 : (Tryz.prog.info? 90).map (·.zero) = some (some (.agg #[(.string ⟨#[]⟩), (.string ⟨#[]⟩), (.string ⟨#[]⟩), (.string ⟨#[]⟩), (.string ⟨#[]⟩), (.string ⟨#[]⟩), (.string ⟨#[]⟩), (.string ⟨#[]⟩), (.string ⟨#[]⟩), (.string ⟨#[]⟩), (.string ⟨#[]⟩), (.string ⟨#[]⟩), (.string ⟨#[]⟩), (.string ⟨#[]⟩), (.string ⟨#[]⟩), (.string ⟨#[]⟩), (.string ⟨#[]⟩), (.string ⟨#[]⟩), (.string ⟨#[]⟩), (.string ⟨#[]⟩), (.string ⟨#[]⟩), (.string ⟨#[]⟩), (.string ⟨#[]⟩), (.string ⟨#[]⟩), (.string ⟨#[]⟩), (.string ⟨#[]⟩), (.string ⟨#[]⟩), (.string ⟨#[]⟩), (.string ⟨#[]⟩), (.string ⟨#[]⟩), (.string ⟨#[]⟩), (.string ⟨#[]⟩)])) := by kernel_rfl
theorem ze_91 : (Tryz.prog.info? 91).map (·.zero) = some (some .nilFunc) := by kernel_rfl
theorem ze_92 : (Tryz.prog.info? 92).map (·.zero) = some (some .nilFunc) := by kernel_rfl
theorem ze_93 : (Tryz.prog.info? 93).map (·.zero) = some (some .nilFunc) := by kernel_rfl
theorem ze_94 : (Tryz.prog.info? 94).map (·.zero) = some (some .nilFunc) := by kernel_rfl
theorem ze_95 : (Tryz.prog.info? 95).map (·.zero) = some (some .nilFunc) := by kernel_rfl
theorem ze_96 : (Tryz.prog.info? 96).map (·.zero) = some (some (.int .u64 0)) := by kernel_rfl
theorem ze_97 : (Tryz.prog.info? 97).map (·.zero) = some (some .nilFunc) := by kernel_rfl
theorem ze_99 : (Tryz.prog.info? 99).map (·.zero) = some (some .nilFunc) := by kernel_rfl
theorem eqt_46 (a0 a1 a2 a3 b0 b1 b2 b3 : Int) (x y : Operand) (w : World) : (do eqGuard .eql 46 x y (.agg #[.int .i64 a0, .int .i64 a1, .int .i64 a2, .int .i64 a3]) (.agg #[.int .i64 b0, .int .i64 b1, .int .i64 b2, .int .i64 b3]); binOp .eql 46 (.agg #[.int .i64 a0, .int .i64 a1, .int .i64 a2, .int .i64 a3]) (.agg #[.int .i64 b0, .int .i64 b1, .int .i64 b2, .int .i64 b3]) : Sem Value).run Tryz.prog w = .ok (.bool (decide ((a0 = b0 ∧ a1 = b1 ∧ a2 = b2 ∧ a3 = b3)))) w := by
  have h := (eqS (P := Tryz.prog) (T := 46) (by kernel_rfl) (by kernel_rfl) (by kernel_rfl) (by kernel_rfl) [a0, a1, a2, a3] [b0, b1, b2, b3] (by kernel_rfl) (by kernel_rfl) x y w).1
  rwa [show (decide ([a0, a1, a2, a3] = [b0, b1, b2, b3])) = decide ((a0 = b0 ∧ a1 = b1 ∧ a2 = b2 ∧ a3 = b3)) by simp] at h
theorem net_46 (a0 a1 a2 a3 b0 b1 b2 b3 : Int) (x y : Operand) (w : World) : (do eqGuard .neq 46 x y (.agg #[.int .i64 a0, .int .i64 a1, .int .i64 a2, .int .i64 a3]) (.agg #[.int .i64 b0, .int .i64 b1, .int .i64 b2, .int .i64 b3]); binOp .neq 46 (.agg #[.int .i64 a0, .int .i64 a1, .int .i64 a2, .int .i64 a3]) (.agg #[.int .i64 b0, .int .i64 b1, .int .i64 b2, .int .i64 b3]) : Sem Value).run Tryz.prog w = .ok (.bool (decide (¬ (a0 = b0 ∧ a1 = b1 ∧ a2 = b2 ∧ a3 = b3)))) w := by
  have h := (eqS (P := Tryz.prog) (T := 46) (by kernel_rfl) (by kernel_rfl) (by kernel_rfl) (by kernel_rfl) [a0, a1, a2, a3] [b0, b1, b2, b3] (by kernel_rfl) (by kernel_rfl) x y w).2
  rwa [show (!(decide ([a0, a1, a2, a3] = [b0, b1, b2, b3]))) = decide (¬ (a0 = b0 ∧ a1 = b1 ∧ a2 = b2 ∧ a3 = b3)) by simp] at h
end Go.Proofs.YtfkngjglnhfdcaaGreatDoor
