/- Closed facts on the program's types and functions. -/
import Derived.Test.YtfkngjglnhfdcaaDoorProg
import Derived.Test.YtfkngjglnhfdcaaDoorEng
namespace Go.Proofs.YtfkngjglnhfdcaaDoor
set_option linter.unusedVariables false
set_option linter.unusedSimpArgs false
open Go.RowKit
theorem en_10 : Enters Tryd.prog 10 := enters_of Tryd.func10 (by kernel_rfl) rfl
theorem en_104 : Enters Tryd.prog 104 := enters_of Tryd.func104 (by kernel_rfl) rfl
theorem en_11 : Enters Tryd.prog 11 := enters_of Tryd.func11 (by kernel_rfl) rfl
theorem en_12 : Enters Tryd.prog 12 := enters_of Tryd.func12 (by kernel_rfl) rfl
theorem en_13 : Enters Tryd.prog 13 := enters_of Tryd.func13 (by kernel_rfl) rfl
theorem en_14 : Enters Tryd.prog 14 := enters_of Tryd.func14 (by kernel_rfl) rfl
theorem en_15 : Enters Tryd.prog 15 := enters_of Tryd.func15 (by kernel_rfl) rfl
theorem en_16 : Enters Tryd.prog 16 := enters_of Tryd.func16 (by kernel_rfl) rfl
theorem en_17 : Enters Tryd.prog 17 := enters_of Tryd.func17 (by kernel_rfl) rfl
theorem en_18 : Enters Tryd.prog 18 := enters_of Tryd.func18 (by kernel_rfl) rfl
theorem en_19 : Enters Tryd.prog 19 := enters_of Tryd.func19 (by kernel_rfl) rfl
theorem en_20 : Enters Tryd.prog 20 := enters_of Tryd.func20 (by kernel_rfl) rfl
theorem en_21 : Enters Tryd.prog 21 := enters_of Tryd.func21 (by kernel_rfl) rfl
theorem en_22 : Enters Tryd.prog 22 := enters_of Tryd.func22 (by kernel_rfl) rfl
theorem en_23 : Enters Tryd.prog 23 := enters_of Tryd.func23 (by kernel_rfl) rfl
theorem en_24 : Enters Tryd.prog 24 := enters_of Tryd.func24 (by kernel_rfl) rfl
theorem en_25 : Enters Tryd.prog 25 := enters_of Tryd.func25 (by kernel_rfl) rfl
theorem en_26 : Enters Tryd.prog 26 := enters_of Tryd.func26 (by kernel_rfl) rfl
theorem en_27 : Enters Tryd.prog 27 := enters_of Tryd.func27 (by kernel_rfl) rfl
theorem en_28 : Enters Tryd.prog 28 := enters_of Tryd.func28 (by kernel_rfl) rfl
theorem en_29 : Enters Tryd.prog 29 := enters_of Tryd.func29 (by kernel_rfl) rfl
theorem en_3 : Enters Tryd.prog 3 := enters_of Tryd.func3 (by kernel_rfl) rfl
theorem en_30 : Enters Tryd.prog 30 := enters_of Tryd.func30 (by kernel_rfl) rfl
theorem en_31 : Enters Tryd.prog 31 := enters_of Tryd.func31 (by kernel_rfl) rfl
theorem en_32 : Enters Tryd.prog 32 := enters_of Tryd.func32 (by kernel_rfl) rfl
theorem en_33 : Enters Tryd.prog 33 := enters_of Tryd.func33 (by kernel_rfl) rfl
theorem en_34 : Enters Tryd.prog 34 := enters_of Tryd.func34 (by kernel_rfl) rfl
theorem en_35 : Enters Tryd.prog 35 := enters_of Tryd.func35 (by kernel_rfl) rfl
theorem en_36 : Enters Tryd.prog 36 := enters_of Tryd.func36 (by kernel_rfl) rfl
theorem en_37 : Enters Tryd.prog 37 := enters_of Tryd.func37 (by kernel_rfl) rfl
theorem en_38 : Enters Tryd.prog 38 := enters_of Tryd.func38 (by kernel_rfl) rfl
theorem en_39 : Enters Tryd.prog 39 := enters_of Tryd.func39 (by kernel_rfl) rfl
theorem en_4 : Enters Tryd.prog 4 := enters_of Tryd.func4 (by kernel_rfl) rfl
theorem en_40 : Enters Tryd.prog 40 := enters_of Tryd.func40 (by kernel_rfl) rfl
theorem en_41 : Enters Tryd.prog 41 := enters_of Tryd.func41 (by kernel_rfl) rfl
theorem en_42 : Enters Tryd.prog 42 := enters_of Tryd.func42 (by kernel_rfl) rfl
theorem en_43 : Enters Tryd.prog 43 := enters_of Tryd.func43 (by kernel_rfl) rfl
theorem en_44 : Enters Tryd.prog 44 := enters_of Tryd.func44 (by kernel_rfl) rfl
theorem en_45 : Enters Tryd.prog 45 := enters_of Tryd.func45 (by kernel_rfl) rfl
theorem en_46 : Enters Tryd.prog 46 := enters_of Tryd.func46 (by kernel_rfl) rfl
theorem en_47 : Enters Tryd.prog 47 := enters_of Tryd.func47 (by kernel_rfl) rfl
theorem en_48 : Enters Tryd.prog 48 := enters_of Tryd.func48 (by kernel_rfl) rfl
theorem en_49 : Enters Tryd.prog 49 := enters_of Tryd.func49 (by kernel_rfl) rfl
theorem en_5 : Enters Tryd.prog 5 := enters_of Tryd.func5 (by kernel_rfl) rfl
theorem en_52 : Enters Tryd.prog 52 := enters_of Tryd.func52 (by kernel_rfl) rfl
theorem en_53 : Enters Tryd.prog 53 := enters_of Tryd.func53 (by kernel_rfl) rfl
theorem en_55 : Enters Tryd.prog 55 := enters_of Tryd.func55 (by kernel_rfl) rfl
theorem en_56 : Enters Tryd.prog 56 := enters_of Tryd.func56 (by kernel_rfl) rfl
theorem en_57 : Enters Tryd.prog 57 := enters_of Tryd.func57 (by kernel_rfl) rfl
theorem en_58 : Enters Tryd.prog 58 := enters_of Tryd.func58 (by kernel_rfl) rfl
theorem en_59 : Enters Tryd.prog 59 := enters_of Tryd.func59 (by kernel_rfl) rfl
theorem en_6 : Enters Tryd.prog 6 := enters_of Tryd.func6 (by kernel_rfl) rfl
theorem en_60 : Enters Tryd.prog 60 := enters_of Tryd.func60 (by kernel_rfl) rfl
theorem en_61 : Enters Tryd.prog 61 := enters_of Tryd.func61 (by kernel_rfl) rfl
theorem en_62 : Enters Tryd.prog 62 := enters_of Tryd.func62 (by kernel_rfl) rfl
theorem en_63 : Enters Tryd.prog 63 := enters_of Tryd.func63 (by kernel_rfl) rfl
theorem en_64 : Enters Tryd.prog 64 := enters_of Tryd.func64 (by kernel_rfl) rfl
theorem en_65 : Enters Tryd.prog 65 := enters_of Tryd.func65 (by kernel_rfl) rfl
theorem en_67 : Enters Tryd.prog 67 := enters_of Tryd.func67 (by kernel_rfl) rfl
theorem en_68 : Enters Tryd.prog 68 := enters_of Tryd.func68 (by kernel_rfl) rfl
theorem en_69 : Enters Tryd.prog 69 := enters_of Tryd.func69 (by kernel_rfl) rfl
theorem en_7 : Enters Tryd.prog 7 := enters_of Tryd.func7 (by kernel_rfl) rfl
theorem en_70 : Enters Tryd.prog 70 := enters_of Tryd.func70 (by kernel_rfl) rfl
theorem en_71 : Enters Tryd.prog 71 := enters_of Tryd.func71 (by kernel_rfl) rfl
theorem en_72 : Enters Tryd.prog 72 := enters_of Tryd.func72 (by kernel_rfl) rfl
theorem en_74 : Enters Tryd.prog 74 := enters_of Tryd.func74 (by kernel_rfl) rfl
theorem en_8 : Enters Tryd.prog 8 := enters_of Tryd.func8 (by kernel_rfl) rfl
theorem en_9 : Enters Tryd.prog 9 := enters_of Tryd.func9 (by kernel_rfl) rfl
theorem fa_107_0 : FieldAt Tryd.prog 107 0 0 := fieldAt_of Tryd.underlying107 rfl rfl (z := 1) (by kernel_rfl) (by decide)
theorem fa_108_0 : FieldAt Tryd.prog 108 0 0 := fieldAt_of Tryd.underlying108 rfl rfl (z := 1) (by kernel_rfl) (by decide)
theorem fa_111_0 : FieldAt Tryd.prog 111 0 0 := fieldAt_of Tryd.underlying111 rfl rfl (z := 1) (by kernel_rfl) (by decide)
theorem fa_111_1 : FieldAt Tryd.prog 111 1 1 := fieldAt_of Tryd.underlying111 rfl rfl (z := 1) (by kernel_rfl) (by decide)
theorem fa_112_0 : FieldAt Tryd.prog 112 0 0 := fieldAt_of Tryd.underlying112 rfl rfl (z := 1) (by kernel_rfl) (by decide)
theorem fa_112_1 : FieldAt Tryd.prog 112 1 1 := fieldAt_of Tryd.underlying112 rfl rfl (z := 1) (by kernel_rfl) (by decide)
theorem fa_118_0 : FieldAt Tryd.prog 118 0 0 := fieldAt_of Tryd.underlying118 rfl rfl (z := 1) (by kernel_rfl) (by decide)
theorem fa_118_1 : FieldAt Tryd.prog 118 1 1 := fieldAt_of Tryd.underlying118 rfl rfl (z := 1) (by kernel_rfl) (by decide)
theorem fa_118_2 : FieldAt Tryd.prog 118 2 2 := fieldAt_of Tryd.underlying118 rfl rfl (z := 1) (by kernel_rfl) (by decide)
theorem fa_118_3 : FieldAt Tryd.prog 118 3 3 := fieldAt_of Tryd.underlying118 rfl rfl (z := 1) (by kernel_rfl) (by decide)
theorem fa_119_0 : FieldAt Tryd.prog 119 0 0 := fieldAt_of Tryd.underlying119 rfl rfl (z := 1) (by kernel_rfl) (by decide)
theorem fa_119_1 : FieldAt Tryd.prog 119 1 1 := fieldAt_of Tryd.underlying119 rfl rfl (z := 1) (by kernel_rfl) (by decide)
theorem fa_119_2 : FieldAt Tryd.prog 119 2 2 := fieldAt_of Tryd.underlying119 rfl rfl (z := 1) (by kernel_rfl) (by decide)
theorem fa_119_3 : FieldAt Tryd.prog 119 3 3 := fieldAt_of Tryd.underlying119 rfl rfl (z := 1) (by kernel_rfl) (by decide)
theorem fa_129_0 : FieldAt Tryd.prog 129 0 0 := fieldAt_of Tryd.underlying129 rfl rfl (z := 1) (by kernel_rfl) (by decide)
theorem fa_129_1 : FieldAt Tryd.prog 129 1 1 := fieldAt_of Tryd.underlying129 rfl rfl (z := 1) (by kernel_rfl) (by decide)
theorem fa_129_10 : FieldAt Tryd.prog 129 10 10 := fieldAt_of Tryd.underlying129 rfl rfl (z := 1) (by kernel_rfl) (by decide)
theorem fa_129_2 : FieldAt Tryd.prog 129 2 2 := fieldAt_of Tryd.underlying129 rfl rfl (z := 1) (by kernel_rfl) (by decide)
theorem fa_129_3 : FieldAt Tryd.prog 129 3 3 := fieldAt_of Tryd.underlying129 rfl rfl (z := 1) (by kernel_rfl) (by decide)
theorem fa_129_4 : FieldAt Tryd.prog 129 4 4 := fieldAt_of Tryd.underlying129 rfl rfl (z := 1) (by kernel_rfl) (by decide)
theorem fa_129_5 : FieldAt Tryd.prog 129 5 5 := fieldAt_of Tryd.underlying129 rfl rfl (z := 1) (by kernel_rfl) (by decide)
theorem fa_129_6 : FieldAt Tryd.prog 129 6 6 := fieldAt_of Tryd.underlying129 rfl rfl (z := 1) (by kernel_rfl) (by decide)
theorem fa_129_7 : FieldAt Tryd.prog 129 7 7 := fieldAt_of Tryd.underlying129 rfl rfl (z := 1) (by kernel_rfl) (by decide)
theorem fa_129_8 : FieldAt Tryd.prog 129 8 8 := fieldAt_of Tryd.underlying129 rfl rfl (z := 1) (by kernel_rfl) (by decide)
theorem fa_129_9 : FieldAt Tryd.prog 129 9 9 := fieldAt_of Tryd.underlying129 rfl rfl (z := 1) (by kernel_rfl) (by decide)
theorem fa_13_0 : FieldAt Tryd.prog 13 0 0 := fieldAt_of Tryd.underlying13 rfl rfl (z := 1) (by kernel_rfl) (by decide)
theorem fa_13_1 : FieldAt Tryd.prog 13 1 1 := fieldAt_of Tryd.underlying13 rfl rfl (z := 1) (by kernel_rfl) (by decide)
theorem fa_130_0 : FieldAt Tryd.prog 130 0 0 := fieldAt_of Tryd.underlying130 rfl rfl (z := 1) (by kernel_rfl) (by decide)
theorem fa_130_1 : FieldAt Tryd.prog 130 1 1 := fieldAt_of Tryd.underlying130 rfl rfl (z := 1) (by kernel_rfl) (by decide)
theorem fa_130_10 : FieldAt Tryd.prog 130 10 10 := fieldAt_of Tryd.underlying130 rfl rfl (z := 1) (by kernel_rfl) (by decide)
theorem fa_130_2 : FieldAt Tryd.prog 130 2 2 := fieldAt_of Tryd.underlying130 rfl rfl (z := 1) (by kernel_rfl) (by decide)
theorem fa_130_3 : FieldAt Tryd.prog 130 3 3 := fieldAt_of Tryd.underlying130 rfl rfl (z := 1) (by kernel_rfl) (by decide)
theorem fa_130_4 : FieldAt Tryd.prog 130 4 4 := fieldAt_of Tryd.underlying130 rfl rfl (z := 1) (by kernel_rfl) (by decide)
theorem fa_130_5 : FieldAt Tryd.prog 130 5 5 := fieldAt_of Tryd.underlying130 rfl rfl (z := 1) (by kernel_rfl) (by decide)
theorem fa_130_6 : FieldAt Tryd.prog 130 6 6 := fieldAt_of Tryd.underlying130 rfl rfl (z := 1) (by kernel_rfl) (by decide)
theorem fa_130_7 : FieldAt Tryd.prog 130 7 7 := fieldAt_of Tryd.underlying130 rfl rfl (z := 1) (by kernel_rfl) (by decide)
theorem fa_130_8 : FieldAt Tryd.prog 130 8 8 := fieldAt_of Tryd.underlying130 rfl rfl (z := 1) (by kernel_rfl) (by decide)
theorem fa_130_9 : FieldAt Tryd.prog 130 9 9 := fieldAt_of Tryd.underlying130 rfl rfl (z := 1) (by kernel_rfl) (by decide)
theorem fa_14_0 : FieldAt Tryd.prog 14 0 0 := fieldAt_of Tryd.underlying14 rfl rfl (z := 1) (by kernel_rfl) (by decide)
theorem fa_14_1 : FieldAt Tryd.prog 14 1 1 := fieldAt_of Tryd.underlying14 rfl rfl (z := 1) (by kernel_rfl) (by decide)
theorem fa_18_0 : FieldAt Tryd.prog 18 0 0 := fieldAt_of Tryd.underlying18 rfl rfl (z := 1) (by kernel_rfl) (by decide)
theorem fa_19_0 : FieldAt Tryd.prog 19 0 0 := fieldAt_of Tryd.underlying19 rfl rfl (z := 1) (by kernel_rfl) (by decide)
theorem fa_22_0 : FieldAt Tryd.prog 22 0 0 := fieldAt_of Tryd.underlying22 rfl rfl (z := 1) (by kernel_rfl) (by decide)
theorem fa_22_1 : FieldAt Tryd.prog 22 1 1 := fieldAt_of Tryd.underlying22 rfl rfl (z := 1) (by kernel_rfl) (by decide)
theorem fa_22_2 : FieldAt Tryd.prog 22 2 2 := fieldAt_of Tryd.underlying22 rfl rfl (z := 1) (by kernel_rfl) (by decide)
theorem fa_22_3 : FieldAt Tryd.prog 22 3 3 := fieldAt_of Tryd.underlying22 rfl rfl (z := 1) (by kernel_rfl) (by decide)
theorem fa_23_0 : FieldAt Tryd.prog 23 0 0 := fieldAt_of Tryd.underlying23 rfl rfl (z := 1) (by kernel_rfl) (by decide)
theorem fa_23_1 : FieldAt Tryd.prog 23 1 1 := fieldAt_of Tryd.underlying23 rfl rfl (z := 1) (by kernel_rfl) (by decide)
theorem fa_23_2 : FieldAt Tryd.prog 23 2 2 := fieldAt_of Tryd.underlying23 rfl rfl (z := 1) (by kernel_rfl) (by decide)
theorem fa_23_3 : FieldAt Tryd.prog 23 3 3 := fieldAt_of Tryd.underlying23 rfl rfl (z := 1) (by kernel_rfl) (by decide)
theorem fa_37_0 : FieldAt Tryd.prog 37 0 0 := fieldAt_of Tryd.underlying37 rfl rfl (z := 1) (by kernel_rfl) (by decide)
theorem fa_37_1 : FieldAt Tryd.prog 37 1 1 := fieldAt_of Tryd.underlying37 rfl rfl (z := 1) (by kernel_rfl) (by decide)
theorem fa_38_0 : FieldAt Tryd.prog 38 0 0 := fieldAt_of Tryd.underlying38 rfl rfl (z := 1) (by kernel_rfl) (by decide)
theorem fa_38_1 : FieldAt Tryd.prog 38 1 1 := fieldAt_of Tryd.underlying38 rfl rfl (z := 1) (by kernel_rfl) (by decide)
theorem fa_64_0 : FieldAt Tryd.prog 64 0 0 := fieldAt_of Tryd.underlying64 rfl rfl (z := 1) (by kernel_rfl) (by decide)
theorem fa_64_1 : FieldAt Tryd.prog 64 1 1 := fieldAt_of Tryd.underlying64 rfl rfl (z := 1) (by kernel_rfl) (by decide)
theorem fa_65_0 : FieldAt Tryd.prog 65 0 0 := fieldAt_of Tryd.underlying65 rfl rfl (z := 1) (by kernel_rfl) (by decide)
theorem fa_65_1 : FieldAt Tryd.prog 65 1 1 := fieldAt_of Tryd.underlying65 rfl rfl (z := 1) (by kernel_rfl) (by decide)
theorem fa_7_0 : FieldAt Tryd.prog 7 0 0 := fieldAt_of Tryd.underlying7 rfl rfl (z := 1) (by kernel_rfl) (by decide)
theorem fa_7_1 : FieldAt Tryd.prog 7 1 1 := fieldAt_of Tryd.underlying7 rfl rfl (z := 1) (by kernel_rfl) (by decide)
theorem fa_7_2 : FieldAt Tryd.prog 7 2 2 := fieldAt_of Tryd.underlying7 rfl rfl (z := 1) (by kernel_rfl) (by decide)
theorem fa_7_3 : FieldAt Tryd.prog 7 3 3 := fieldAt_of Tryd.underlying7 rfl rfl (z := 1) (by kernel_rfl) (by decide)
theorem fa_8_0 : FieldAt Tryd.prog 8 0 0 := fieldAt_of Tryd.underlying8 rfl rfl (z := 1) (by kernel_rfl) (by decide)
theorem fa_8_1 : FieldAt Tryd.prog 8 1 1 := fieldAt_of Tryd.underlying8 rfl rfl (z := 1) (by kernel_rfl) (by decide)
theorem fa_8_2 : FieldAt Tryd.prog 8 2 2 := fieldAt_of Tryd.underlying8 rfl rfl (z := 1) (by kernel_rfl) (by decide)
theorem fa_8_3 : FieldAt Tryd.prog 8 3 3 := fieldAt_of Tryd.underlying8 rfl rfl (z := 1) (by kernel_rfl) (by decide)
theorem fa_96_0 : FieldAt Tryd.prog 96 0 0 := fieldAt_of Tryd.underlying96 rfl rfl (z := 1) (by kernel_rfl) (by decide)
theorem fa_96_1 : FieldAt Tryd.prog 96 1 1 := fieldAt_of Tryd.underlying96 rfl rfl (z := 1) (by kernel_rfl) (by decide)
theorem fa_96_2 : FieldAt Tryd.prog 96 2 2 := fieldAt_of Tryd.underlying96 rfl rfl (z := 1) (by kernel_rfl) (by decide)
theorem fa_97_0 : FieldAt Tryd.prog 97 0 0 := fieldAt_of Tryd.underlying97 rfl rfl (z := 1) (by kernel_rfl) (by decide)
theorem fa_97_1 : FieldAt Tryd.prog 97 1 1 := fieldAt_of Tryd.underlying97 rfl rfl (z := 1) (by kernel_rfl) (by decide)
theorem fa_97_2 : FieldAt Tryd.prog 97 2 2 := fieldAt_of Tryd.underlying97 rfl rfl (z := 1) (by kernel_rfl) (by decide)
theorem inf_1 : (Tryd.prog.info? 1).map (fun i => (i.zero, i.size, i.bytes)) = some (some .nilFunc, 1, 8) := by kernel_rfl
theorem inf_10 : (Tryd.prog.info? 10).map (fun i => (i.zero, i.size, i.bytes)) = some (some (.string ⟨#[]⟩), 1, 16) := by kernel_rfl
theorem inf_100 : (Tryd.prog.info? 100).map (fun i => (i.zero, i.size, i.bytes)) = some (some .nilFunc, 1, 8) := by kernel_rfl
theorem inf_101 : (Tryd.prog.info? 101).map (fun i => (i.zero, i.size, i.bytes)) = some (some (.agg #[(.int .u64 0), (.int .u64 0), (.int .u64 0), (.int .u64 0), (.int .u64 0), (.int .u64 0), (.int .u64 0), (.int .u64 0), (.int .u64 0), (.int .u64 0), (.int .u64 0), (.int .u64 0), (.int .u64 0), (.int .u64 0), (.int .u64 0), (.int .u64 0), (.int .u64 0), (.int .u64 0), (.int .u64 0), (.int .u64 0)]), 20, 160) := by kernel_rfl
theorem inf_102 : (Tryd.prog.info? 102).map (fun i => (i.zero, i.size, i.bytes)) = some (some (.int .u32 0), 1, 4) := by kernel_rfl
theorem inf_103 : (Tryd.prog.info? 103).map (fun i => (i.zero, i.size, i.bytes)) = some (some (.agg #[(.int .u8 0), (.int .u8 0), (.int .u8 0), (.int .u8 0), (.int .u8 0), (.int .u8 0), (.int .u8 0), (.int .u8 0), (.int .u8 0), (.int .u8 0), (.int .u8 0), (.int .u8 0), (.int .u8 0), (.int .u8 0), (.int .u8 0), (.int .u8 0), (.int .u8 0), (.int .u8 0), (.int .u8 0), (.int .u8 0), (.int .u8 0), (.int .u8 0), (.int .u8 0), (.int .u8 0), (.int .u8 0), (.int .u8 0), (.int .u8 0), (.int .u8 0), (.int .u8 0), (.int .u8 0), (.int .u8 0), (.int .u8 0), (.int .u8 0), (.int .u8 0), (.int .u8 0), (.int .u8 0), (.int .u8 0), (.int .u8 0), (.int .u8 0), (.int .u8 0), (.int .u8 0), (.int .u8 0), (.int .u8 0), (.int .u8 0), (.int .u8 0), (.int .u8 0), (.int .u8 0), (.int .u8 0), (.int .u8 0), (.int .u8 0), (.int .u8 0), (.int .u8 0), (.int .u8 0), (.int .u8 0), (.int .u8 0), (.int .u8 0), (.int .u8 0), (.int .u8 0), (.int .u8 0), (.int .u8 0), (.int .u8 0), (.int .u8 0), (.int .u8 0), (.int .u8 0), (.int .u8 0)]), 65, 65) := by kernel_rfl
theorem inf_104 : (Tryd.prog.info? 104).map (fun i => (i.zero, i.size, i.bytes)) = some (some .nilFunc, 1, 8) := by kernel_rfl
theorem inf_105 : (Tryd.prog.info? 105).map (fun i => (i.zero, i.size, i.bytes)) = some (some .nilFunc, 1, 8) := by kernel_rfl
theorem inf_106 : (Tryd.prog.info? 106).map (fun i => (i.zero, i.size, i.bytes)) = some (some (.pointer none), 1, 8) := by kernel_rfl
theorem inf_107 : (Tryd.prog.info? 107).map (fun i => (i.zero, i.size, i.bytes)) = some (some (.agg #[(.string ⟨#[]⟩)]), 1, 16) := by kernel_rfl
theorem inf_108 : (Tryd.prog.info? 108).map (fun i => (i.zero, i.size, i.bytes)) = some (some (.agg #[(.string ⟨#[]⟩)]), 1, 16) := by kernel_rfl
theorem inf_109 : (Tryd.prog.info? 109).map (fun i => (i.zero, i.size, i.bytes)) = some (some .nilFunc, 1, 8) := by kernel_rfl
theorem inf_11 : (Tryd.prog.info? 11).map (fun i => (i.zero, i.size, i.bytes)) = some (some (.string ⟨#[]⟩), 1, 16) := by kernel_rfl
theorem inf_110 : (Tryd.prog.info? 110).map (fun i => (i.zero, i.size, i.bytes)) = some (some (.agg #[(.int .u8 0), (.int .u8 0), (.int .u8 0), (.int .u8 0), (.int .u8 0), (.int .u8 0), (.int .u8 0), (.int .u8 0), (.int .u8 0), (.int .u8 0), (.int .u8 0), (.int .u8 0), (.int .u8 0), (.int .u8 0), (.int .u8 0), (.int .u8 0), (.int .u8 0), (.int .u8 0), (.int .u8 0), (.int .u8 0), (.int .u8 0), (.int .u8 0), (.int .u8 0), (.int .u8 0), (.int .u8 0), (.int .u8 0), (.int .u8 0), (.int .u8 0), (.int .u8 0), (.int .u8 0), (.int .u8 0), (.int .u8 0), (.int .u8 0), (.int .u8 0), (.int .u8 0), (.int .u8 0), (.int .u8 0), (.int .u8 0), (.int .u8 0), (.int .u8 0), (.int .u8 0), (.int .u8 0), (.int .u8 0), (.int .u8 0), (.int .u8 0), (.int .u8 0), (.int .u8 0), (.int .u8 0), (.int .u8 0), (.int .u8 0), (.int .u8 0), (.int .u8 0), (.int .u8 0), (.int .u8 0), (.int .u8 0), (.int .u8 0), (.int .u8 0), (.int .u8 0), (.int .u8 0), (.int .u8 0), (.int .u8 0), (.int .u8 0), (.int .u8 0), (.int .u8 0), (.int .u8 0), (.int .u8 0), (.int .u8 0), (.int .u8 0), (.int .u8 0), (.int .u8 0), (.int .u8 0), (.int .u8 0), (.int .u8 0), (.int .u8 0), (.int .u8 0), (.int .u8 0), (.int .u8 0), (.int .u8 0), (.int .u8 0), (.int .u8 0), (.int .u8 0), (.int .u8 0), (.int .u8 0), (.int .u8 0), (.int .u8 0), (.int .u8 0), (.int .u8 0), (.int .u8 0), (.int .u8 0), (.int .u8 0), (.int .u8 0), (.int .u8 0), (.int .u8 0), (.int .u8 0), (.int .u8 0), (.int .u8 0), (.int .u8 0), (.int .u8 0), (.int .u8 0), (.int .u8 0), (.int .u8 0), (.int .u8 0), (.int .u8 0), (.int .u8 0), (.int .u8 0), (.int .u8 0), (.int .u8 0), (.int .u8 0), (.int .u8 0), (.int .u8 0), (.int .u8 0), (.int .u8 0), (.int .u8 0), (.int .u8 0), (.int .u8 0), (.int .u8 0), (.int .u8 0), (.int .u8 0), (.int .u8 0), (.int .u8 0), (.int .u8 0), (.int .u8 0), (.int .u8 0), (.int .u8 0), (.int .u8 0), (.int .u8 0), (.int .u8 0), (.int .u8 0), (.int .u8 0), (.int .u8 0), (.int .u8 0), (.int .u8 0), (.int .u8 0), (.int .u8 0), (.int .u8 0), (.int .u8 0), (.int .u8 0), (.int .u8 0), (.int .u8 0), (.int .u8 0), (.int .u8 0), (.int .u8 0), (.int .u8 0), (.int .u8 0), (.int .u8 0), (.int .u8 0), (.int .u8 0), (.int .u8 0), (.int .u8 0), (.int .u8 0), (.int .u8 0), (.int .u8 0), (.int .u8 0), (.int .u8 0), (.int .u8 0), (.int .u8 0), (.int .u8 0), (.int .u8 0), (.int .u8 0), (.int .u8 0), (.int .u8 0), (.int .u8 0), (.int .u8 0), (.int .u8 0), (.int .u8 0), (.int .u8 0), (.int .u8 0), (.int .u8 0), (.int .u8 0), (.int .u8 0), (.int .u8 0), (.int .u8 0), (.int .u8 0), (.int .u8 0), (.int .u8 0), (.int .u8 0), (.int .u8 0), (.int .u8 0), (.int .u8 0), (.int .u8 0), (.int .u8 0), (.int .u8 0), (.int .u8 0), (.int .u8 0), (.int .u8 0), (.int .u8 0), (.int .u8 0), (.int .u8 0), (.int .u8 0), (.int .u8 0), (.int .u8 0), (.int .u8 0), (.int .u8 0), (.int .u8 0), (.int .u8 0), (.int .u8 0), (.int .u8 0), (.int .u8 0), (.int .u8 0), (.int .u8 0), (.int .u8 0), (.int .u8 0), (.int .u8 0), (.int .u8 0), (.int .u8 0), (.int .u8 0), (.int .u8 0), (.int .u8 0), (.int .u8 0), (.int .u8 0), (.int .u8 0), (.int .u8 0), (.int .u8 0), (.int .u8 0), (.int .u8 0), (.int .u8 0), (.int .u8 0), (.int .u8 0), (.int .u8 0), (.int .u8 0), (.int .u8 0), (.int .u8 0), (.int .u8 0), (.int .u8 0), (.int .u8 0), (.int .u8 0), (.int .u8 0), (.int .u8 0), (.int .u8 0), (.int .u8 0), (.int .u8 0), (.int .u8 0), (.int .u8 0), (.int .u8 0), (.int .u8 0), (.int .u8 0), (.int .u8 0), (.int .u8 0), (.int .u8 0), (.int .u8 0), (.int .u8 0), (.int .u8 0), (.int .u8 0), (.int .u8 0), (.int .u8 0), (.int .u8 0), (.int .u8 0), (.int .u8 0), (.int .u8 0), (.int .u8 0), (.int .u8 0), (.int .u8 0), (.int .u8 0), (.int .u8 0), (.int .u8 0), (.int .u8 0)]), 256, 256) := by kernel_rfl
theorem inf_111 : (Tryd.prog.info? 111).map (fun i => (i.zero, i.size, i.bytes)) = some (some (.agg #[(.int .u8 0), (.int .u8 0)]), 2, 2) := by kernel_rfl
theorem inf_112 : (Tryd.prog.info? 112).map (fun i => (i.zero, i.size, i.bytes)) = some (some (.agg #[(.int .u8 0), (.int .u8 0)]), 2, 2) := by kernel_rfl
theorem inf_113 : (Tryd.prog.info? 113).map (fun i => (i.zero, i.size, i.bytes)) = some (some (.agg #[(.int .u8 0), (.int .u8 0), (.int .u8 0), (.int .u8 0), (.int .u8 0), (.int .u8 0), (.int .u8 0), (.int .u8 0), (.int .u8 0), (.int .u8 0), (.int .u8 0), (.int .u8 0), (.int .u8 0), (.int .u8 0), (.int .u8 0), (.int .u8 0), (.int .u8 0), (.int .u8 0), (.int .u8 0), (.int .u8 0), (.int .u8 0), (.int .u8 0), (.int .u8 0), (.int .u8 0), (.int .u8 0), (.int .u8 0), (.int .u8 0), (.int .u8 0), (.int .u8 0), (.int .u8 0), (.int .u8 0), (.int .u8 0)]), 32, 32) := by kernel_rfl
theorem inf_115 : (Tryd.prog.info? 115).map (fun i => (i.zero, i.size, i.bytes)) = some (some .nilFunc, 1, 8) := by kernel_rfl
theorem inf_116 : (Tryd.prog.info? 116).map (fun i => (i.zero, i.size, i.bytes)) = some (some (.agg #[(.int .u8 0), (.int .u8 0), (.int .u8 0), (.int .u8 0), (.int .u8 0), (.int .u8 0), (.int .u8 0), (.int .u8 0), (.int .u8 0), (.int .u8 0), (.int .u8 0), (.int .u8 0), (.int .u8 0), (.int .u8 0), (.int .u8 0), (.int .u8 0), (.int .u8 0), (.int .u8 0), (.int .u8 0), (.int .u8 0), (.int .u8 0), (.int .u8 0), (.int .u8 0), (.int .u8 0), (.int .u8 0), (.int .u8 0), (.int .u8 0), (.int .u8 0), (.int .u8 0), (.int .u8 0), (.int .u8 0), (.int .u8 0)]), 32, 32) := by kernel_rfl
theorem inf_117 : (Tryd.prog.info? 117).map (fun i => (i.zero, i.size, i.bytes)) = some (some (.agg #[(.int .u8 0), (.int .u8 0), (.int .u8 0), (.int .u8 0), (.int .u8 0), (.int .u8 0), (.int .u8 0), (.int .u8 0), (.int .u8 0), (.int .u8 0), (.int .u8 0), (.int .u8 0), (.int .u8 0), (.int .u8 0), (.int .u8 0), (.int .u8 0), (.int .u8 0), (.int .u8 0), (.int .u8 0), (.int .u8 0), (.int .u8 0), (.int .u8 0), (.int .u8 0), (.int .u8 0), (.int .u8 0), (.int .u8 0), (.int .u8 0), (.int .u8 0), (.int .u8 0), (.int .u8 0), (.int .u8 0), (.int .u8 0), (.int .u8 0), (.int .u8 0), (.int .u8 0), (.int .u8 0), (.int .u8 0), (.int .u8 0), (.int .u8 0), (.int .u8 0), (.int .u8 0), (.int .u8 0), (.int .u8 0), (.int .u8 0), (.int .u8 0), (.int .u8 0), (.int .u8 0), (.int .u8 0), (.int .u8 0), (.int .u8 0), (.int .u8 0), (.int .u8 0), (.int .u8 0), (.int .u8 0), (.int .u8 0), (.int .u8 0), (.int .u8 0), (.int .u8 0), (.int .u8 0), (.int .u8 0), (.int .u8 0), (.int .u8 0), (.int .u8 0), (.int .u8 0)]), 64, 64) := by kernel_rfl
theorem inf_118 : (Tryd.prog.info? 118).map (fun i => (i.zero, i.size, i.bytes)) = some (some (.agg #[(.pointer none), (.pointer none), (.pointer none), (.string ⟨#[]⟩)]), 4, 40) := by kernel_rfl
theorem inf_119 : (Tryd.prog.info? 119).map (fun i => (i.zero, i.size, i.bytes)) = some (some (.agg #[(.pointer none), (.pointer none), (.pointer none), (.string ⟨#[]⟩)]), 4, 40) := by kernel_rfl
theorem inf_12 : (Tryd.prog.info? 12).map (fun i => (i.zero, i.size, i.bytes)) = some (some (.int .u64 0), 1, 8) := by kernel_rfl
theorem inf_123 : (Tryd.prog.info? 123).map (fun i => (i.zero, i.size, i.bytes)) = some (some .nilFunc, 1, 8) := by kernel_rfl
theorem inf_124 : (Tryd.prog.info? 124).map (fun i => (i.zero, i.size, i.bytes)) = some (some (.int .u8 0), 1, 1) := by kernel_rfl
theorem inf_125 : (Tryd.prog.info? 125).map (fun i => (i.zero, i.size, i.bytes)) = some (some (.int .u8 0), 1, 1) := by kernel_rfl
theorem inf_126 : (Tryd.prog.info? 126).map (fun i => (i.zero, i.size, i.bytes)) = some (some .nilFunc, 1, 8) := by kernel_rfl
theorem inf_127 : (Tryd.prog.info? 127).map (fun i => (i.zero, i.size, i.bytes)) = some (some (.int .i32 0), 1, 4) := by kernel_rfl
theorem inf_128 : (Tryd.prog.info? 128).map (fun i => (i.zero, i.size, i.bytes)) = some (some (.int .i32 0), 1, 4) := by kernel_rfl
theorem inf_129 : (Tryd.prog.info? 129).map (fun i => (i.zero, i.size, i.bytes)) = some (some (.agg #[(.int .u64 0), (.int .u64 0), (.int .u32 0), (.int .u8 0), (.int .u8 0), (.int .u8 0), (.int .u8 0), .nilFunc, (.pointer none), (.int .i32 0), (.int .i32 0)]), 11, 48) := by kernel_rfl
theorem inf_13 : (Tryd.prog.info? 13).map (fun i => (i.zero, i.size, i.bytes)) = some (some (.agg #[(.string ⟨#[]⟩), (.int .u64 0)]), 2, 24) := by kernel_rfl
theorem inf_130 : (Tryd.prog.info? 130).map (fun i => (i.zero, i.size, i.bytes)) = some (some (.agg #[(.int .u64 0), (.int .u64 0), (.int .u32 0), (.int .u8 0), (.int .u8 0), (.int .u8 0), (.int .u8 0), .nilFunc, (.pointer none), (.int .i32 0), (.int .i32 0)]), 11, 48) := by kernel_rfl
theorem inf_14 : (Tryd.prog.info? 14).map (fun i => (i.zero, i.size, i.bytes)) = some (some (.agg #[(.string ⟨#[]⟩), (.int .u64 0)]), 2, 24) := by kernel_rfl
theorem inf_15 : (Tryd.prog.info? 15).map (fun i => (i.zero, i.size, i.bytes)) = some (some (.pointer none), 1, 8) := by kernel_rfl
theorem inf_16 : (Tryd.prog.info? 16).map (fun i => (i.zero, i.size, i.bytes)) = some (some (.pointer none), 1, 8) := by kernel_rfl
theorem inf_17 : (Tryd.prog.info? 17).map (fun i => (i.zero, i.size, i.bytes)) = some (some (.pointer none), 1, 8) := by kernel_rfl
theorem inf_18 : (Tryd.prog.info? 18).map (fun i => (i.zero, i.size, i.bytes)) = some (some (.agg #[(.pointer none)]), 1, 8) := by kernel_rfl
theorem inf_19 : (Tryd.prog.info? 19).map (fun i => (i.zero, i.size, i.bytes)) = some (some (.agg #[(.pointer none)]), 1, 8) := by kernel_rfl
theorem inf_2 : (Tryd.prog.info? 2).map (fun i => (i.zero, i.size, i.bytes)) = some (some (.int .i64 0), 1, 8) := by kernel_rfl
theorem inf_21 : (Tryd.prog.info? 21).map (fun i => (i.zero, i.size, i.bytes)) = some (some (.int .i32 0), 1, 4) := by kernel_rfl
theorem inf_22 : (Tryd.prog.info? 22).map (fun i => (i.zero, i.size, i.bytes)) = some (some (.agg #[(.int .i64 0), (.int .i64 0), (.int .i64 0), (.int .i64 0)]), 4, 32) := by kernel_rfl
theorem inf_23 : (Tryd.prog.info? 23).map (fun i => (i.zero, i.size, i.bytes)) = some (some (.agg #[(.int .i64 0), (.int .i64 0), (.int .i64 0), (.int .i64 0)]), 4, 32) := by kernel_rfl
theorem inf_24 : (Tryd.prog.info? 24).map (fun i => (i.zero, i.size, i.bytes)) = some (some (.int .i64 0), 1, 8) := by kernel_rfl
theorem inf_26 : (Tryd.prog.info? 26).map (fun i => (i.zero, i.size, i.bytes)) = some (some .nilFunc, 1, 8) := by kernel_rfl
theorem inf_27 : (Tryd.prog.info? 27).map (fun i => (i.zero, i.size, i.bytes)) = some (some .nilFunc, 1, 8) := by kernel_rfl
theorem inf_28 : (Tryd.prog.info? 28).map (fun i => (i.zero, i.size, i.bytes)) = some (some .nilFunc, 1, 8) := by kernel_rfl
theorem inf_29 : (Tryd.prog.info? 29).map (fun i => (i.zero, i.size, i.bytes)) = some (some .nilFunc, 1, 8) := by kernel_rfl
theorem inf_3 : (Tryd.prog.info? 3).map (fun i => (i.zero, i.size, i.bytes)) = some (some (.int .i64 0), 1, 8) := by kernel_rfl
theorem inf_30 : (Tryd.prog.info? 30).map (fun i => (i.zero, i.size, i.bytes)) = some (some .nilFunc, 1, 8) := by kernel_rfl
theorem inf_32 : (Tryd.prog.info? 32).map (fun i => (i.zero, i.size, i.bytes)) = some (some .nilFunc, 1, 8) := by kernel_rfl
theorem inf_34 : (Tryd.prog.info? 34).map (fun i => (i.zero, i.size, i.bytes)) = some (some .nilFunc, 1, 8) := by kernel_rfl
theorem inf_35 : (Tryd.prog.info? 35).map (fun i => (i.zero, i.size, i.bytes)) = some (some .nilFunc, 1, 8) := by kernel_rfl
theorem inf_36 : (Tryd.prog.info? 36).map (fun i => (i.zero, i.size, i.bytes)) = some (some .nilFunc, 1, 8) := by kernel_rfl
theorem inf_37 : (Tryd.prog.info? 37).map (fun i => (i.zero, i.size, i.bytes)) = some (some (.agg #[(.string ⟨#[]⟩), (.string ⟨#[]⟩)]), 2, 32) := by kernel_rfl
theorem inf_38 : (Tryd.prog.info? 38).map (fun i => (i.zero, i.size, i.bytes)) = some (some (.agg #[(.string ⟨#[]⟩), (.string ⟨#[]⟩)]), 2, 32) := by kernel_rfl
theorem inf_4 : (Tryd.prog.info? 4).map (fun i => (i.zero, i.size, i.bytes)) = some (some (.bool false), 1, 1) := by kernel_rfl
theorem inf_40 : (Tryd.prog.info? 40).map (fun i => (i.zero, i.size, i.bytes)) = some (some .nilFunc, 1, 8) := by kernel_rfl
theorem inf_41 : (Tryd.prog.info? 41).map (fun i => (i.zero, i.size, i.bytes)) = some (some (.slice none 0 0), 1, 24) := by kernel_rfl
theorem inf_42 : (Tryd.prog.info? 42).map (fun i => (i.zero, i.size, i.bytes)) = some (some .nilFunc, 1, 8) := by kernel_rfl
theorem inf_43 : (Tryd.prog.info? 43).map (fun i => (i.zero, i.size, i.bytes)) = some (some (.pointer none), 1, 8) := by kernel_rfl
theorem inf_44 : (Tryd.prog.info? 44).map (fun i => (i.zero, i.size, i.bytes)) = some (some .nilFunc, 1, 8) := by kernel_rfl
theorem inf_45 : (Tryd.prog.info? 45).map (fun i => (i.zero, i.size, i.bytes)) = some (some (.pointer none), 1, 8) := by kernel_rfl
theorem inf_46 : (Tryd.prog.info? 46).map (fun i => (i.zero, i.size, i.bytes)) = some (some .nilFunc, 1, 8) := by kernel_rfl
theorem inf_47 : (Tryd.prog.info? 47).map (fun i => (i.zero, i.size, i.bytes)) = some (some .nilFunc, 1, 8) := by kernel_rfl
theorem inf_49 : (Tryd.prog.info? 49).map (fun i => (i.zero, i.size, i.bytes)) = some (some .nilFunc, 1, 8) := by kernel_rfl
theorem inf_5 : (Tryd.prog.info? 5).map (fun i => (i.zero, i.size, i.bytes)) = some (some (.int .u8 0), 1, 1) := by kernel_rfl
theorem inf_50 : (Tryd.prog.info? 50).map (fun i => (i.zero, i.size, i.bytes)) = some (some .nilFunc, 1, 8) := by kernel_rfl
theorem inf_51 : (Tryd.prog.info? 51).map (fun i => (i.zero, i.size, i.bytes)) = some (some .nilFunc, 1, 8) := by kernel_rfl
theorem inf_52 : (Tryd.prog.info? 52).map (fun i => (i.zero, i.size, i.bytes)) = some (some .nilFunc, 1, 8) := by kernel_rfl
theorem inf_53 : (Tryd.prog.info? 53).map (fun i => (i.zero, i.size, i.bytes)) = some (some .nilFunc, 1, 8) := by kernel_rfl
theorem inf_54 : (Tryd.prog.info? 54).map (fun i => (i.zero, i.size, i.bytes)) = some (some (.agg #[(.string ⟨#[]⟩), (.string ⟨#[]⟩), (.string ⟨#[]⟩), (.string ⟨#[]⟩), (.string ⟨#[]⟩), (.string ⟨#[]⟩), (.string ⟨#[]⟩), (.string ⟨#[]⟩), (.string ⟨#[]⟩), (.string ⟨#[]⟩), (.string ⟨#[]⟩), (.string ⟨#[]⟩), (.string ⟨#[]⟩), (.string ⟨#[]⟩), (.string ⟨#[]⟩), (.string ⟨#[]⟩), (.string ⟨#[]⟩), (.string ⟨#[]⟩), (.string ⟨#[]⟩), (.string ⟨#[]⟩), (.string ⟨#[]⟩), (.string ⟨#[]⟩), (.string ⟨#[]⟩), (.string ⟨#[]⟩), (.string ⟨#[]⟩), (.string ⟨#[]⟩), (.string ⟨#[]⟩), (.string ⟨#[]⟩), (.string ⟨#[]⟩), (.string ⟨#[]⟩), (.string ⟨#[]⟩), (.string ⟨#[]⟩)]), 32, 512) := by kernel_rfl
theorem inf_55 : (Tryd.prog.info? 55).map (fun i => (i.zero, i.size, i.bytes)) = some (some .nilFunc, 1, 8) := by kernel_rfl
theorem inf_59 : (Tryd.prog.info? 59).map (fun i => (i.zero, i.size, i.bytes)) = some (some .nilFunc, 1, 8) := by kernel_rfl
theorem inf_6 : (Tryd.prog.info? 6).map (fun i => (i.zero, i.size, i.bytes)) = some (some (.int .u8 0), 1, 1) := by kernel_rfl
theorem inf_60 : (Tryd.prog.info? 60).map (fun i => (i.zero, i.size, i.bytes)) = some (some .nilFunc, 1, 8) := by kernel_rfl
theorem inf_61 : (Tryd.prog.info? 61).map (fun i => (i.zero, i.size, i.bytes)) = some (some .nilFunc, 1, 8) := by kernel_rfl
theorem inf_62 : (Tryd.prog.info? 62).map (fun i => (i.zero, i.size, i.bytes)) = some (some (.pointer none), 1, 8) := by kernel_rfl
theorem inf_63 : (Tryd.prog.info? 63).map (fun i => (i.zero, i.size, i.bytes)) = some (some (.slice none 0 0), 1, 24) := by kernel_rfl
theorem inf_64 : (Tryd.prog.info? 64).map (fun i => (i.zero, i.size, i.bytes)) = some (some (.agg #[(.pointer none), (.slice none 0 0)]), 2, 32) := by kernel_rfl
theorem inf_65 : (Tryd.prog.info? 65).map (fun i => (i.zero, i.size, i.bytes)) = some (some (.agg #[(.pointer none), (.slice none 0 0)]), 2, 32) := by kernel_rfl
theorem inf_66 : (Tryd.prog.info? 66).map (fun i => (i.zero, i.size, i.bytes)) = some (some .nilFunc, 1, 8) := by kernel_rfl
theorem inf_67 : (Tryd.prog.info? 67).map (fun i => (i.zero, i.size, i.bytes)) = some (some .nilFunc, 1, 8) := by kernel_rfl
theorem inf_68 : (Tryd.prog.info? 68).map (fun i => (i.zero, i.size, i.bytes)) = some (some .nilFunc, 1, 8) := by kernel_rfl
theorem inf_69 : (Tryd.prog.info? 69).map (fun i => (i.zero, i.size, i.bytes)) = some (some .nilFunc, 1, 8) := by kernel_rfl
theorem inf_7 : (Tryd.prog.info? 7).map (fun i => (i.zero, i.size, i.bytes)) = some (some (.agg #[(.int .i64 0), (.int .i64 0), (.bool false), (.int .u8 0)]), 4, 24) := by kernel_rfl
theorem inf_70 : (Tryd.prog.info? 70).map (fun i => (i.zero, i.size, i.bytes)) = some (some .nilFunc, 1, 8) := by kernel_rfl
theorem inf_71 : (Tryd.prog.info? 71).map (fun i => (i.zero, i.size, i.bytes)) = some (some (.pointer none), 1, 8) := by kernel_rfl
theorem inf_72 : (Tryd.prog.info? 72).map (fun i => (i.zero, i.size, i.bytes)) = some (some .nilFunc, 1, 8) := by kernel_rfl
theorem inf_73 : (Tryd.prog.info? 73).map (fun i => (i.zero, i.size, i.bytes)) = some (some .nilFunc, 1, 8) := by kernel_rfl
theorem inf_74 : (Tryd.prog.info? 74).map (fun i => (i.zero, i.size, i.bytes)) = some (some (.int .i64 0), 1, 8) := by kernel_rfl
theorem inf_76 : (Tryd.prog.info? 76).map (fun i => (i.zero, i.size, i.bytes)) = some (some .nilFunc, 1, 8) := by kernel_rfl
theorem inf_77 : (Tryd.prog.info? 77).map (fun i => (i.zero, i.size, i.bytes)) = some (some (.pointer none), 1, 8) := by kernel_rfl
theorem inf_78 : (Tryd.prog.info? 78).map (fun i => (i.zero, i.size, i.bytes)) = some (some .nilFunc, 1, 8) := by kernel_rfl
theorem inf_79 : (Tryd.prog.info? 79).map (fun i => (i.zero, i.size, i.bytes)) = some (some .nilFunc, 1, 8) := by kernel_rfl
theorem inf_8 : (Tryd.prog.info? 8).map (fun i => (i.zero, i.size, i.bytes)) = some (some (.agg #[(.int .i64 0), (.int .i64 0), (.bool false), (.int .u8 0)]), 4, 24) := by kernel_rfl
theorem inf_80 : (Tryd.prog.info? 80).map (fun i => (i.zero, i.size, i.bytes)) = some (some (.agg #[(.int .u8 0), (.int .u8 0), (.int .u8 0), (.int .u8 0), (.int .u8 0), (.int .u8 0), (.int .u8 0), (.int .u8 0), (.int .u8 0), (.int .u8 0), (.int .u8 0), (.int .u8 0), (.int .u8 0), (.int .u8 0), (.int .u8 0), (.int .u8 0), (.int .u8 0), (.int .u8 0), (.int .u8 0), (.int .u8 0), (.int .u8 0), (.int .u8 0), (.int .u8 0), (.int .u8 0)]), 24, 24) := by kernel_rfl
theorem inf_81 : (Tryd.prog.info? 81).map (fun i => (i.zero, i.size, i.bytes)) = some (some (.int .u64 0), 1, 8) := by kernel_rfl
theorem inf_82 : (Tryd.prog.info? 82).map (fun i => (i.zero, i.size, i.bytes)) = some (some .nilFunc, 1, 8) := by kernel_rfl
theorem inf_83 : (Tryd.prog.info? 83).map (fun i => (i.zero, i.size, i.bytes)) = some (some .nilFunc, 1, 8) := by kernel_rfl
theorem inf_85 : (Tryd.prog.info? 85).map (fun i => (i.zero, i.size, i.bytes)) = some (some .nilFunc, 1, 8) := by kernel_rfl
theorem inf_87 : (Tryd.prog.info? 87).map (fun i => (i.zero, i.size, i.bytes)) = some (some .nilFunc, 1, 8) := by kernel_rfl
theorem inf_88 : (Tryd.prog.info? 88).map (fun i => (i.zero, i.size, i.bytes)) = some (some .nilFunc, 1, 8) := by kernel_rfl
theorem inf_9 : (Tryd.prog.info? 9).map (fun i => (i.zero, i.size, i.bytes)) = some (some (.string ⟨#[]⟩), 1, 16) := by kernel_rfl
theorem inf_90 : (Tryd.prog.info? 90).map (fun i => (i.zero, i.size, i.bytes)) = some (some .nilFunc, 1, 8) := by kernel_rfl
theorem inf_91 : (Tryd.prog.info? 91).map (fun i => (i.zero, i.size, i.bytes)) = some (some .nilFunc, 1, 8) := by kernel_rfl
theorem inf_93 : (Tryd.prog.info? 93).map (fun i => (i.zero, i.size, i.bytes)) = some (some .nilFunc, 1, 8) := by kernel_rfl
theorem inf_94 : (Tryd.prog.info? 94).map (fun i => (i.zero, i.size, i.bytes)) = some (some (.int .u64 0), 1, 8) := by kernel_rfl
theorem inf_95 : (Tryd.prog.info? 95).map (fun i => (i.zero, i.size, i.bytes)) = some (some .nilFunc, 1, 8) := by kernel_rfl
theorem inf_96 : (Tryd.prog.info? 96).map (fun i => (i.zero, i.size, i.bytes)) = some (some (.agg #[(.string ⟨#[]⟩), (.string ⟨#[]⟩), .nilIface]), 3, 48) := by kernel_rfl
theorem inf_97 : (Tryd.prog.info? 97).map (fun i => (i.zero, i.size, i.bytes)) = some (some (.agg #[(.string ⟨#[]⟩), (.string ⟨#[]⟩), .nilIface]), 3, 48) := by kernel_rfl
theorem inf_98 : (Tryd.prog.info? 98).map (fun i => (i.zero, i.size, i.bytes)) = some (some .nilFunc, 1, 8) := by kernel_rfl
theorem inf_99 : (Tryd.prog.info? 99).map (fun i => (i.zero, i.size, i.bytes)) = some (some .nilFunc, 1, 8) := by kernel_rfl
theorem mixed_ok : Tryd.prog.follows .mixedOrders = true := by kernel_rfl
theorem sz_1 : (Tryd.prog.info? 1).map (·.size) = some 1 := by kernel_rfl
theorem sz_10 : (Tryd.prog.info? 10).map (·.size) = some 1 := by kernel_rfl
theorem sz_100 : (Tryd.prog.info? 100).map (·.size) = some 1 := by kernel_rfl
theorem sz_101 : (Tryd.prog.info? 101).map (·.size) = some 20 := by kernel_rfl
theorem sz_102 : (Tryd.prog.info? 102).map (·.size) = some 1 := by kernel_rfl
theorem sz_103 : (Tryd.prog.info? 103).map (·.size) = some 65 := by kernel_rfl
theorem sz_104 : (Tryd.prog.info? 104).map (·.size) = some 1 := by kernel_rfl
theorem sz_105 : (Tryd.prog.info? 105).map (·.size) = some 1 := by kernel_rfl
theorem sz_106 : (Tryd.prog.info? 106).map (·.size) = some 1 := by kernel_rfl
theorem sz_107 : (Tryd.prog.info? 107).map (·.size) = some 1 := by kernel_rfl
theorem sz_108 : (Tryd.prog.info? 108).map (·.size) = some 1 := by kernel_rfl
theorem sz_109 : (Tryd.prog.info? 109).map (·.size) = some 1 := by kernel_rfl
theorem sz_11 : (Tryd.prog.info? 11).map (·.size) = some 1 := by kernel_rfl
theorem sz_110 : (Tryd.prog.info? 110).map (·.size) = some 256 := by kernel_rfl
theorem sz_111 : (Tryd.prog.info? 111).map (·.size) = some 2 := by kernel_rfl
theorem sz_112 : (Tryd.prog.info? 112).map (·.size) = some 2 := by kernel_rfl
theorem sz_113 : (Tryd.prog.info? 113).map (·.size) = some 32 := by kernel_rfl
theorem sz_115 : (Tryd.prog.info? 115).map (·.size) = some 1 := by kernel_rfl
theorem sz_116 : (Tryd.prog.info? 116).map (·.size) = some 32 := by kernel_rfl
theorem sz_117 : (Tryd.prog.info? 117).map (·.size) = some 64 := by kernel_rfl
theorem sz_118 : (Tryd.prog.info? 118).map (·.size) = some 4 := by kernel_rfl
theorem sz_119 : (Tryd.prog.info? 119).map (·.size) = some 4 := by kernel_rfl
theorem sz_12 : (Tryd.prog.info? 12).map (·.size) = some 1 := by kernel_rfl
theorem sz_123 : (Tryd.prog.info? 123).map (·.size) = some 1 := by kernel_rfl
theorem sz_124 : (Tryd.prog.info? 124).map (·.size) = some 1 := by kernel_rfl
theorem sz_125 : (Tryd.prog.info? 125).map (·.size) = some 1 := by kernel_rfl
theorem sz_126 : (Tryd.prog.info? 126).map (·.size) = some 1 := by kernel_rfl
theorem sz_127 : (Tryd.prog.info? 127).map (·.size) = some 1 := by kernel_rfl
theorem sz_128 : (Tryd.prog.info? 128).map (·.size) = some 1 := by kernel_rfl
theorem sz_129 : (Tryd.prog.info? 129).map (·.size) = some 11 := by kernel_rfl
theorem sz_13 : (Tryd.prog.info? 13).map (·.size) = some 2 := by kernel_rfl
theorem sz_130 : (Tryd.prog.info? 130).map (·.size) = some 11 := by kernel_rfl
theorem sz_14 : (Tryd.prog.info? 14).map (·.size) = some 2 := by kernel_rfl
theorem sz_15 : (Tryd.prog.info? 15).map (·.size) = some 1 := by kernel_rfl
theorem sz_16 : (Tryd.prog.info? 16).map (·.size) = some 1 := by kernel_rfl
theorem sz_17 : (Tryd.prog.info? 17).map (·.size) = some 1 := by kernel_rfl
theorem sz_18 : (Tryd.prog.info? 18).map (·.size) = some 1 := by kernel_rfl
theorem sz_19 : (Tryd.prog.info? 19).map (·.size) = some 1 := by kernel_rfl
theorem sz_2 : (Tryd.prog.info? 2).map (·.size) = some 1 := by kernel_rfl
theorem sz_21 : (Tryd.prog.info? 21).map (·.size) = some 1 := by kernel_rfl
theorem sz_22 : (Tryd.prog.info? 22).map (·.size) = some 4 := by kernel_rfl
theorem sz_23 : (Tryd.prog.info? 23).map (·.size) = some 4 := by kernel_rfl
theorem sz_24 : (Tryd.prog.info? 24).map (·.size) = some 1 := by kernel_rfl
theorem sz_26 : (Tryd.prog.info? 26).map (·.size) = some 1 := by kernel_rfl
theorem sz_27 : (Tryd.prog.info? 27).map (·.size) = some 1 := by kernel_rfl
theorem sz_28 : (Tryd.prog.info? 28).map (·.size) = some 1 := by kernel_rfl
theorem sz_29 : (Tryd.prog.info? 29).map (·.size) = some 1 := by kernel_rfl
theorem sz_3 : (Tryd.prog.info? 3).map (·.size) = some 1 := by kernel_rfl
theorem sz_30 : (Tryd.prog.info? 30).map (·.size) = some 1 := by kernel_rfl
theorem sz_32 : (Tryd.prog.info? 32).map (·.size) = some 1 := by kernel_rfl
theorem sz_34 : (Tryd.prog.info? 34).map (·.size) = some 1 := by kernel_rfl
theorem sz_35 : (Tryd.prog.info? 35).map (·.size) = some 1 := by kernel_rfl
theorem sz_36 : (Tryd.prog.info? 36).map (·.size) = some 1 := by kernel_rfl
theorem sz_37 : (Tryd.prog.info? 37).map (·.size) = some 2 := by kernel_rfl
theorem sz_38 : (Tryd.prog.info? 38).map (·.size) = some 2 := by kernel_rfl
theorem sz_4 : (Tryd.prog.info? 4).map (·.size) = some 1 := by kernel_rfl
theorem sz_40 : (Tryd.prog.info? 40).map (·.size) = some 1 := by kernel_rfl
theorem sz_41 : (Tryd.prog.info? 41).map (·.size) = some 1 := by kernel_rfl
theorem sz_42 : (Tryd.prog.info? 42).map (·.size) = some 1 := by kernel_rfl
theorem sz_43 : (Tryd.prog.info? 43).map (·.size) = some 1 := by kernel_rfl
theorem sz_44 : (Tryd.prog.info? 44).map (·.size) = some 1 := by kernel_rfl
theorem sz_45 : (Tryd.prog.info? 45).map (·.size) = some 1 := by kernel_rfl
theorem sz_46 : (Tryd.prog.info? 46).map (·.size) = some 1 := by kernel_rfl
theorem sz_47 : (Tryd.prog.info? 47).map (·.size) = some 1 := by kernel_rfl
theorem sz_49 : (Tryd.prog.info? 49).map (·.size) = some 1 := by kernel_rfl
theorem sz_5 : (Tryd.prog.info? 5).map (·.size) = some 1 := by kernel_rfl
theorem sz_50 : (Tryd.prog.info? 50).map (·.size) = some 1 := by kernel_rfl
theorem sz_51 : (Tryd.prog.info? 51).map (·.size) = some 1 := by kernel_rfl
theorem sz_52 : (Tryd.prog.info? 52).map (·.size) = some 1 := by kernel_rfl
theorem sz_53 : (Tryd.prog.info? 53).map (·.size) = some 1 := by kernel_rfl
theorem sz_54 : (Tryd.prog.info? 54).map (·.size) = some 32 := by kernel_rfl
theorem sz_55 : (Tryd.prog.info? 55).map (·.size) = some 1 := by kernel_rfl
theorem sz_59 : (Tryd.prog.info? 59).map (·.size) = some 1 := by kernel_rfl
theorem sz_6 : (Tryd.prog.info? 6).map (·.size) = some 1 := by kernel_rfl
theorem sz_60 : (Tryd.prog.info? 60).map (·.size) = some 1 := by kernel_rfl
theorem sz_61 : (Tryd.prog.info? 61).map (·.size) = some 1 := by kernel_rfl
theorem sz_62 : (Tryd.prog.info? 62).map (·.size) = some 1 := by kernel_rfl
theorem sz_63 : (Tryd.prog.info? 63).map (·.size) = some 1 := by kernel_rfl
theorem sz_64 : (Tryd.prog.info? 64).map (·.size) = some 2 := by kernel_rfl
theorem sz_65 : (Tryd.prog.info? 65).map (·.size) = some 2 := by kernel_rfl
theorem sz_66 : (Tryd.prog.info? 66).map (·.size) = some 1 := by kernel_rfl
theorem sz_67 : (Tryd.prog.info? 67).map (·.size) = some 1 := by kernel_rfl
theorem sz_68 : (Tryd.prog.info? 68).map (·.size) = some 1 := by kernel_rfl
theorem sz_69 : (Tryd.prog.info? 69).map (·.size) = some 1 := by kernel_rfl
theorem sz_7 : (Tryd.prog.info? 7).map (·.size) = some 4 := by kernel_rfl
theorem sz_70 : (Tryd.prog.info? 70).map (·.size) = some 1 := by kernel_rfl
theorem sz_71 : (Tryd.prog.info? 71).map (·.size) = some 1 := by kernel_rfl
theorem sz_72 : (Tryd.prog.info? 72).map (·.size) = some 1 := by kernel_rfl
theorem sz_73 : (Tryd.prog.info? 73).map (·.size) = some 1 := by kernel_rfl
theorem sz_74 : (Tryd.prog.info? 74).map (·.size) = some 1 := by kernel_rfl
theorem sz_76 : (Tryd.prog.info? 76).map (·.size) = some 1 := by kernel_rfl
theorem sz_77 : (Tryd.prog.info? 77).map (·.size) = some 1 := by kernel_rfl
theorem sz_78 : (Tryd.prog.info? 78).map (·.size) = some 1 := by kernel_rfl
theorem sz_79 : (Tryd.prog.info? 79).map (·.size) = some 1 := by kernel_rfl
theorem sz_8 : (Tryd.prog.info? 8).map (·.size) = some 4 := by kernel_rfl
theorem sz_80 : (Tryd.prog.info? 80).map (·.size) = some 24 := by kernel_rfl
theorem sz_81 : (Tryd.prog.info? 81).map (·.size) = some 1 := by kernel_rfl
theorem sz_82 : (Tryd.prog.info? 82).map (·.size) = some 1 := by kernel_rfl
theorem sz_83 : (Tryd.prog.info? 83).map (·.size) = some 1 := by kernel_rfl
theorem sz_85 : (Tryd.prog.info? 85).map (·.size) = some 1 := by kernel_rfl
theorem sz_87 : (Tryd.prog.info? 87).map (·.size) = some 1 := by kernel_rfl
theorem sz_88 : (Tryd.prog.info? 88).map (·.size) = some 1 := by kernel_rfl
theorem sz_9 : (Tryd.prog.info? 9).map (·.size) = some 1 := by kernel_rfl
theorem sz_90 : (Tryd.prog.info? 90).map (·.size) = some 1 := by kernel_rfl
theorem sz_91 : (Tryd.prog.info? 91).map (·.size) = some 1 := by kernel_rfl
theorem sz_93 : (Tryd.prog.info? 93).map (·.size) = some 1 := by kernel_rfl
theorem sz_94 : (Tryd.prog.info? 94).map (·.size) = some 1 := by kernel_rfl
theorem sz_95 : (Tryd.prog.info? 95).map (·.size) = some 1 := by kernel_rfl
theorem sz_96 : (Tryd.prog.info? 96).map (·.size) = some 3 := by kernel_rfl
theorem sz_97 : (Tryd.prog.info? 97).map (·.size) = some 3 := by kernel_rfl
theorem sz_98 : (Tryd.prog.info? 98).map (·.size) = some 1 := by kernel_rfl
theorem sz_99 : (Tryd.prog.info? 99).map (·.size) = some 1 := by kernel_rfl
theorem ze_1 : (Tryd.prog.info? 1).map (·.zero) = some (some .nilFunc) := by kernel_rfl
theorem ze_10 : (Tryd.prog.info? 10).map (·.zero) = some (some (.string ⟨#[]⟩)) := by kernel_rfl
theorem ze_100 : (Tryd.prog.info? 100).map (·.zero) = some (some .nilFunc) := by kernel_rfl
theorem ze_101 : (Tryd.prog.info? 101).map (·.zero) = some (some (.agg #[(.int .u64 0), (.int .u64 0), (.int .u64 0), (.int .u64 0), (.int .u64 0), (.int .u64 0), (.int .u64 0), (.int .u64 0), (.int .u64 0), (.int .u64 0), (.int .u64 0), (.int .u64 0), (.int .u64 0), (.int .u64 0), (.int .u64 0), (.int .u64 0), (.int .u64 0), (.int .u64 0), (.int .u64 0), (.int .u64 0)])) := by kernel_rfl
theorem ze_102 : (Tryd.prog.info? 102).map (·.zero) = some (some (.int .u32 0)) := by kernel_rfl
theorem ze_103 : (Tryd.prog.info? 103).map (·.zero) = some (some (.agg #[(.int .u8 0), (.int .u8 0), (.int .u8 0), (.int .u8 0), (.int .u8 0), (.int .u8 0), (.int .u8 0), (.int .u8 0), (.int .u8 0), (.int .u8 0), (.int .u8 0), (.int .u8 0), (.int .u8 0), (.int .u8 0), (.int .u8 0), (.int .u8 0), (.int .u8 0), (.int .u8 0), (.int .u8 0), (.int .u8 0), (.int .u8 0), (.int .u8 0), (.int .u8 0), (.int .u8 0), (.int .u8 0), (.int .u8 0), (.int .u8 0), (.int .u8 0), (.int .u8 0), (.int .u8 0), (.int .u8 0), (.int .u8 0), (.int .u8 0), (.int .u8 0), (.int .u8 0), (.int .u8 0), (.int .u8 0), (.int .u8 0), (.int .u8 0), (.int .u8 0), (.int .u8 0), (.int .u8 0), (.int .u8 0), (.int .u8 0), (.int .u8 0), (.int .u8 0), (.int .u8 0), (.int .u8 0), (.int .u8 0), (.int .u8 0), (.int .u8 0), (.int .u8 0), (.int .u8 0), (.int .u8 0), (.int .u8 0), (.int .u8 0), (.int .u8 0), (.int .u8 0), (.int .u8 0), (.int .u8 0), (.int .u8 0), (.int .u8 0), (.int .u8 0), (.int .u8 0), (.int .u8 0)])) := by kernel_rfl
theorem ze_104 : (Tryd.prog.info? 104).map (·.zero) = some (some .nilFunc) := by kernel_rfl
theorem ze_105 : (Tryd.prog.info? 105).map (·.zero) = some (some .nilFunc) := by kernel_rfl
theorem ze_106 : (Tryd.prog.info? 106).map (·.zero) = some (some (.pointer none)) := by kernel_rfl
theorem ze_107 : (Tryd.prog.info? 107).map (·.zero) = some (some (.agg #[(.string ⟨#[]⟩)])) := by kernel_rfl
theorem ze_108 : (Tryd.prog.info? 108).map (·.zero) = some (some (.agg #[(.string ⟨#[]⟩)])) := by kernel_rfl
theorem ze_109 : (Tryd.prog.info? 109).map (·.zero) = some (some .nilFunc) := by kernel_rfl
theorem ze_11 : (Tryd.prog.info? 11).map (·.zero) = some (some (.string ⟨#[]⟩)) := by kernel_rfl
theorem ze_110 : (Tryd.prog.info? 110).map (·.zero) = some (some (.agg #[(.int .u8 0), (.int .u8 0), (.int .u8 0), (.int .u8 0), (.int .u8 0), (.int .u8 0), (.int .u8 0), (.int .u8 0), (.int .u8 0), (.int .u8 0), (.int .u8 0), (.int .u8 0), (.int .u8 0), (.int .u8 0), (.int .u8 0), (.int .u8 0), (.int .u8 0), (.int .u8 0), (.int .u8 0), (.int .u8 0), (.int .u8 0), (.int .u8 0), (.int .u8 0), (.int .u8 0), (.int .u8 0), (.int .u8 0), (.int .u8 0), (.int .u8 0), (.int .u8 0), (.int .u8 0), (.int .u8 0), (.int .u8 0), (.int .u8 0), (.int .u8 0), (.int .u8 0), (.int .u8 0), (.int .u8 0), (.int .u8 0), (.int .u8 0), (.int .u8 0), (.int .u8 0), (.int .u8 0), (.int .u8 0), (.int .u8 0), (.int .u8 0), (.int .u8 0), (.int .u8 0), (.int .u8 0), (.int .u8 0), (.int .u8 0), (.int .u8 0), (.int .u8 0), (.int .u8 0), (.int .u8 0), (.int .u8 0), (.int .u8 0), (.int .u8 0), (.int .u8 0), (.int .u8 0), (.int .u8 0), (.int .u8 0), (.int .u8 0), (.int .u8 0), (.int .u8 0), (.int .u8 0), (.int .u8 0), (.int .u8 0), (.int .u8 0), (.int .u8 0), (.int .u8 0), (.int .u8 0), (.int .u8 0), (.int .u8 0), (.int .u8 0), (.int .u8 0), (.int .u8 0), (.int .u8 0), (.int .u8 0), (.int .u8 0), (.int .u8 0), (.int .u8 0), (.int .u8 0), (.int .u8 0), (.int .u8 0), (.int .u8 0), (.int .u8 0), (.int .u8 0), (.int .u8 0), (.int .u8 0), (.int .u8 0), (.int .u8 0), (.int .u8 0), (.int .u8 0), (.int .u8 0), (.int .u8 0), (.int .u8 0), (.int .u8 0), (.int .u8 0), (.int .u8 0), (.int .u8 0), (.int .u8 0), (.int .u8 0), (.int .u8 0), (.int .u8 0), (.int .u8 0), (.int .u8 0), (.int .u8 0), (.int .u8 0), (.int .u8 0), (.int .u8 0), (.int .u8 0), (.int .u8 0), (.int .u8 0), (.int .u8 0), (.int .u8 0), (.int .u8 0), (.int .u8 0), (.int .u8 0), (.int .u8 0), (.int .u8 0), (.int .u8 0), (.int .u8 0), (.int .u8 0), (.int .u8 0), (.int .u8 0), (.int .u8 0), (.int .u8 0), (.int .u8 0), (.int .u8 0), (.int .u8 0), (.int .u8 0), (.int .u8 0), (.int .u8 0), (.int .u8 0), (.int .u8 0), (.int .u8 0), (.int .u8 0), (.int .u8 0), (.int .u8 0), (.int .u8 0), (.int .u8 0), (.int .u8 0), (.int .u8 0), (.int .u8 0), (.int .u8 0), (.int .u8 0), (.int .u8 0), (.int .u8 0), (.int .u8 0), (.int .u8 0), (.int .u8 0), (.int .u8 0), (.int .u8 0), (.int .u8 0), (.int .u8 0), (.int .u8 0), (.int .u8 0), (.int .u8 0), (.int .u8 0), (.int .u8 0), (.int .u8 0), (.int .u8 0), (.int .u8 0), (.int .u8 0), (.int .u8 0), (.int .u8 0), (.int .u8 0), (.int .u8 0), (.int .u8 0), (.int .u8 0), (.int .u8 0), (.int .u8 0), (.int .u8 0), (.int .u8 0), (.int .u8 0), (.int .u8 0), (.int .u8 0), (.int .u8 0), (.int .u8 0), (.int .u8 0), (.int .u8 0), (.int .u8 0), (.int .u8 0), (.int .u8 0), (.int .u8 0), (.int .u8 0), (.int .u8 0), (.int .u8 0), (.int .u8 0), (.int .u8 0), (.int .u8 0), (.int .u8 0), (.int .u8 0), (.int .u8 0), (.int .u8 0), (.int .u8 0), (.int .u8 0), (.int .u8 0), (.int .u8 0), (.int .u8 0), (.int .u8 0), (.int .u8 0), (.int .u8 0), (.int .u8 0), (.int .u8 0), (.int .u8 0), (.int .u8 0), (.int .u8 0), (.int .u8 0), (.int .u8 0), (.int .u8 0), (.int .u8 0), (.int .u8 0), (.int .u8 0), (.int .u8 0), (.int .u8 0), (.int .u8 0), (.int .u8 0), (.int .u8 0), (.int .u8 0), (.int .u8 0), (.int .u8 0), (.int .u8 0), (.int .u8 0), (.int .u8 0), (.int .u8 0), (.int .u8 0), (.int .u8 0), (.int .u8 0), (.int .u8 0), (.int .u8 0), (.int .u8 0), (.int .u8 0), (.int .u8 0), (.int .u8 0), (.int .u8 0), (.int .u8 0), (.int .u8 0), (.int .u8 0), (.int .u8 0), (.int .u8 0), (.int .u8 0), (.int .u8 0), (.int .u8 0), (.int .u8 0), (.int .u8 0), (.int .u8 0), (.int .u8 0), (.int .u8 0), (.int .u8 0), (.int .u8 0), (.int .u8 0), (.int .u8 0), (.int .u8 0), (.int .u8 0), (.int .u8 0)])) := by kernel_rfl
theorem ze_111 : (Tryd.prog.info? 111).map (·.zero) = some (some (.agg #[(.int .u8 0), (.int .u8 0)])) := by kernel_rfl
theorem ze_112 : (Tryd.prog.info? 112).map (·.zero) = some (some (.agg #[(.int .u8 0), (.int .u8 0)])) := by kernel_rfl
theorem ze_113 : (Tryd.prog.info? 113).map (·.zero) = some (some (.agg #[(.int .u8 0), (.int .u8 0), (.int .u8 0), (.int .u8 0), (.int .u8 0), (.int .u8 0), (.int .u8 0), (.int .u8 0), (.int .u8 0), (.int .u8 0), (.int .u8 0), (.int .u8 0), (.int .u8 0), (.int .u8 0), (.int .u8 0), (.int .u8 0), (.int .u8 0), (.int .u8 0), (.int .u8 0), (.int .u8 0), (.int .u8 0), (.int .u8 0), (.int .u8 0), (.int .u8 0), (.int .u8 0), (.int .u8 0), (.int .u8 0), (.int .u8 0), (.int .u8 0), (.int .u8 0), (.int .u8 0), (.int .u8 0)])) := by kernel_rfl
theorem ze_115 : (Tryd.prog.info? 115).map (·.zero) = some (some .nilFunc) := by kernel_rfl
theorem ze_116 : (Tryd.prog.info? 116).map (·.zero) = some (some (.agg #[(.int .u8 0), (.int .u8 0), (.int .u8 0), (.int .u8 0), (.int .u8 0), (.int .u8 0), (.int .u8 0), (.int .u8 0), (.int .u8 0), (.int .u8 0), (.int .u8 0), (.int .u8 0), (.int .u8 0), (.int .u8 0), (.int .u8 0), (.int .u8 0), (.int .u8 0), (.int .u8 0), (.int .u8 0), (.int .u8 0), (.int .u8 0), (.int .u8 0), (.int .u8 0), (.int .u8 0), (.int .u8 0), (.int .u8 0), (.int .u8 0), (.int .u8 0), (.int .u8 0), (.int .u8 0), (.int .u8 0), (.int .u8 0)])) := by kernel_rfl
theorem ze_117 : (Tryd.prog.info? 117).map (·.zero) = some (some (.agg #[(.int .u8 0), (.int .u8 0), (.int .u8 0), (.int .u8 0), (.int .u8 0), (.int .u8 0), (.int .u8 0), (.int .u8 0), (.int .u8 0), (.int .u8 0), (.int .u8 0), (.int .u8 0), (.int .u8 0), (.int .u8 0), (.int .u8 0), (.int .u8 0), (.int .u8 0), (.int .u8 0), (.int .u8 0), (.int .u8 0), (.int .u8 0), (.int .u8 0), (.int .u8 0), (.int .u8 0), (.int .u8 0), (.int .u8 0), (.int .u8 0), (.int .u8 0), (.int .u8 0), (.int .u8 0), (.int .u8 0), (.int .u8 0), (.int .u8 0), (.int .u8 0), (.int .u8 0), (.int .u8 0), (.int .u8 0), (.int .u8 0), (.int .u8 0), (.int .u8 0), (.int .u8 0), (.int .u8 0), (.int .u8 0), (.int .u8 0), (.int .u8 0), (.int .u8 0), (.int .u8 0), (.int .u8 0), (.int .u8 0), (.int .u8 0), (.int .u8 0), (.int .u8 0), (.int .u8 0), (.int .u8 0), (.int .u8 0), (.int .u8 0), (.int .u8 0), (.int .u8 0), (.int .u8 0), (.int .u8 0), (.int .u8 0), (.int .u8 0), (.int .u8 0), (.int .u8 0)])) := by kernel_rfl
theorem ze_118 : (Tryd.prog.info? 118).map (·.zero) = some (some (.agg #[(.pointer none), (.pointer none), (.pointer none), (.string ⟨#[]⟩)])) := by kernel_rfl
theorem ze_119 : (Tryd.prog.info? 119).map (·.zero) = some (some (.agg #[(.pointer none), (.pointer none), (.pointer none), (.string ⟨#[]⟩)])) := by kernel_rfl
theorem ze_12 : (Tryd.prog.info? 12).map (·.zero) = some (some (.int .u64 0)) := by kernel_rfl
theorem ze_123 : (Tryd.prog.info? 123).map (·.zero) = some (some .nilFunc) := by kernel_rfl
theorem ze_124 : (Tryd.prog.info? 124).map (·.zero) = some (some (.int .u8 0)) := by kernel_rfl
theorem ze_125 : (Tryd.prog.info? 125).map (·.zero) = some (some (.int .u8 0)) := by kernel_rfl
theorem ze_126 : (Tryd.prog.info? 126).map (·.zero) = some (some .nilFunc) := by kernel_rfl
theorem ze_127 : (Tryd.prog.info? 127).map (·.zero) = some (some (.int .i32 0)) := by kernel_rfl
theorem ze_128 : (Tryd.prog.info? 128).map (·.zero) = some (some (.int .i32 0)) := by kernel_rfl
theorem ze_129 : (Tryd.prog.info? 129).map (·.zero) = some (some (.agg #[(.int .u64 0), (.int .u64 0), (.int .u32 0), (.int .u8 0), (.int .u8 0), (.int .u8 0), (.int .u8 0), .nilFunc, (.pointer none), (.int .i32 0), (.int .i32 0)])) := by kernel_rfl
theorem ze_13 : (Tryd.prog.info? 13).map (·.zero) = some (some (.agg #[(.string ⟨#[]⟩), (.int .u64 0)])) := by kernel_rfl
theorem ze_130 : (Tryd.prog.info? 130).map (·.zero) = some (some (.agg #[(.int .u64 0), (.int .u64 0), (.int .u32 0), (.int .u8 0), (.int .u8 0), (.int .u8 0), (.int .u8 0), .nilFunc, (.pointer none), (.int .i32 0), (.int .i32 0)])) := by kernel_rfl
theorem ze_14 : (Tryd.prog.info? 14).map (·.zero) = some (some (.agg #[(.string ⟨#[]⟩), (.int .u64 0)])) := by kernel_rfl
theorem ze_15 : (Tryd.prog.info? 15).map (·.zero) = some (some (.pointer none)) := by kernel_rfl
theorem ze_16 : (Tryd.prog.info? 16).map (·.zero) = some (some (.pointer none)) := by kernel_rfl
theorem ze_17 : (Tryd.prog.info? 17).map (·.zero) = some (some (.pointer none)) := by kernel_rfl
theorem ze_18 : (Tryd.prog.info? 18).map (·.zero) = some (some (.agg #[(.pointer none)])) := by kernel_rfl
theorem ze_19 : (Tryd.prog.info? 19).map (·.zero) = some (some (.agg #[(.pointer none)])) := by kernel_rfl
theorem ze_2 : (Tryd.prog.info? 2).map (·.zero) = some (some (.int .i64 0)) := by kernel_rfl
theorem ze_21 : (Tryd.prog.info? 21).map (·.zero) = some (some (.int .i32 0)) := by kernel_rfl
theorem ze_22 : (Tryd.prog.info? 22).map (·.zero) = some (some (.agg #[(.int .i64 0), (.int .i64 0), (.int .i64 0), (.int .i64 0)])) := by kernel_rfl
theorem ze_23 : (Tryd.prog.info? 23).map (·.zero) = some (some (.agg #[(.int .i64 0), (.int .i64 0), (.int .i64 0), (.int .i64 0)])) := by kernel_rfl
theorem ze_24 : (Tryd.prog.info? 24).map (·.zero) = some (some (.int .i64 0)) := by kernel_rfl
theorem ze_26 : (Tryd.prog.info? 26).map (·.zero) = some (some .nilFunc) := by kernel_rfl
theorem ze_27 : (Tryd.prog.info? 27).map (·.zero) = some (some .nilFunc) := by kernel_rfl
theorem ze_28 : (Tryd.prog.info? 28).map (·.zero) = some (some .nilFunc) := by kernel_rfl
theorem ze_29 : (Tryd.prog.info? 29).map (·.zero) = some (some .nilFunc) := by kernel_rfl
theorem ze_3 : (Tryd.prog.info? 3).map (·.zero) = some (some (.int .i64 0)) := by kernel_rfl
theorem ze_30 : (Tryd.prog.info? 30).map (·.zero) = some (some .nilFunc) := by kernel_rfl
theorem ze_32 : (Tryd.prog.info? 32).map (·.zero) = some (some .nilFunc) := by kernel_rfl
theorem ze_34 : (Tryd.prog.info? 34).map (·.zero) = some (some .nilFunc) := by kernel_rfl
theorem ze_35 : (Tryd.prog.info? 35).map (·.zero) = some (some .nilFunc) := by kernel_rfl
theorem ze_36 : (Tryd.prog.info? 36).map (·.zero) = some (some .nilFunc) := by kernel_rfl
theorem ze_37 : (Tryd.prog.info? 37).map (·.zero) = some (some (.agg #[(.string ⟨#[]⟩), (.string ⟨#[]⟩)])) := by kernel_rfl
theorem ze_38 : (Tryd.prog.info? 38).map (·.zero) = some (some (.agg #[(.string ⟨#[]⟩), (.string ⟨#[]⟩)])) := by kernel_rfl
theorem ze_4 : (Tryd.prog.info? 4).map (·.zero) = some (some (.bool false)) := by kernel_rfl
theorem ze_40 : (Tryd.prog.info? 40).map (·.zero) = some (some .nilFunc) := by kernel_rfl
theorem ze_41 : (Tryd.prog.info? 41).map (·.zero) = some (some (.slice none 0 0)) := by kernel_rfl
theorem ze_42 : (Tryd.prog.info? 42).map (·.zero) = some (some .nilFunc) := by kernel_rfl
theorem ze_43 : (Tryd.prog.info? 43).map (·.zero) = some (some (.pointer none)) := by kernel_rfl
theorem ze_44 : (Tryd.prog.info? 44).map (·.zero) = some (some .nilFunc) := by kernel_rfl
theorem ze_45 : (Tryd.prog.info? 45).map (·.zero) = some (some (.pointer none)) := by kernel_rfl
theorem ze_46 : (Tryd.prog.info? 46).map (·.zero) = some (some .nilFunc) := by kernel_rfl
theorem ze_47 : (Tryd.prog.info? 47).map (·.zero) = some (some .nilFunc) := by kernel_rfl
theorem ze_49 : (Tryd.prog.info? 49).map (·.zero) = some (some .nilFunc) := by kernel_rfl
theorem ze_5 : (Tryd.prog.info? 5).map (·.zero) = some (some (.int .u8 0)) := by kernel_rfl
theorem ze_50 : (Tryd.prog.info? 50).map (·.zero) = some (some .nilFunc) := by kernel_rfl
theorem ze_51 : (Tryd.prog.info? 51).map (·.zero) = some (some .nilFunc) := by kernel_rfl
theorem ze_52 : (Tryd.prog.info? 52).map (·.zero) = some (some .nilFunc) := by kernel_rfl
theorem ze_53 : (Tryd.prog.info? 53).map (·.zero) = some (some .nilFunc) := by kernel_rfl
theorem ze_54 : (Tryd.prog.info? 54).map (·.zero) = some (some (.agg #[(.string ⟨#[]⟩), (.string ⟨#[]⟩), (.string ⟨#[]⟩), (.string ⟨#[]⟩), (.string ⟨#[]⟩), (.string ⟨#[]⟩), (.string ⟨#[]⟩), (.string ⟨#[]⟩), (.string ⟨#[]⟩), (.string ⟨#[]⟩), (.string ⟨#[]⟩), (.string ⟨#[]⟩), (.string ⟨#[]⟩), (.string ⟨#[]⟩), (.string ⟨#[]⟩), (.string ⟨#[]⟩), (.string ⟨#[]⟩), (.string ⟨#[]⟩), (.string ⟨#[]⟩), (.string ⟨#[]⟩), (.string ⟨#[]⟩), (.string ⟨#[]⟩), (.string ⟨#[]⟩), (.string ⟨#[]⟩), (.string ⟨#[]⟩), (.string ⟨#[]⟩), (.string ⟨#[]⟩), (.string ⟨#[]⟩), (.string ⟨#[]⟩), (.string ⟨#[]⟩), (.string ⟨#[]⟩), (.string ⟨#[]⟩)])) := by kernel_rfl
theorem ze_55 : (Tryd.prog.info? 55).map (·.zero) = some (some .nilFunc) := by kernel_rfl
theorem ze_59 : (Tryd.prog.info? 59).map (·.zero) = some (some .nilFunc) := by kernel_rfl
theorem ze_6 : (Tryd.prog.info? 6).map (·.zero) = some (some (.int .u8 0)) := by kernel_rfl
theorem ze_60 : (Tryd.prog.info? 60).map (·.zero) = some (some .nilFunc) := by kernel_rfl
theorem ze_61 : (Tryd.prog.info? 61).map (·.zero) = some (some .nilFunc) := by kernel_rfl
theorem ze_62 : (Tryd.prog.info? 62).map (·.zero) = some (some (.pointer none)) := by kernel_rfl
theorem ze_63 : (Tryd.prog.info? 63).map (·.zero) = some (some (.slice none 0 0)) := by kernel_rfl
theorem ze_64 : (Tryd.prog.info? 64).map (·.zero) = some (some (.agg #[(.pointer none), (.slice none 0 0)])) := by kernel_rfl
theorem ze_65 : (Tryd.prog.info? 65).map (·.zero) = some (some (.agg #[(.pointer none), (.slice none 0 0)])) := by kernel_rfl
theorem ze_66 : (Tryd.prog.info? 66).map (·.zero) = some (some .nilFunc) := by kernel_rfl
theorem ze_67 : (Tryd.prog.info? 67).map (·.zero) = some (some .nilFunc) := by kernel_rfl
theorem ze_68 : (Tryd.prog.info? 68).map (·.zero) = some (some .nilFunc) := by kernel_rfl
theorem ze_69 : (Tryd.prog.info? 69).map (·.zero) = some (some .nilFunc) := by kernel_rfl
theorem ze_7 : (Tryd.prog.info? 7).map (·.zero) = some (some (.agg #[(.int .i64 0), (.int .i64 0), (.bool false), (.int .u8 0)])) := by kernel_rfl
theorem ze_70 : (Tryd.prog.info? 70).map (·.zero) = some (some .nilFunc) := by kernel_rfl
theorem ze_71 : (Tryd.prog.info? 71).map (·.zero) = some (some (.pointer none)) := by kernel_rfl
theorem ze_72 : (Tryd.prog.info? 72).map (·.zero) = some (some .nilFunc) := by kernel_rfl
theorem ze_73 : (Tryd.prog.info? 73).map (·.zero) = some (some .nilFunc) := by kernel_rfl
theorem ze_74 : (Tryd.prog.info? 74).map (·.zero) = some (some (.int .i64 0)) := by kernel_rfl
theorem ze_76 : (Tryd.prog.info? 76).map (·.zero) = some (some .nilFunc) := by kernel_rfl
theorem ze_77 : (Tryd.prog.info? 77).map (·.zero) = some (some (.pointer none)) := by kernel_rfl
theorem ze_78 : (Tryd.prog.info? 78).map (·.zero) = some (some .nilFunc) := by kernel_rfl
theorem ze_79 : (Tryd.prog.info? 79).map (·.zero) = some (some .nilFunc) := by kernel_rfl
theorem ze_8 : (Tryd.prog.info? 8).map (·.zero) = some (some (.agg #[(.int .i64 0), (.int .i64 0), (.bool false), (.int .u8 0)])) := by kernel_rfl
theorem ze_80 : (Tryd.prog.info? 80).map (·.zero) = some (some (.agg #[(.int .u8 0), (.int .u8 0), (.int .u8 0), (.int .u8 0), (.int .u8 0), (.int .u8 0), (.int .u8 0), (.int .u8 0), (.int .u8 0), (.int .u8 0), (.int .u8 0), (.int .u8 0), (.int .u8 0), (.int .u8 0), (.int .u8 0), (.int .u8 0), (.int .u8 0), (.int .u8 0), (.int .u8 0), (.int .u8 0), (.int .u8 0), (.int .u8 0), (.int .u8 0), (.int .u8 0)])) := by kernel_rfl
theorem ze_81 : (Tryd.prog.info? 81).map (·.zero) = some (some (.int .u64 0)) := by kernel_rfl
theorem ze_82 : (Tryd.prog.info? 82).map (·.zero) = some (some .nilFunc) := by kernel_rfl
theorem ze_83 : (Tryd.prog.info? 83).map (·.zero) = some (some .nilFunc) := by kernel_rfl
theorem ze_85 : (Tryd.prog.info? 85).map (·.zero) = some (some .nilFunc) := by kernel_rfl
theorem ze_87 : (Tryd.prog.info? 87).map (·.zero) = some (some .nilFunc) := by kernel_rfl
theorem ze_88 : (Tryd.prog.info? 88).map (·.zero) = some (some .nilFunc) := by kernel_rfl
theorem ze_9 : (Tryd.prog.info? 9).map (·.zero) = some (some (.string ⟨#[]⟩)) := by kernel_rfl
theorem ze_90 : (Tryd.prog.info? 90).map (·.zero) = some (some .nilFunc) := by kernel_rfl
theorem ze_91 : (Tryd.prog.info? 91).map (·.zero) = some (some .nilFunc) := by kernel_rfl
theorem ze_93 : (Tryd.prog.info? 93).map (·.zero) = some (some .nilFunc) := by kernel_rfl
theorem ze_94 : (Tryd.prog.info? 94).map (·.zero) = some (some (.int .u64 0)) := by kernel_rfl
theorem ze_95 : (Tryd.prog.info? 95).map (·.zero) = some (some .nilFunc) := by kernel_rfl
theorem ze_96 : (Tryd.prog.info? 96).map (·.zero) = some (some (.agg #[(.string ⟨#[]⟩), (.string ⟨#[]⟩), .nilIface])) := by kernel_rfl
theorem ze_97 : (Tryd.prog.info? 97).map (·.zero) = some (some (.agg #[(.string ⟨#[]⟩), (.string ⟨#[]⟩), .nilIface])) := by kernel_rfl
theorem ze_98 : (Tryd.prog.info? 98).map (·.zero) = some (some .nilFunc) := by kernel_rfl
theorem ze_99 : (Tryd.prog.info? 99).map (·.zero) = some (some .nilFunc) := by kernel_rfl
theorem eqt_23 (a0 a1 a2 a3 b0 b1 b2 b3 : Int) (x y : Operand) (w : World) : (do eqGuard .eql 23 x y (.agg #[.int .i64 a0, .int .i64 a1, .int .i64 a2, .int .i64 a3]) (.agg #[.int .i64 b0, .int .i64 b1, .int .i64 b2, .int .i64 b3]); binOp .eql 23 (.agg #[.int .i64 a0, .int .i64 a1, .int .i64 a2, .int .i64 a3]) (.agg #[.int .i64 b0, .int .i64 b1, .int .i64 b2, .int .i64 b3]) : Sem Value).run Tryd.prog w = .ok (.bool (decide ((a0 = b0 ∧ a1 = b1 ∧ a2 = b2 ∧ a3 = b3)))) w := by
  have h := (eqS (P := Tryd.prog) (T := 23) (by kernel_rfl) (by kernel_rfl) (by kernel_rfl) (by kernel_rfl) [a0, a1, a2, a3] [b0, b1, b2, b3] (by kernel_rfl) (by kernel_rfl) x y w).1
  rwa [show (decide ([a0, a1, a2, a3] = [b0, b1, b2, b3])) = decide ((a0 = b0 ∧ a1 = b1 ∧ a2 = b2 ∧ a3 = b3)) by simp] at h
theorem net_23 (a0 a1 a2 a3 b0 b1 b2 b3 : Int) (x y : Operand) (w : World) : (do eqGuard .neq 23 x y (.agg #[.int .i64 a0, .int .i64 a1, .int .i64 a2, .int .i64 a3]) (.agg #[.int .i64 b0, .int .i64 b1, .int .i64 b2, .int .i64 b3]); binOp .neq 23 (.agg #[.int .i64 a0, .int .i64 a1, .int .i64 a2, .int .i64 a3]) (.agg #[.int .i64 b0, .int .i64 b1, .int .i64 b2, .int .i64 b3]) : Sem Value).run Tryd.prog w = .ok (.bool (decide (¬ (a0 = b0 ∧ a1 = b1 ∧ a2 = b2 ∧ a3 = b3)))) w := by
  have h := (eqS (P := Tryd.prog) (T := 23) (by kernel_rfl) (by kernel_rfl) (by kernel_rfl) (by kernel_rfl) [a0, a1, a2, a3] [b0, b1, b2, b3] (by kernel_rfl) (by kernel_rfl) x y w).2
  rwa [show (!(decide ([a0, a1, a2, a3] = [b0, b1, b2, b3]))) = decide (¬ (a0 = b0 ∧ a1 = b1 ∧ a2 = b2 ∧ a3 = b3)) by simp] at h
end Go.Proofs.YtfkngjglnhfdcaaDoor
