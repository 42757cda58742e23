/- Closed facts on the program's types and functions. -/
import Derived.Test.YtcmdoecoiogjjaaGreatProg
import Derived.Test.YtcmdoecoiogjjaaGreatEng
namespace Go.Proofs.YtcmdoecoiogjjaaGreat
set_option linter.unusedVariables false
set_option linter.unusedSimpArgs false
open Go.RowKit
theorem en_100 : Enters Tryz.prog 100 := enters_of Tryz.func100 (by kernel_rfl) rfl
theorem en_101 : Enters Tryz.prog 101 := enters_of Tryz.func101 (by kernel_rfl) rfl
theorem en_102 : Enters Tryz.prog 102 := enters_of Tryz.func102 (by kernel_rfl) rfl
theorem en_103 : Enters Tryz.prog 103 := enters_of Tryz.func103 (by kernel_rfl) rfl
theorem en_104 : Enters Tryz.prog 104 := enters_of Tryz.func104 (by kernel_rfl) rfl
theorem en_105 : Enters Tryz.prog 105 := enters_of Tryz.func105 (by kernel_rfl) rfl
theorem en_106 : Enters Tryz.prog 106 := enters_of Tryz.func106 (by kernel_rfl) rfl
theorem en_107 : Enters Tryz.prog 107 := enters_of Tryz.func107 (by kernel_rfl) rfl
theorem en_108 : Enters Tryz.prog 108 := enters_of Tryz.func108 (by kernel_rfl) rfl
theorem en_109 : Enters Tryz.prog 109 := enters_of Tryz.func109 (by kernel_rfl) rfl
theorem en_110 : Enters Tryz.prog 110 := enters_of Tryz.func110 (by kernel_rfl) rfl
theorem en_111 : Enters Tryz.prog 111 := enters_of Tryz.func111 (by kernel_rfl) rfl
theorem en_115 : Enters Tryz.prog 115 := enters_of Tryz.func115 (by kernel_rfl) rfl
theorem en_116 : Enters Tryz.prog 116 := enters_of Tryz.func116 (by kernel_rfl) rfl
theorem en_117 : Enters Tryz.prog 117 := enters_of Tryz.func117 (by kernel_rfl) rfl
theorem en_118 : Enters Tryz.prog 118 := enters_of Tryz.func118 (by kernel_rfl) rfl
theorem en_119 : Enters Tryz.prog 119 := enters_of Tryz.func119 (by kernel_rfl) rfl
theorem en_12 : Enters Tryz.prog 12 := enters_of Tryz.func12 (by kernel_rfl) rfl
theorem en_121 : Enters Tryz.prog 121 := enters_of Tryz.func121 (by kernel_rfl) rfl
theorem en_122 : Enters Tryz.prog 122 := enters_of Tryz.func122 (by kernel_rfl) rfl
theorem en_126 : Enters Tryz.prog 126 := enters_of Tryz.func126 (by kernel_rfl) rfl
theorem en_127 : Enters Tryz.prog 127 := enters_of Tryz.func127 (by kernel_rfl) rfl
theorem en_128 : Enters Tryz.prog 128 := enters_of Tryz.func128 (by kernel_rfl) rfl
theorem en_129 : Enters Tryz.prog 129 := enters_of Tryz.func129 (by kernel_rfl) rfl
theorem en_13 : Enters Tryz.prog 13 := enters_of Tryz.func13 (by kernel_rfl) rfl
theorem en_131 : Enters Tryz.prog 131 := enters_of Tryz.func131 (by kernel_rfl) rfl
theorem en_132 : Enters Tryz.prog 132 := enters_of Tryz.func132 (by kernel_rfl) rfl
theorem en_133 : Enters Tryz.prog 133 := enters_of Tryz.func133 (by kernel_rfl) rfl
theorem en_134 : Enters Tryz.prog 134 := enters_of Tryz.func134 (by kernel_rfl) rfl
theorem en_139 : Enters Tryz.prog 139 := enters_of Tryz.func139 (by kernel_rfl) rfl
theorem en_140 : Enters Tryz.prog 140 := enters_of Tryz.func140 (by kernel_rfl) rfl
theorem en_141 : Enters Tryz.prog 141 := enters_of Tryz.func141 (by kernel_rfl) rfl
theorem en_142 : Enters Tryz.prog 142 := enters_of Tryz.func142 (by kernel_rfl) rfl
theorem en_143 : Enters Tryz.prog 143 := enters_of Tryz.func143 (by kernel_rfl) rfl
theorem en_146 : Enters Tryz.prog 146 := enters_of Tryz.func146 (by kernel_rfl) rfl
theorem en_147 : Enters Tryz.prog 147 := enters_of Tryz.func147 (by kernel_rfl) rfl
theorem en_148 : Enters Tryz.prog 148 := enters_of Tryz.func148 (by kernel_rfl) rfl
theorem en_152 : Enters Tryz.prog 152 := enters_of Tryz.func152 (by kernel_rfl) rfl
theorem en_153 : Enters Tryz.prog 153 := enters_of Tryz.func153 (by kernel_rfl) rfl
theorem en_154 : Enters Tryz.prog 154 := enters_of Tryz.func154 (by kernel_rfl) rfl
theorem en_157 : Enters Tryz.prog 157 := enters_of Tryz.func157 (by kernel_rfl) rfl
theorem en_22 : Enters Tryz.prog 22 := enters_of Tryz.func22 (by kernel_rfl) rfl
theorem en_25 : Enters Tryz.prog 25 := enters_of Tryz.func25 (by kernel_rfl) rfl
theorem en_28 : Enters Tryz.prog 28 := enters_of Tryz.func28 (by kernel_rfl) rfl
theorem en_29 : Enters Tryz.prog 29 := enters_of Tryz.func29 (by kernel_rfl) rfl
theorem en_30 : Enters Tryz.prog 30 := enters_of Tryz.func30 (by kernel_rfl) rfl
theorem en_31 : Enters Tryz.prog 31 := enters_of Tryz.func31 (by kernel_rfl) rfl
theorem en_32 : Enters Tryz.prog 32 := enters_of Tryz.func32 (by kernel_rfl) rfl
theorem en_33 : Enters Tryz.prog 33 := enters_of Tryz.func33 (by kernel_rfl) rfl
theorem en_34 : Enters Tryz.prog 34 := enters_of Tryz.func34 (by kernel_rfl) rfl
theorem en_38 : Enters Tryz.prog 38 := enters_of Tryz.func38 (by kernel_rfl) rfl
theorem en_39 : Enters Tryz.prog 39 := enters_of Tryz.func39 (by kernel_rfl) rfl
theorem en_40 : Enters Tryz.prog 40 := enters_of Tryz.func40 (by kernel_rfl) rfl
theorem en_42 : Enters Tryz.prog 42 := enters_of Tryz.func42 (by kernel_rfl) rfl
theorem en_43 : Enters Tryz.prog 43 := enters_of Tryz.func43 (by kernel_rfl) rfl
theorem en_44 : Enters Tryz.prog 44 := enters_of Tryz.func44 (by kernel_rfl) rfl
theorem en_45 : Enters Tryz.prog 45 := enters_of Tryz.func45 (by kernel_rfl) rfl
theorem en_46 : Enters Tryz.prog 46 := enters_of Tryz.func46 (by kernel_rfl) rfl
theorem en_47 : Enters Tryz.prog 47 := enters_of Tryz.func47 (by kernel_rfl) rfl
theorem en_48 : Enters Tryz.prog 48 := enters_of Tryz.func48 (by kernel_rfl) rfl
theorem en_49 : Enters Tryz.prog 49 := enters_of Tryz.func49 (by kernel_rfl) rfl
theorem en_51 : Enters Tryz.prog 51 := enters_of Tryz.func51 (by kernel_rfl) rfl
theorem en_52 : Enters Tryz.prog 52 := enters_of Tryz.func52 (by kernel_rfl) rfl
theorem en_53 : Enters Tryz.prog 53 := enters_of Tryz.func53 (by kernel_rfl) rfl
theorem en_65 : Enters Tryz.prog 65 := enters_of Tryz.func65 (by kernel_rfl) rfl
theorem en_69 : Enters Tryz.prog 69 := enters_of Tryz.func69 (by kernel_rfl) rfl
theorem en_70 : Enters Tryz.prog 70 := enters_of Tryz.func70 (by kernel_rfl) rfl
theorem en_75 : Enters Tryz.prog 75 := enters_of Tryz.func75 (by kernel_rfl) rfl
theorem en_76 : Enters Tryz.prog 76 := enters_of Tryz.func76 (by kernel_rfl) rfl
theorem en_77 : Enters Tryz.prog 77 := enters_of Tryz.func77 (by kernel_rfl) rfl
theorem en_78 : Enters Tryz.prog 78 := enters_of Tryz.func78 (by kernel_rfl) rfl
theorem en_79 : Enters Tryz.prog 79 := enters_of Tryz.func79 (by kernel_rfl) rfl
theorem en_80 : Enters Tryz.prog 80 := enters_of Tryz.func80 (by kernel_rfl) rfl
theorem en_81 : Enters Tryz.prog 81 := enters_of Tryz.func81 (by kernel_rfl) rfl
theorem en_82 : Enters Tryz.prog 82 := enters_of Tryz.func82 (by kernel_rfl) rfl
theorem en_83 : Enters Tryz.prog 83 := enters_of Tryz.func83 (by kernel_rfl) rfl
theorem en_84 : Enters Tryz.prog 84 := enters_of Tryz.func84 (by kernel_rfl) rfl
theorem en_85 : Enters Tryz.prog 85 := enters_of Tryz.func85 (by kernel_rfl) rfl
theorem en_86 : Enters Tryz.prog 86 := enters_of Tryz.func86 (by kernel_rfl) rfl
theorem en_87 : Enters Tryz.prog 87 := enters_of Tryz.func87 (by kernel_rfl) rfl
theorem en_88 : Enters Tryz.prog 88 := enters_of Tryz.func88 (by kernel_rfl) rfl
theorem en_89 : Enters Tryz.prog 89 := enters_of Tryz.func89 (by kernel_rfl) rfl
theorem en_90 : Enters Tryz.prog 90 := enters_of Tryz.func90 (by kernel_rfl) rfl
theorem en_91 : Enters Tryz.prog 91 := enters_of Tryz.func91 (by kernel_rfl) rfl
theorem en_92 : Enters Tryz.prog 92 := enters_of Tryz.func92 (by kernel_rfl) rfl
theorem en_93 : Enters Tryz.prog 93 := enters_of Tryz.func93 (by kernel_rfl) rfl
theorem en_94 : Enters Tryz.prog 94 := enters_of Tryz.func94 (by kernel_rfl) rfl
theorem en_96 : Enters Tryz.prog 96 := enters_of Tryz.func96 (by kernel_rfl) rfl
theorem en_97 : Enters Tryz.prog 97 := enters_of Tryz.func97 (by kernel_rfl) rfl
theorem en_98 : Enters Tryz.prog 98 := enters_of Tryz.func98 (by kernel_rfl) rfl
theorem en_99 : Enters Tryz.prog 99 := enters_of Tryz.func99 (by kernel_rfl) rfl
theorem fa_112_0 : FieldAt Tryz.prog 112 0 0 := fieldAt_of Tryz.underlying112 rfl rfl (z := 1) (by kernel_rfl) (by decide)
theorem fa_112_1 : FieldAt Tryz.prog 112 1 1 := fieldAt_of Tryz.underlying112 rfl rfl (z := 1) (by kernel_rfl) (by decide)
theorem fa_117_0 : FieldAt Tryz.prog 117 0 0 := fieldAt_of Tryz.underlying117 rfl rfl (z := 1) (by kernel_rfl) (by decide)
theorem fa_117_1 : FieldAt Tryz.prog 117 1 1 := fieldAt_of Tryz.underlying117 rfl rfl (z := 1) (by kernel_rfl) (by decide)
theorem fa_117_4 : FieldAt Tryz.prog 117 4 4 := fieldAt_of Tryz.underlying117 rfl rfl (z := 1) (by kernel_rfl) (by decide)
theorem fa_26_0 : FieldAt Tryz.prog 26 0 0 := fieldAt_of Tryz.underlying26 rfl rfl (z := 1) (by kernel_rfl) (by decide)
theorem fa_26_1 : FieldAt Tryz.prog 26 1 1 := fieldAt_of Tryz.underlying26 rfl rfl (z := 1) (by kernel_rfl) (by decide)
theorem fa_26_2 : FieldAt Tryz.prog 26 2 2 := fieldAt_of Tryz.underlying26 rfl rfl (z := 1) (by kernel_rfl) (by decide)
theorem fa_30_0 : FieldAt Tryz.prog 30 0 0 := fieldAt_of Tryz.underlying30 rfl rfl (z := 1) (by kernel_rfl) (by decide)
theorem fa_30_1 : FieldAt Tryz.prog 30 1 1 := fieldAt_of Tryz.underlying30 rfl rfl (z := 1) (by kernel_rfl) (by decide)
theorem fa_30_2 : FieldAt Tryz.prog 30 2 2 := fieldAt_of Tryz.underlying30 rfl rfl (z := 1) (by kernel_rfl) (by decide)
theorem fa_42_0 : FieldAt Tryz.prog 42 0 0 := fieldAt_of Tryz.underlying42 rfl rfl (z := 1) (by kernel_rfl) (by decide)
theorem fa_42_1 : FieldAt Tryz.prog 42 1 1 := fieldAt_of Tryz.underlying42 rfl rfl (z := 4) (by kernel_rfl) (by decide)
theorem fa_42_2 : FieldAt Tryz.prog 42 2 5 := fieldAt_of Tryz.underlying42 rfl rfl (z := 8) (by kernel_rfl) (by decide)
theorem fa_42_3 : FieldAt Tryz.prog 42 3 13 := fieldAt_of Tryz.underlying42 rfl rfl (z := 1) (by kernel_rfl) (by decide)
theorem fa_42_4 : FieldAt Tryz.prog 42 4 14 := fieldAt_of Tryz.underlying42 rfl rfl (z := 1) (by kernel_rfl) (by decide)
theorem fa_42_5 : FieldAt Tryz.prog 42 5 15 := fieldAt_of Tryz.underlying42 rfl rfl (z := 1) (by kernel_rfl) (by decide)
theorem fa_44_0 : FieldAt Tryz.prog 44 0 0 := fieldAt_of Tryz.underlying44 rfl rfl (z := 1) (by kernel_rfl) (by decide)
theorem fa_49_0 : FieldAt Tryz.prog 49 0 0 := fieldAt_of Tryz.underlying49 rfl rfl (z := 1) (by kernel_rfl) (by decide)
theorem fa_49_1 : FieldAt Tryz.prog 49 1 1 := fieldAt_of Tryz.underlying49 rfl rfl (z := 1) (by kernel_rfl) (by decide)
theorem fa_51_0 : FieldAt Tryz.prog 51 0 0 := fieldAt_of Tryz.underlying51 rfl rfl (z := 1) (by kernel_rfl) (by decide)
theorem fa_51_3 : FieldAt Tryz.prog 51 3 3 := fieldAt_of Tryz.underlying51 rfl rfl (z := 1) (by kernel_rfl) (by decide)
theorem fa_53_0 : FieldAt Tryz.prog 53 0 0 := fieldAt_of Tryz.underlying53 rfl rfl (z := 16) (by kernel_rfl) (by decide)
theorem fa_53_1 : FieldAt Tryz.prog 53 1 16 := fieldAt_of Tryz.underlying53 rfl rfl (z := 1) (by kernel_rfl) (by decide)
theorem fa_78_0 : FieldAt Tryz.prog 78 0 0 := fieldAt_of Tryz.underlying78 rfl rfl (z := 1) (by kernel_rfl) (by decide)
theorem fa_81_0 : FieldAt Tryz.prog 81 0 0 := fieldAt_of Tryz.underlying81 rfl rfl (z := 1) (by kernel_rfl) (by decide)
theorem fa_86_0 : FieldAt Tryz.prog 86 0 0 := fieldAt_of Tryz.underlying86 rfl rfl (z := 1) (by kernel_rfl) (by decide)
theorem fa_86_1 : FieldAt Tryz.prog 86 1 1 := fieldAt_of Tryz.underlying86 rfl rfl (z := 1) (by kernel_rfl) (by decide)
theorem fa_96_0 : FieldAt Tryz.prog 96 0 0 := fieldAt_of Tryz.underlying96 rfl rfl (z := 1) (by kernel_rfl) (by decide)
theorem fa_96_1 : FieldAt Tryz.prog 96 1 1 := fieldAt_of Tryz.underlying96 rfl rfl (z := 1) (by kernel_rfl) (by decide)
theorem fa_96_2 : FieldAt Tryz.prog 96 2 2 := fieldAt_of Tryz.underlying96 rfl rfl (z := 1) (by kernel_rfl) (by decide)
theorem inf_112 : (Tryz.prog.info? 112).map (fun i => (i.zero, i.size, i.bytes)) = some (some (.agg #[(.int .i64 0), (.int .i64 0)]), 2, 16) := by kernel_rfl
theorem inf_3 : (Tryz.prog.info? 3).map (fun i => (i.zero, i.size, i.bytes)) = some (some (.int .i64 0), 1, 8) := by kernel_rfl
theorem inf_4 : (Tryz.prog.info? 4).map (fun i => (i.zero, i.size, i.bytes)) = some (some (.bool false), 1, 1) := by kernel_rfl
theorem inf_40 : (Tryz.prog.info? 40).map (fun i => (i.zero, i.size, i.bytes)) = some (some (.slice none 0 0), 1, 24) := by kernel_rfl
theorem inf_42 : (Tryz.prog.info? 42).map (fun i => (i.zero, i.size, i.bytes)) = some (some (.agg #[(.int .i64 0), (.int .i64 0), (.int .i64 0), (.int .i64 0), (.int .i64 0), (.int .i64 0), (.int .i64 0), (.int .i64 0), (.int .i64 0), (.int .i64 0), (.int .i64 0), (.int .i64 0), (.int .i64 0), (.int .i64 0), (.slice none 0 0), (.int .i64 0)]), 16, 144) := by kernel_rfl
theorem inf_44 : (Tryz.prog.info? 44).map (fun i => (i.zero, i.size, i.bytes)) = some (some (.agg #[(.slice none 0 0)]), 1, 24) := by kernel_rfl
theorem inf_49 : (Tryz.prog.info? 49).map (fun i => (i.zero, i.size, i.bytes)) = some (some (.agg #[(.slice none 0 0), (.slice none 0 0)]), 2, 48) := by kernel_rfl
theorem inf_51 : (Tryz.prog.info? 51).map (fun i => (i.zero, i.size, i.bytes)) = some (some (.agg #[(.int .i64 0), (.int .i64 0), (.int .i64 0), (.int .i64 0)]), 4, 32) := by kernel_rfl
theorem inf_71 : (Tryz.prog.info? 71).map (fun i => (i.zero, i.size, i.bytes)) = some (some (.slice none 0 0), 1, 24) := by kernel_rfl
theorem inf_86 : (Tryz.prog.info? 86).map (fun i => (i.zero, i.size, i.bytes)) = some (some (.agg #[(.int .i64 0), (.int .i64 0)]), 2, 16) := by kernel_rfl
theorem inf_96 : (Tryz.prog.info? 96).map (fun i => (i.zero, i.size, i.bytes)) = some (some (.agg #[(.int .i64 0), (.int .i64 0), (.int .i64 0)]), 3, 24) := by kernel_rfl
theorem mixed_ok : Tryz.prog.follows .mixedOrders = true := by kernel_rfl
theorem sz_103 : (Tryz.prog.info? 103).map (·.size) = some 1 := by kernel_rfl
theorem sz_112 : (Tryz.prog.info? 112).map (·.size) = some 2 := by kernel_rfl
theorem sz_117 : (Tryz.prog.info? 117).map (·.size) = some 5 := by kernel_rfl
theorem sz_139 : (Tryz.prog.info? 139).map (·.size) = some 1 := by kernel_rfl
theorem sz_163 : (Tryz.prog.info? 163).map (·.size) = some 1 := by kernel_rfl
theorem sz_22 : (Tryz.prog.info? 22).map (·.size) = some 1 := by kernel_rfl
theorem sz_26 : (Tryz.prog.info? 26).map (·.size) = some 3 := by kernel_rfl
theorem sz_27 : (Tryz.prog.info? 27).map (·.size) = some 1 := by kernel_rfl
theorem sz_28 : (Tryz.prog.info? 28).map (·.size) = some 1 := by kernel_rfl
theorem sz_3 : (Tryz.prog.info? 3).map (·.size) = some 1 := by kernel_rfl
theorem sz_30 : (Tryz.prog.info? 30).map (·.size) = some 3 := by kernel_rfl
theorem sz_31 : (Tryz.prog.info? 31).map (·.size) = some 1 := by kernel_rfl
theorem sz_38 : (Tryz.prog.info? 38).map (·.size) = some 4 := by kernel_rfl
theorem sz_39 : (Tryz.prog.info? 39).map (·.size) = some 8 := by kernel_rfl
theorem sz_4 : (Tryz.prog.info? 4).map (·.size) = some 1 := by kernel_rfl
theorem sz_40 : (Tryz.prog.info? 40).map (·.size) = some 1 := by kernel_rfl
theorem sz_42 : (Tryz.prog.info? 42).map (·.size) = some 16 := by kernel_rfl
theorem sz_44 : (Tryz.prog.info? 44).map (·.size) = some 1 := by kernel_rfl
theorem sz_49 : (Tryz.prog.info? 49).map (·.size) = some 2 := by kernel_rfl
theorem sz_51 : (Tryz.prog.info? 51).map (·.size) = some 4 := by kernel_rfl
theorem sz_53 : (Tryz.prog.info? 53).map (·.size) = some 17 := by kernel_rfl
theorem sz_71 : (Tryz.prog.info? 71).map (·.size) = some 1 := by kernel_rfl
theorem sz_78 : (Tryz.prog.info? 78).map (·.size) = some 1 := by kernel_rfl
theorem sz_81 : (Tryz.prog.info? 81).map (·.size) = some 1 := by kernel_rfl
theorem sz_86 : (Tryz.prog.info? 86).map (·.size) = some 2 := by kernel_rfl
theorem sz_96 : (Tryz.prog.info? 96).map (·.size) = some 3 := by kernel_rfl
theorem ze_103 : (Tryz.prog.info? 103).map (·.zero) = some (some (.slice none 0 0)) := by kernel_rfl
theorem ze_117 : (Tryz.prog.info? 117).map (·.zero) = some (some (.agg #[(.int .i64 0), (.int .i64 0), (.int .i64 0), (.int .i64 0), (.int .i64 0)])) := by kernel_rfl
theorem ze_139 : (Tryz.prog.info? 139).map (·.zero) = some (some .nilFunc) := by kernel_rfl
theorem ze_163 : (Tryz.prog.info? 163).map (·.zero) = some (some (.slice none 0 0)) := by kernel_rfl
theorem ze_26 : (Tryz.prog.info? 26).map (·.zero) = some (some (.agg #[(.slice none 0 0), (.slice none 0 0), (.slice none 0 0)])) := by kernel_rfl
theorem ze_3 : (Tryz.prog.info? 3).map (·.zero) = some (some (.int .i64 0)) := by kernel_rfl
theorem ze_30 : (Tryz.prog.info? 30).map (·.zero) = some (some (.agg #[(.int .i64 0), (.slice none 0 0), (.slice none 0 0)])) := by kernel_rfl
theorem ze_31 : (Tryz.prog.info? 31).map (·.zero) = some (some (.int .i64 0)) := by kernel_rfl
theorem ze_42 : (Tryz.prog.info? 42).map (·.zero) = some (some (.agg #[(.int .i64 0), (.int .i64 0), (.int .i64 0), (.int .i64 0), (.int .i64 0), (.int .i64 0), (.int .i64 0), (.int .i64 0), (.int .i64 0), (.int .i64 0), (.int .i64 0), (.int .i64 0), (.int .i64 0), (.int .i64 0), (.slice none 0 0), (.int .i64 0)])) := by kernel_rfl
theorem ze_44 : (Tryz.prog.info? 44).map (·.zero) = some (some (.agg #[(.slice none 0 0)])) := by kernel_rfl
theorem ze_49 : (Tryz.prog.info? 49).map (·.zero) = some (some (.agg #[(.slice none 0 0), (.slice none 0 0)])) := by kernel_rfl
theorem ze_51 : (Tryz.prog.info? 51).map (·.zero) = some (some (.agg #[(.int .i64 0), (.int .i64 0), (.int .i64 0), (.int .i64 0)])) := by kernel_rfl
theorem ze_53 : (Tryz.prog.info? 53).map (·.zero) = some (some (.agg #[(.int .i64 0), (.int .i64 0), (.int .i64 0), (.int .i64 0), (.int .i64 0), (.int .i64 0), (.int .i64 0), (.int .i64 0), (.int .i64 0), (.int .i64 0), (.int .i64 0), (.int .i64 0), (.int .i64 0), (.int .i64 0), (.slice none 0 0), (.int .i64 0), (.slice none 0 0)])) := by kernel_rfl
theorem ze_86 : (Tryz.prog.info? 86).map (·.zero) = some (some (.agg #[(.int .i64 0), (.int .i64 0)])) := by kernel_rfl
theorem ze_96 : (Tryz.prog.info? 96).map (·.zero) = some (some (.agg #[(.int .i64 0), (.int .i64 0), (.int .i64 0)])) := by kernel_rfl
theorem eqt_38 (a0 a1 a2 a3 b0 b1 b2 b3 : Int) (x y : Operand) (w : World) : (do eqGuard .eql 38 x y (.agg #[.int .i64 a0, .int .i64 a1, .int .i64 a2, .int .i64 a3]) (.agg #[.int .i64 b0, .int .i64 b1, .int .i64 b2, .int .i64 b3]); binOp .eql 38 (.agg #[.int .i64 a0, .int .i64 a1, .int .i64 a2, .int .i64 a3]) (.agg #[.int .i64 b0, .int .i64 b1, .int .i64 b2, .int .i64 b3]) : Sem Value).run Tryz.prog w = .ok (.bool (decide ((a0 = b0 ∧ a1 = b1 ∧ a2 = b2 ∧ a3 = b3)))) w := by
  have h := (eqA (P := Tryz.prog) (T := 38) Tryz.underlying38 (by kernel_rfl) sz_3 (by kernel_rfl) [a0, a1, a2, a3] [b0, b1, b2, b3] rfl rfl x y w).1
  rwa [show (decide ([a0, a1, a2, a3] = [b0, b1, b2, b3])) = decide ((a0 = b0 ∧ a1 = b1 ∧ a2 = b2 ∧ a3 = b3)) by simp] at h
theorem eqt_39 (a0 a1 a2 a3 a4 a5 a6 a7 b0 b1 b2 b3 b4 b5 b6 b7 : Int) (x y : Operand) (w : World) : (do eqGuard .eql 39 x y (.agg #[.int .i64 a0, .int .i64 a1, .int .i64 a2, .int .i64 a3, .int .i64 a4, .int .i64 a5, .int .i64 a6, .int .i64 a7]) (.agg #[.int .i64 b0, .int .i64 b1, .int .i64 b2, .int .i64 b3, .int .i64 b4, .int .i64 b5, .int .i64 b6, .int .i64 b7]); binOp .eql 39 (.agg #[.int .i64 a0, .int .i64 a1, .int .i64 a2, .int .i64 a3, .int .i64 a4, .int .i64 a5, .int .i64 a6, .int .i64 a7]) (.agg #[.int .i64 b0, .int .i64 b1, .int .i64 b2, .int .i64 b3, .int .i64 b4, .int .i64 b5, .int .i64 b6, .int .i64 b7]) : Sem Value).run Tryz.prog w = .ok (.bool (decide ((a0 = b0 ∧ a1 = b1 ∧ a2 = b2 ∧ a3 = b3 ∧ a4 = b4 ∧ a5 = b5 ∧ a6 = b6 ∧ a7 = b7)))) w := by
  have h := (eqA (P := Tryz.prog) (T := 39) Tryz.underlying39 (by kernel_rfl) sz_3 (by kernel_rfl) [a0, a1, a2, a3, a4, a5, a6, a7] [b0, b1, b2, b3, b4, b5, b6, b7] rfl rfl x y w).1
  rwa [show (decide ([a0, a1, a2, a3, a4, a5, a6, a7] = [b0, b1, b2, b3, b4, b5, b6, b7])) = decide ((a0 = b0 ∧ a1 = b1 ∧ a2 = b2 ∧ a3 = b3 ∧ a4 = b4 ∧ a5 = b5 ∧ a6 = b6 ∧ a7 = b7)) by simp] at h
theorem eqt_86 (a0 a1 b0 b1 : Int) (x y : Operand) (w : World) : (do eqGuard .eql 86 x y (.agg #[.int .i64 a0, .int .i64 a1]) (.agg #[.int .i64 b0, .int .i64 b1]); binOp .eql 86 (.agg #[.int .i64 a0, .int .i64 a1]) (.agg #[.int .i64 b0, .int .i64 b1]) : Sem Value).run Tryz.prog w = .ok (.bool (decide ((a0 = b0 ∧ a1 = b1)))) w := by
  have h := (eqS (P := Tryz.prog) (T := 86) (by kernel_rfl) (by kernel_rfl) (by kernel_rfl) (by kernel_rfl) [a0, a1] [b0, b1] (by kernel_rfl) (by kernel_rfl) x y w).1
  rwa [show (decide ([a0, a1] = [b0, b1])) = decide ((a0 = b0 ∧ a1 = b1)) by simp] at h
end Go.Proofs.YtcmdoecoiogjjaaGreat
