/- Closed facts on the program's types and functions. -/
import Derived.Test.YtlkkdpoioedacaaProg
import Derived.Test.YtlkkdpoioedacaaEng
namespace Go.Proofs.Ytlkkdpoioedacaa
set_option linter.unusedVariables false
set_option linter.unusedSimpArgs false
open Go.RowKit
theorem en_10 : Enters Try.prog 10 := enters_of Try.func10 (by kernel_rfl) rfl
theorem en_100 : Enters Try.prog 100 := enters_of Try.func100 (by kernel_rfl) rfl
theorem en_101 : Enters Try.prog 101 := enters_of Try.func101 (by kernel_rfl) rfl
theorem en_102 : Enters Try.prog 102 := enters_of Try.func102 (by kernel_rfl) rfl
theorem en_103 : Enters Try.prog 103 := enters_of Try.func103 (by kernel_rfl) rfl
theorem en_104 : Enters Try.prog 104 := enters_of Try.func104 (by kernel_rfl) rfl
theorem en_105 : Enters Try.prog 105 := enters_of Try.func105 (by kernel_rfl) rfl
theorem en_106 : Enters Try.prog 106 := enters_of Try.func106 (by kernel_rfl) rfl
theorem en_107 : Enters Try.prog 107 := enters_of Try.func107 (by kernel_rfl) rfl
theorem en_108 : Enters Try.prog 108 := enters_of Try.func108 (by kernel_rfl) rfl
theorem en_109 : Enters Try.prog 109 := enters_of Try.func109 (by kernel_rfl) rfl
theorem en_11 : Enters Try.prog 11 := enters_of Try.func11 (by kernel_rfl) rfl
theorem en_110 : Enters Try.prog 110 := enters_of Try.func110 (by kernel_rfl) rfl
theorem en_111 : Enters Try.prog 111 := enters_of Try.func111 (by kernel_rfl) rfl
theorem en_112 : Enters Try.prog 112 := enters_of Try.func112 (by kernel_rfl) rfl
theorem en_113 : Enters Try.prog 113 := enters_of Try.func113 (by kernel_rfl) rfl
theorem en_114 : Enters Try.prog 114 := enters_of Try.func114 (by kernel_rfl) rfl
theorem en_115 : Enters Try.prog 115 := enters_of Try.func115 (by kernel_rfl) rfl
theorem en_116 : Enters Try.prog 116 := enters_of Try.func116 (by kernel_rfl) rfl
theorem en_117 : Enters Try.prog 117 := enters_of Try.func117 (by kernel_rfl) rfl
theorem en_118 : Enters Try.prog 118 := enters_of Try.func118 (by kernel_rfl) rfl
theorem en_119 : Enters Try.prog 119 := enters_of Try.func119 (by kernel_rfl) rfl
theorem en_12 : Enters Try.prog 12 := enters_of Try.func12 (by kernel_rfl) rfl
theorem en_120 : Enters Try.prog 120 := enters_of Try.func120 (by kernel_rfl) rfl
theorem en_121 : Enters Try.prog 121 := enters_of Try.func121 (by kernel_rfl) rfl
theorem en_122 : Enters Try.prog 122 := enters_of Try.func122 (by kernel_rfl) rfl
theorem en_123 : Enters Try.prog 123 := enters_of Try.func123 (by kernel_rfl) rfl
theorem en_124 : Enters Try.prog 124 := enters_of Try.func124 (by kernel_rfl) rfl
theorem en_125 : Enters Try.prog 125 := enters_of Try.func125 (by kernel_rfl) rfl
theorem en_126 : Enters Try.prog 126 := enters_of Try.func126 (by kernel_rfl) rfl
theorem en_127 : Enters Try.prog 127 := enters_of Try.func127 (by kernel_rfl) rfl
theorem en_128 : Enters Try.prog 128 := enters_of Try.func128 (by kernel_rfl) rfl
theorem en_129 : Enters Try.prog 129 := enters_of Try.func129 (by kernel_rfl) rfl
theorem en_13 : Enters Try.prog 13 := enters_of Try.func13 (by kernel_rfl) rfl
theorem en_130 : Enters Try.prog 130 := enters_of Try.func130 (by kernel_rfl) rfl
theorem en_131 : Enters Try.prog 131 := enters_of Try.func131 (by kernel_rfl) rfl
theorem en_132 : Enters Try.prog 132 := enters_of Try.func132 (by kernel_rfl) rfl
theorem en_133 : Enters Try.prog 133 := enters_of Try.func133 (by kernel_rfl) rfl
theorem en_134 : Enters Try.prog 134 := enters_of Try.func134 (by kernel_rfl) rfl
theorem en_135 : Enters Try.prog 135 := enters_of Try.func135 (by kernel_rfl) rfl
theorem en_136 : Enters Try.prog 136 := enters_of Try.func136 (by kernel_rfl) rfl
theorem en_137 : Enters Try.prog 137 := enters_of Try.func137 (by kernel_rfl) rfl
theorem en_138 : Enters Try.prog 138 := enters_of Try.func138 (by kernel_rfl) rfl
theorem en_139 : Enters Try.prog 139 := enters_of Try.func139 (by kernel_rfl) rfl
theorem en_14 : Enters Try.prog 14 := enters_of Try.func14 (by kernel_rfl) rfl
theorem en_140 : Enters Try.prog 140 := enters_of Try.func140 (by kernel_rfl) rfl
theorem en_141 : Enters Try.prog 141 := enters_of Try.func141 (by kernel_rfl) rfl
theorem en_142 : Enters Try.prog 142 := enters_of Try.func142 (by kernel_rfl) rfl
theorem en_143 : Enters Try.prog 143 := enters_of Try.func143 (by kernel_rfl) rfl
theorem en_144 : Enters Try.prog 144 := enters_of Try.func144 (by kernel_rfl) rfl
theorem en_145 : Enters Try.prog 145 := enters_of Try.func145 (by kernel_rfl) rfl
theorem en_146 : Enters Try.prog 146 := enters_of Try.func146 (by kernel_rfl) rfl
theorem en_147 : Enters Try.prog 147 := enters_of Try.func147 (by kernel_rfl) rfl
theorem en_148 : Enters Try.prog 148 := enters_of Try.func148 (by kernel_rfl) rfl
theorem en_149 : Enters Try.prog 149 := enters_of Try.func149 (by kernel_rfl) rfl
theorem en_15 : Enters Try.prog 15 := enters_of Try.func15 (by kernel_rfl) rfl
theorem en_150 : Enters Try.prog 150 := enters_of Try.func150 (by kernel_rfl) rfl
theorem en_151 : Enters Try.prog 151 := enters_of Try.func151 (by kernel_rfl) rfl
theorem en_152 : Enters Try.prog 152 := enters_of Try.func152 (by kernel_rfl) rfl
theorem en_153 : Enters Try.prog 153 := enters_of Try.func153 (by kernel_rfl) rfl
theorem en_154 : Enters Try.prog 154 := enters_of Try.func154 (by kernel_rfl) rfl
theorem en_155 : Enters Try.prog 155 := enters_of Try.func155 (by kernel_rfl) rfl
theorem en_156 : Enters Try.prog 156 := enters_of Try.func156 (by kernel_rfl) rfl
theorem en_157 : Enters Try.prog 157 := enters_of Try.func157 (by kernel_rfl) rfl
theorem en_158 : Enters Try.prog 158 := enters_of Try.func158 (by kernel_rfl) rfl
theorem en_159 : Enters Try.prog 159 := enters_of Try.func159 (by kernel_rfl) rfl
theorem en_16 : Enters Try.prog 16 := enters_of Try.func16 (by kernel_rfl) rfl
theorem en_160 : Enters Try.prog 160 := enters_of Try.func160 (by kernel_rfl) rfl
theorem en_161 : Enters Try.prog 161 := enters_of Try.func161 (by kernel_rfl) rfl
theorem en_162 : Enters Try.prog 162 := enters_of Try.func162 (by kernel_rfl) rfl
theorem en_163 : Enters Try.prog 163 := enters_of Try.func163 (by kernel_rfl) rfl
theorem en_164 : Enters Try.prog 164 := enters_of Try.func164 (by kernel_rfl) rfl
theorem en_165 : Enters Try.prog 165 := enters_of Try.func165 (by kernel_rfl) rfl
theorem en_166 : Enters Try.prog 166 := enters_of Try.func166 (by kernel_rfl) rfl
theorem en_167 : Enters Try.prog 167 := enters_of Try.func167 (by kernel_rfl) rfl
theorem en_168 : Enters Try.prog 168 := enters_of Try.func168 (by kernel_rfl) rfl
theorem en_169 : Enters Try.prog 169 := enters_of Try.func169 (by kernel_rfl) rfl
theorem en_17 : Enters Try.prog 17 := enters_of Try.func17 (by kernel_rfl) rfl
theorem en_170 : Enters Try.prog 170 := enters_of Try.func170 (by kernel_rfl) rfl
theorem en_171 : Enters Try.prog 171 := enters_of Try.func171 (by kernel_rfl) rfl
theorem en_172 : Enters Try.prog 172 := enters_of Try.func172 (by kernel_rfl) rfl
theorem en_173 : Enters Try.prog 173 := enters_of Try.func173 (by kernel_rfl) rfl
theorem en_174 : Enters Try.prog 174 := enters_of Try.func174 (by kernel_rfl) rfl
theorem en_175 : Enters Try.prog 175 := enters_of Try.func175 (by kernel_rfl) rfl
theorem en_176 : Enters Try.prog 176 := enters_of Try.func176 (by kernel_rfl) rfl
theorem en_177 : Enters Try.prog 177 := enters_of Try.func177 (by kernel_rfl) rfl
theorem en_18 : Enters Try.prog 18 := enters_of Try.func18 (by kernel_rfl) rfl
theorem en_19 : Enters Try.prog 19 := enters_of Try.func19 (by kernel_rfl) rfl
theorem en_20 : Enters Try.prog 20 := enters_of Try.func20 (by kernel_rfl) rfl
theorem en_21 : Enters Try.prog 21 := enters_of Try.func21 (by kernel_rfl) rfl
theorem en_22 : Enters Try.prog 22 := enters_of Try.func22 (by kernel_rfl) rfl
theorem en_23 : Enters Try.prog 23 := enters_of Try.func23 (by kernel_rfl) rfl
theorem en_24 : Enters Try.prog 24 := enters_of Try.func24 (by kernel_rfl) rfl
theorem en_25 : Enters Try.prog 25 := enters_of Try.func25 (by kernel_rfl) rfl
theorem en_26 : Enters Try.prog 26 := enters_of Try.func26 (by kernel_rfl) rfl
theorem en_27 : Enters Try.prog 27 := enters_of Try.func27 (by kernel_rfl) rfl
theorem en_28 : Enters Try.prog 28 := enters_of Try.func28 (by kernel_rfl) rfl
theorem en_29 : Enters Try.prog 29 := enters_of Try.func29 (by kernel_rfl) rfl
theorem en_3 : Enters Try.prog 3 := enters_of Try.func3 (by kernel_rfl) rfl
theorem en_30 : Enters Try.prog 30 := enters_of Try.func30 (by kernel_rfl) rfl
theorem en_31 : Enters Try.prog 31 := enters_of Try.func31 (by kernel_rfl) rfl
theorem en_32 : Enters Try.prog 32 := enters_of Try.func32 (by kernel_rfl) rfl
theorem en_33 : Enters Try.prog 33 := enters_of Try.func33 (by kernel_rfl) rfl
theorem en_34 : Enters Try.prog 34 := enters_of Try.func34 (by kernel_rfl) rfl
theorem en_35 : Enters Try.prog 35 := enters_of Try.func35 (by kernel_rfl) rfl
theorem en_36 : Enters Try.prog 36 := enters_of Try.func36 (by kernel_rfl) rfl
theorem en_37 : Enters Try.prog 37 := enters_of Try.func37 (by kernel_rfl) rfl
theorem en_38 : Enters Try.prog 38 := enters_of Try.func38 (by kernel_rfl) rfl
theorem en_39 : Enters Try.prog 39 := enters_of Try.func39 (by kernel_rfl) rfl
theorem en_4 : Enters Try.prog 4 := enters_of Try.func4 (by kernel_rfl) rfl
theorem en_40 : Enters Try.prog 40 := enters_of Try.func40 (by kernel_rfl) rfl
theorem en_41 : Enters Try.prog 41 := enters_of Try.func41 (by kernel_rfl) rfl
theorem en_42 : Enters Try.prog 42 := enters_of Try.func42 (by kernel_rfl) rfl
theorem en_43 : Enters Try.prog 43 := enters_of Try.func43 (by kernel_rfl) rfl
theorem en_44 : Enters Try.prog 44 := enters_of Try.func44 (by kernel_rfl) rfl
theorem en_45 : Enters Try.prog 45 := enters_of Try.func45 (by kernel_rfl) rfl
theorem en_46 : Enters Try.prog 46 := enters_of Try.func46 (by kernel_rfl) rfl
theorem en_47 : Enters Try.prog 47 := enters_of Try.func47 (by kernel_rfl) rfl
theorem en_48 : Enters Try.prog 48 := enters_of Try.func48 (by kernel_rfl) rfl
theorem en_49 : Enters Try.prog 49 := enters_of Try.func49 (by kernel_rfl) rfl
theorem en_5 : Enters Try.prog 5 := enters_of Try.func5 (by kernel_rfl) rfl
theorem en_50 : Enters Try.prog 50 := enters_of Try.func50 (by kernel_rfl) rfl
theorem en_51 : Enters Try.prog 51 := enters_of Try.func51 (by kernel_rfl) rfl
theorem en_52 : Enters Try.prog 52 := enters_of Try.func52 (by kernel_rfl) rfl
theorem en_53 : Enters Try.prog 53 := enters_of Try.func53 (by kernel_rfl) rfl
theorem en_54 : Enters Try.prog 54 := enters_of Try.func54 (by kernel_rfl) rfl
theorem en_55 : Enters Try.prog 55 := enters_of Try.func55 (by kernel_rfl) rfl
theorem en_56 : Enters Try.prog 56 := enters_of Try.func56 (by kernel_rfl) rfl
theorem en_57 : Enters Try.prog 57 := enters_of Try.func57 (by kernel_rfl) rfl
theorem en_58 : Enters Try.prog 58 := enters_of Try.func58 (by kernel_rfl) rfl
theorem en_59 : Enters Try.prog 59 := enters_of Try.func59 (by kernel_rfl) rfl
theorem en_6 : Enters Try.prog 6 := enters_of Try.func6 (by kernel_rfl) rfl
theorem en_60 : Enters Try.prog 60 := enters_of Try.func60 (by kernel_rfl) rfl
theorem en_61 : Enters Try.prog 61 := enters_of Try.func61 (by kernel_rfl) rfl
theorem en_62 : Enters Try.prog 62 := enters_of Try.func62 (by kernel_rfl) rfl
theorem en_63 : Enters Try.prog 63 := enters_of Try.func63 (by kernel_rfl) rfl
theorem en_64 : Enters Try.prog 64 := enters_of Try.func64 (by kernel_rfl) rfl
theorem en_65 : Enters Try.prog 65 := enters_of Try.func65 (by kernel_rfl) rfl
theorem en_66 : Enters Try.prog 66 := enters_of Try.func66 (by kernel_rfl) rfl
theorem en_67 : Enters Try.prog 67 := enters_of Try.func67 (by kernel_rfl) rfl
theorem en_68 : Enters Try.prog 68 := enters_of Try.func68 (by kernel_rfl) rfl
theorem en_69 : Enters Try.prog 69 := enters_of Try.func69 (by kernel_rfl) rfl
theorem en_7 : Enters Try.prog 7 := enters_of Try.func7 (by kernel_rfl) rfl
theorem en_70 : Enters Try.prog 70 := enters_of Try.func70 (by kernel_rfl) rfl
theorem en_71 : Enters Try.prog 71 := enters_of Try.func71 (by kernel_rfl) rfl
theorem en_72 : Enters Try.prog 72 := enters_of Try.func72 (by kernel_rfl) rfl
theorem en_73 : Enters Try.prog 73 := enters_of Try.func73 (by kernel_rfl) rfl
theorem en_74 : Enters Try.prog 74 := enters_of Try.func74 (by kernel_rfl) rfl
theorem en_75 : Enters Try.prog 75 := enters_of Try.func75 (by kernel_rfl) rfl
theorem en_76 : Enters Try.prog 76 := enters_of Try.func76 (by kernel_rfl) rfl
theorem en_77 : Enters Try.prog 77 := enters_of Try.func77 (by kernel_rfl) rfl
theorem en_78 : Enters Try.prog 78 := enters_of Try.func78 (by kernel_rfl) rfl
theorem en_79 : Enters Try.prog 79 := enters_of Try.func79 (by kernel_rfl) rfl
theorem en_8 : Enters Try.prog 8 := enters_of Try.func8 (by kernel_rfl) rfl
theorem en_80 : Enters Try.prog 80 := enters_of Try.func80 (by kernel_rfl) rfl
theorem en_81 : Enters Try.prog 81 := enters_of Try.func81 (by kernel_rfl) rfl
theorem en_82 : Enters Try.prog 82 := enters_of Try.func82 (by kernel_rfl) rfl
theorem en_83 : Enters Try.prog 83 := enters_of Try.func83 (by kernel_rfl) rfl
theorem en_84 : Enters Try.prog 84 := enters_of Try.func84 (by kernel_rfl) rfl
theorem en_85 : Enters Try.prog 85 := enters_of Try.func85 (by kernel_rfl) rfl
theorem en_86 : Enters Try.prog 86 := enters_of Try.func86 (by kernel_rfl) rfl
theorem en_87 : Enters Try.prog 87 := enters_of Try.func87 (by kernel_rfl) rfl
theorem en_88 : Enters Try.prog 88 := enters_of Try.func88 (by kernel_rfl) rfl
theorem en_89 : Enters Try.prog 89 := enters_of Try.func89 (by kernel_rfl) rfl
theorem en_9 : Enters Try.prog 9 := enters_of Try.func9 (by kernel_rfl) rfl
theorem en_90 : Enters Try.prog 90 := enters_of Try.func90 (by kernel_rfl) rfl
theorem en_91 : Enters Try.prog 91 := enters_of Try.func91 (by kernel_rfl) rfl
theorem en_92 : Enters Try.prog 92 := enters_of Try.func92 (by kernel_rfl) rfl
theorem en_93 : Enters Try.prog 93 := enters_of Try.func93 (by kernel_rfl) rfl
theorem en_94 : Enters Try.prog 94 := enters_of Try.func94 (by kernel_rfl) rfl
theorem en_95 : Enters Try.prog 95 := enters_of Try.func95 (by kernel_rfl) rfl
theorem en_96 : Enters Try.prog 96 := enters_of Try.func96 (by kernel_rfl) rfl
theorem en_97 : Enters Try.prog 97 := enters_of Try.func97 (by kernel_rfl) rfl
theorem en_98 : Enters Try.prog 98 := enters_of Try.func98 (by kernel_rfl) rfl
theorem en_99 : Enters Try.prog 99 := enters_of Try.func99 (by kernel_rfl) rfl
theorem fa_100_0 : FieldAt Try.prog 100 0 0 := fieldAt_of Try.underlying100 rfl rfl (z := 1) (by kernel_rfl) (by decide)
theorem fa_100_1 : FieldAt Try.prog 100 1 1 := fieldAt_of Try.underlying100 rfl rfl (z := 1) (by kernel_rfl) (by decide)
theorem fa_100_2 : FieldAt Try.prog 100 2 2 := fieldAt_of Try.underlying100 rfl rfl (z := 1) (by kernel_rfl) (by decide)
theorem fa_101_0 : FieldAt Try.prog 101 0 0 := fieldAt_of Try.underlying101 rfl rfl (z := 1) (by kernel_rfl) (by decide)
theorem fa_101_1 : FieldAt Try.prog 101 1 1 := fieldAt_of Try.underlying101 rfl rfl (z := 1) (by kernel_rfl) (by decide)
theorem fa_102_0 : FieldAt Try.prog 102 0 0 := fieldAt_of Try.underlying102 rfl rfl (z := 1) (by kernel_rfl) (by decide)
theorem fa_102_1 : FieldAt Try.prog 102 1 1 := fieldAt_of Try.underlying102 rfl rfl (z := 1) (by kernel_rfl) (by decide)
theorem fa_103_0 : FieldAt Try.prog 103 0 0 := fieldAt_of Try.underlying103 rfl rfl (z := 1) (by kernel_rfl) (by decide)
theorem fa_103_1 : FieldAt Try.prog 103 1 1 := fieldAt_of Try.underlying103 rfl rfl (z := 1) (by kernel_rfl) (by decide)
theorem fa_103_2 : FieldAt Try.prog 103 2 2 := fieldAt_of Try.underlying103 rfl rfl (z := 1) (by kernel_rfl) (by decide)
theorem fa_103_3 : FieldAt Try.prog 103 3 3 := fieldAt_of Try.underlying103 rfl rfl (z := 1) (by kernel_rfl) (by decide)
theorem fa_104_0 : FieldAt Try.prog 104 0 0 := fieldAt_of Try.underlying104 rfl rfl (z := 1) (by kernel_rfl) (by decide)
theorem fa_104_1 : FieldAt Try.prog 104 1 1 := fieldAt_of Try.underlying104 rfl rfl (z := 1) (by kernel_rfl) (by decide)
theorem fa_104_2 : FieldAt Try.prog 104 2 2 := fieldAt_of Try.underlying104 rfl rfl (z := 1) (by kernel_rfl) (by decide)
theorem fa_104_3 : FieldAt Try.prog 104 3 3 := fieldAt_of Try.underlying104 rfl rfl (z := 1) (by kernel_rfl) (by decide)
theorem fa_120_0 : FieldAt Try.prog 120 0 0 := fieldAt_of Try.underlying120 rfl rfl (z := 1) (by kernel_rfl) (by decide)
theorem fa_121_0 : FieldAt Try.prog 121 0 0 := fieldAt_of Try.underlying121 rfl rfl (z := 1) (by kernel_rfl) (by decide)
theorem fa_126_0 : FieldAt Try.prog 126 0 0 := fieldAt_of Try.underlying126 rfl rfl (z := 1) (by kernel_rfl) (by decide)
theorem fa_127_0 : FieldAt Try.prog 127 0 0 := fieldAt_of Try.underlying127 rfl rfl (z := 1) (by kernel_rfl) (by decide)
theorem fa_13_0 : FieldAt Try.prog 13 0 0 := fieldAt_of Try.underlying13 rfl rfl (z := 1) (by kernel_rfl) (by decide)
theorem fa_13_1 : FieldAt Try.prog 13 1 1 := fieldAt_of Try.underlying13 rfl rfl (z := 1) (by kernel_rfl) (by decide)
theorem fa_14_0 : FieldAt Try.prog 14 0 0 := fieldAt_of Try.underlying14 rfl rfl (z := 1) (by kernel_rfl) (by decide)
theorem fa_14_1 : FieldAt Try.prog 14 1 1 := fieldAt_of Try.underlying14 rfl rfl (z := 1) (by kernel_rfl) (by decide)
theorem fa_149_0 : FieldAt Try.prog 149 0 0 := fieldAt_of Try.underlying149 rfl rfl (z := 1) (by kernel_rfl) (by decide)
theorem fa_150_0 : FieldAt Try.prog 150 0 0 := fieldAt_of Try.underlying150 rfl rfl (z := 1) (by kernel_rfl) (by decide)
theorem fa_154_0 : FieldAt Try.prog 154 0 0 := fieldAt_of Try.underlying154 rfl rfl (z := 1) (by kernel_rfl) (by decide)
theorem fa_155_0 : FieldAt Try.prog 155 0 0 := fieldAt_of Try.underlying155 rfl rfl (z := 1) (by kernel_rfl) (by decide)
theorem fa_158_0 : FieldAt Try.prog 158 0 0 := fieldAt_of Try.underlying158 rfl rfl (z := 1) (by kernel_rfl) (by decide)
theorem fa_158_1 : FieldAt Try.prog 158 1 1 := fieldAt_of Try.underlying158 rfl rfl (z := 4) (by kernel_rfl) (by decide)
theorem fa_158_2 : FieldAt Try.prog 158 2 5 := fieldAt_of Try.underlying158 rfl rfl (z := 8) (by kernel_rfl) (by decide)
theorem fa_158_3 : FieldAt Try.prog 158 3 13 := fieldAt_of Try.underlying158 rfl rfl (z := 1) (by kernel_rfl) (by decide)
theorem fa_158_4 : FieldAt Try.prog 158 4 14 := fieldAt_of Try.underlying158 rfl rfl (z := 1) (by kernel_rfl) (by decide)
theorem fa_158_5 : FieldAt Try.prog 158 5 15 := fieldAt_of Try.underlying158 rfl rfl (z := 1) (by kernel_rfl) (by decide)
theorem fa_159_0 : FieldAt Try.prog 159 0 0 := fieldAt_of Try.underlying159 rfl rfl (z := 1) (by kernel_rfl) (by decide)
theorem fa_159_1 : FieldAt Try.prog 159 1 1 := fieldAt_of Try.underlying159 rfl rfl (z := 4) (by kernel_rfl) (by decide)
theorem fa_159_2 : FieldAt Try.prog 159 2 5 := fieldAt_of Try.underlying159 rfl rfl (z := 8) (by kernel_rfl) (by decide)
theorem fa_159_3 : FieldAt Try.prog 159 3 13 := fieldAt_of Try.underlying159 rfl rfl (z := 1) (by kernel_rfl) (by decide)
theorem fa_159_4 : FieldAt Try.prog 159 4 14 := fieldAt_of Try.underlying159 rfl rfl (z := 1) (by kernel_rfl) (by decide)
theorem fa_159_5 : FieldAt Try.prog 159 5 15 := fieldAt_of Try.underlying159 rfl rfl (z := 1) (by kernel_rfl) (by decide)
theorem fa_161_0 : FieldAt Try.prog 161 0 0 := fieldAt_of Try.underlying161 rfl rfl (z := 1) (by kernel_rfl) (by decide)
theorem fa_162_0 : FieldAt Try.prog 162 0 0 := fieldAt_of Try.underlying162 rfl rfl (z := 1) (by kernel_rfl) (by decide)
theorem fa_164_0 : FieldAt Try.prog 164 0 0 := fieldAt_of Try.underlying164 rfl rfl (z := 1) (by kernel_rfl) (by decide)
theorem fa_18_0 : FieldAt Try.prog 18 0 0 := fieldAt_of Try.underlying18 rfl rfl (z := 1) (by kernel_rfl) (by decide)
theorem fa_19_0 : FieldAt Try.prog 19 0 0 := fieldAt_of Try.underlying19 rfl rfl (z := 1) (by kernel_rfl) (by decide)
theorem fa_197_0 : FieldAt Try.prog 197 0 0 := fieldAt_of Try.underlying197 rfl rfl (z := 1) (by kernel_rfl) (by decide)
theorem fa_197_1 : FieldAt Try.prog 197 1 1 := fieldAt_of Try.underlying197 rfl rfl (z := 1) (by kernel_rfl) (by decide)
theorem fa_197_2 : FieldAt Try.prog 197 2 2 := fieldAt_of Try.underlying197 rfl rfl (z := 1) (by kernel_rfl) (by decide)
theorem fa_197_3 : FieldAt Try.prog 197 3 3 := fieldAt_of Try.underlying197 rfl rfl (z := 1) (by kernel_rfl) (by decide)
theorem fa_197_4 : FieldAt Try.prog 197 4 4 := fieldAt_of Try.underlying197 rfl rfl (z := 1) (by kernel_rfl) (by decide)
theorem fa_198_0 : FieldAt Try.prog 198 0 0 := fieldAt_of Try.underlying198 rfl rfl (z := 1) (by kernel_rfl) (by decide)
theorem fa_198_1 : FieldAt Try.prog 198 1 1 := fieldAt_of Try.underlying198 rfl rfl (z := 1) (by kernel_rfl) (by decide)
theorem fa_198_2 : FieldAt Try.prog 198 2 2 := fieldAt_of Try.underlying198 rfl rfl (z := 1) (by kernel_rfl) (by decide)
theorem fa_198_3 : FieldAt Try.prog 198 3 3 := fieldAt_of Try.underlying198 rfl rfl (z := 1) (by kernel_rfl) (by decide)
theorem fa_198_4 : FieldAt Try.prog 198 4 4 := fieldAt_of Try.underlying198 rfl rfl (z := 1) (by kernel_rfl) (by decide)
theorem fa_221_0 : FieldAt Try.prog 221 0 0 := fieldAt_of Try.underlying221 rfl rfl (z := 16) (by kernel_rfl) (by decide)
theorem fa_221_1 : FieldAt Try.prog 221 1 16 := fieldAt_of Try.underlying221 rfl rfl (z := 1) (by kernel_rfl) (by decide)
theorem fa_221_2 : FieldAt Try.prog 221 2 17 := fieldAt_of Try.underlying221 rfl rfl (z := 5) (by kernel_rfl) (by decide)
theorem fa_222_0 : FieldAt Try.prog 222 0 0 := fieldAt_of Try.underlying222 rfl rfl (z := 16) (by kernel_rfl) (by decide)
theorem fa_222_1 : FieldAt Try.prog 222 1 16 := fieldAt_of Try.underlying222 rfl rfl (z := 1) (by kernel_rfl) (by decide)
theorem fa_222_2 : FieldAt Try.prog 222 2 17 := fieldAt_of Try.underlying222 rfl rfl (z := 5) (by kernel_rfl) (by decide)
theorem fa_232_0 : FieldAt Try.prog 232 0 0 := fieldAt_of Try.underlying232 rfl rfl (z := 1) (by kernel_rfl) (by decide)
theorem fa_232_1 : FieldAt Try.prog 232 1 1 := fieldAt_of Try.underlying232 rfl rfl (z := 1) (by kernel_rfl) (by decide)
theorem fa_233_0 : FieldAt Try.prog 233 0 0 := fieldAt_of Try.underlying233 rfl rfl (z := 1) (by kernel_rfl) (by decide)
theorem fa_233_1 : FieldAt Try.prog 233 1 1 := fieldAt_of Try.underlying233 rfl rfl (z := 1) (by kernel_rfl) (by decide)
theorem fa_25_0 : FieldAt Try.prog 25 0 0 := fieldAt_of Try.underlying25 rfl rfl (z := 1) (by kernel_rfl) (by decide)
theorem fa_25_1 : FieldAt Try.prog 25 1 1 := fieldAt_of Try.underlying25 rfl rfl (z := 1) (by kernel_rfl) (by decide)
theorem fa_25_2 : FieldAt Try.prog 25 2 2 := fieldAt_of Try.underlying25 rfl rfl (z := 1) (by kernel_rfl) (by decide)
theorem fa_26_0 : FieldAt Try.prog 26 0 0 := fieldAt_of Try.underlying26 rfl rfl (z := 1) (by kernel_rfl) (by decide)
theorem fa_26_1 : FieldAt Try.prog 26 1 1 := fieldAt_of Try.underlying26 rfl rfl (z := 1) (by kernel_rfl) (by decide)
theorem fa_26_2 : FieldAt Try.prog 26 2 2 := fieldAt_of Try.underlying26 rfl rfl (z := 1) (by kernel_rfl) (by decide)
theorem fa_264_0 : FieldAt Try.prog 264 0 0 := fieldAt_of Try.underlying264 rfl rfl (z := 1) (by kernel_rfl) (by decide)
theorem fa_264_1 : FieldAt Try.prog 264 1 1 := fieldAt_of Try.underlying264 rfl rfl (z := 1) (by kernel_rfl) (by decide)
theorem fa_264_2 : FieldAt Try.prog 264 2 2 := fieldAt_of Try.underlying264 rfl rfl (z := 1) (by kernel_rfl) (by decide)
theorem fa_264_3 : FieldAt Try.prog 264 3 3 := fieldAt_of Try.underlying264 rfl rfl (z := 1) (by kernel_rfl) (by decide)
theorem fa_265_0 : FieldAt Try.prog 265 0 0 := fieldAt_of Try.underlying265 rfl rfl (z := 1) (by kernel_rfl) (by decide)
theorem fa_265_1 : FieldAt Try.prog 265 1 1 := fieldAt_of Try.underlying265 rfl rfl (z := 1) (by kernel_rfl) (by decide)
theorem fa_265_2 : FieldAt Try.prog 265 2 2 := fieldAt_of Try.underlying265 rfl rfl (z := 1) (by kernel_rfl) (by decide)
theorem fa_265_3 : FieldAt Try.prog 265 3 3 := fieldAt_of Try.underlying265 rfl rfl (z := 1) (by kernel_rfl) (by decide)
theorem fa_275_0 : FieldAt Try.prog 275 0 0 := fieldAt_of Try.underlying275 rfl rfl (z := 1) (by kernel_rfl) (by decide)
theorem fa_275_1 : FieldAt Try.prog 275 1 1 := fieldAt_of Try.underlying275 rfl rfl (z := 1) (by kernel_rfl) (by decide)
theorem fa_275_10 : FieldAt Try.prog 275 10 10 := fieldAt_of Try.underlying275 rfl rfl (z := 1) (by kernel_rfl) (by decide)
theorem fa_275_2 : FieldAt Try.prog 275 2 2 := fieldAt_of Try.underlying275 rfl rfl (z := 1) (by kernel_rfl) (by decide)
theorem fa_275_3 : FieldAt Try.prog 275 3 3 := fieldAt_of Try.underlying275 rfl rfl (z := 1) (by kernel_rfl) (by decide)
theorem fa_275_4 : FieldAt Try.prog 275 4 4 := fieldAt_of Try.underlying275 rfl rfl (z := 1) (by kernel_rfl) (by decide)
theorem fa_275_5 : FieldAt Try.prog 275 5 5 := fieldAt_of Try.underlying275 rfl rfl (z := 1) (by kernel_rfl) (by decide)
theorem fa_275_6 : FieldAt Try.prog 275 6 6 := fieldAt_of Try.underlying275 rfl rfl (z := 1) (by kernel_rfl) (by decide)
theorem fa_275_7 : FieldAt Try.prog 275 7 7 := fieldAt_of Try.underlying275 rfl rfl (z := 1) (by kernel_rfl) (by decide)
theorem fa_275_8 : FieldAt Try.prog 275 8 8 := fieldAt_of Try.underlying275 rfl rfl (z := 1) (by kernel_rfl) (by decide)
theorem fa_275_9 : FieldAt Try.prog 275 9 9 := fieldAt_of Try.underlying275 rfl rfl (z := 1) (by kernel_rfl) (by decide)
theorem fa_276_0 : FieldAt Try.prog 276 0 0 := fieldAt_of Try.underlying276 rfl rfl (z := 1) (by kernel_rfl) (by decide)
theorem fa_276_1 : FieldAt Try.prog 276 1 1 := fieldAt_of Try.underlying276 rfl rfl (z := 1) (by kernel_rfl) (by decide)
theorem fa_276_10 : FieldAt Try.prog 276 10 10 := fieldAt_of Try.underlying276 rfl rfl (z := 1) (by kernel_rfl) (by decide)
theorem fa_276_2 : FieldAt Try.prog 276 2 2 := fieldAt_of Try.underlying276 rfl rfl (z := 1) (by kernel_rfl) (by decide)
theorem fa_276_3 : FieldAt Try.prog 276 3 3 := fieldAt_of Try.underlying276 rfl rfl (z := 1) (by kernel_rfl) (by decide)
theorem fa_276_4 : FieldAt Try.prog 276 4 4 := fieldAt_of Try.underlying276 rfl rfl (z := 1) (by kernel_rfl) (by decide)
theorem fa_276_5 : FieldAt Try.prog 276 5 5 := fieldAt_of Try.underlying276 rfl rfl (z := 1) (by kernel_rfl) (by decide)
theorem fa_276_6 : FieldAt Try.prog 276 6 6 := fieldAt_of Try.underlying276 rfl rfl (z := 1) (by kernel_rfl) (by decide)
theorem fa_276_7 : FieldAt Try.prog 276 7 7 := fieldAt_of Try.underlying276 rfl rfl (z := 1) (by kernel_rfl) (by decide)
theorem fa_276_8 : FieldAt Try.prog 276 8 8 := fieldAt_of Try.underlying276 rfl rfl (z := 1) (by kernel_rfl) (by decide)
theorem fa_276_9 : FieldAt Try.prog 276 9 9 := fieldAt_of Try.underlying276 rfl rfl (z := 1) (by kernel_rfl) (by decide)
theorem fa_36_0 : FieldAt Try.prog 36 0 0 := fieldAt_of Try.underlying36 rfl rfl (z := 1) (by kernel_rfl) (by decide)
theorem fa_36_1 : FieldAt Try.prog 36 1 1 := fieldAt_of Try.underlying36 rfl rfl (z := 1) (by kernel_rfl) (by decide)
theorem fa_37_0 : FieldAt Try.prog 37 0 0 := fieldAt_of Try.underlying37 rfl rfl (z := 1) (by kernel_rfl) (by decide)
theorem fa_37_1 : FieldAt Try.prog 37 1 1 := fieldAt_of Try.underlying37 rfl rfl (z := 1) (by kernel_rfl) (by decide)
theorem fa_51_0 : FieldAt Try.prog 51 0 0 := fieldAt_of Try.underlying51 rfl rfl (z := 1) (by kernel_rfl) (by decide)
theorem fa_52_0 : FieldAt Try.prog 52 0 0 := fieldAt_of Try.underlying52 rfl rfl (z := 1) (by kernel_rfl) (by decide)
theorem fa_54_0 : FieldAt Try.prog 54 0 0 := fieldAt_of Try.underlying54 rfl rfl (z := 1) (by kernel_rfl) (by decide)
theorem fa_55_0 : FieldAt Try.prog 55 0 0 := fieldAt_of Try.underlying55 rfl rfl (z := 1) (by kernel_rfl) (by decide)
theorem fa_7_0 : FieldAt Try.prog 7 0 0 := fieldAt_of Try.underlying7 rfl rfl (z := 1) (by kernel_rfl) (by decide)
theorem fa_7_1 : FieldAt Try.prog 7 1 1 := fieldAt_of Try.underlying7 rfl rfl (z := 1) (by kernel_rfl) (by decide)
theorem fa_7_2 : FieldAt Try.prog 7 2 2 := fieldAt_of Try.underlying7 rfl rfl (z := 1) (by kernel_rfl) (by decide)
theorem fa_7_3 : FieldAt Try.prog 7 3 3 := fieldAt_of Try.underlying7 rfl rfl (z := 1) (by kernel_rfl) (by decide)
theorem fa_77_0 : FieldAt Try.prog 77 0 0 := fieldAt_of Try.underlying77 rfl rfl (z := 1) (by kernel_rfl) (by decide)
theorem fa_77_1 : FieldAt Try.prog 77 1 1 := fieldAt_of Try.underlying77 rfl rfl (z := 1) (by kernel_rfl) (by decide)
theorem fa_77_2 : FieldAt Try.prog 77 2 2 := fieldAt_of Try.underlying77 rfl rfl (z := 1) (by kernel_rfl) (by decide)
theorem fa_78_0 : FieldAt Try.prog 78 0 0 := fieldAt_of Try.underlying78 rfl rfl (z := 1) (by kernel_rfl) (by decide)
theorem fa_78_1 : FieldAt Try.prog 78 1 1 := fieldAt_of Try.underlying78 rfl rfl (z := 1) (by kernel_rfl) (by decide)
theorem fa_78_2 : FieldAt Try.prog 78 2 2 := fieldAt_of Try.underlying78 rfl rfl (z := 1) (by kernel_rfl) (by decide)
theorem fa_8_0 : FieldAt Try.prog 8 0 0 := fieldAt_of Try.underlying8 rfl rfl (z := 1) (by kernel_rfl) (by decide)
theorem fa_8_1 : FieldAt Try.prog 8 1 1 := fieldAt_of Try.underlying8 rfl rfl (z := 1) (by kernel_rfl) (by decide)
theorem fa_8_2 : FieldAt Try.prog 8 2 2 := fieldAt_of Try.underlying8 rfl rfl (z := 1) (by kernel_rfl) (by decide)
theorem fa_8_3 : FieldAt Try.prog 8 3 3 := fieldAt_of Try.underlying8 rfl rfl (z := 1) (by kernel_rfl) (by decide)
theorem fa_95_0 : FieldAt Try.prog 95 0 0 := fieldAt_of Try.underlying95 rfl rfl (z := 1) (by kernel_rfl) (by decide)
theorem fa_95_1 : FieldAt Try.prog 95 1 1 := fieldAt_of Try.underlying95 rfl rfl (z := 1) (by kernel_rfl) (by decide)
theorem fa_96_0 : FieldAt Try.prog 96 0 0 := fieldAt_of Try.underlying96 rfl rfl (z := 1) (by kernel_rfl) (by decide)
theorem fa_96_1 : FieldAt Try.prog 96 1 1 := fieldAt_of Try.underlying96 rfl rfl (z := 1) (by kernel_rfl) (by decide)
theorem fa_99_0 : FieldAt Try.prog 99 0 0 := fieldAt_of Try.underlying99 rfl rfl (z := 1) (by kernel_rfl) (by decide)
theorem fa_99_1 : FieldAt Try.prog 99 1 1 := fieldAt_of Try.underlying99 rfl rfl (z := 1) (by kernel_rfl) (by decide)
theorem fa_99_2 : FieldAt Try.prog 99 2 2 := fieldAt_of Try.underlying99 rfl rfl (z := 1) (by kernel_rfl) (by decide)
theorem inf_1 : (Try.prog.info? 1).map (fun i => (i.zero, i.size, i.bytes)) = some (some .nilFunc, 1, 8) := by kernel_rfl
theorem inf_10 : (Try.prog.info? 10).map (fun i => (i.zero, i.size, i.bytes)) = some (some (.string ⟨#[]⟩), 1, 16) := by kernel_rfl
theorem inf_100 : (Try.prog.info? 100).map (fun i => (i.zero, i.size, i.bytes)) = some (some (.agg #[(.int .i64 0), (.int .i64 0), (.int .i64 0)]), 3, 24) := by kernel_rfl
theorem inf_101 : (Try.prog.info? 101).map (fun i => (i.zero, i.size, i.bytes)) = some (some (.agg #[(.int .i64 0), (.int .i64 0)]), 2, 16) := by kernel_rfl
theorem inf_102 : (Try.prog.info? 102).map (fun i => (i.zero, i.size, i.bytes)) = some (some (.agg #[(.int .i64 0), (.int .i64 0)]), 2, 16) := by kernel_rfl
theorem inf_103 : (Try.prog.info? 103).map (fun i => (i.zero, i.size, i.bytes)) = some (some (.agg #[(.int .i64 0), (.int .i64 0), (.int .i64 0), (.int .i64 0)]), 4, 32) := by kernel_rfl
theorem inf_104 : (Try.prog.info? 104).map (fun i => (i.zero, i.size, i.bytes)) = some (some (.agg #[(.int .i64 0), (.int .i64 0), (.int .i64 0), (.int .i64 0)]), 4, 32) := by kernel_rfl
theorem inf_105 : (Try.prog.info? 105).map (fun i => (i.zero, i.size, i.bytes)) = some (some .nilFunc, 1, 8) := by kernel_rfl
theorem inf_106 : (Try.prog.info? 106).map (fun i => (i.zero, i.size, i.bytes)) = some (some (.map none), 1, 8) := by kernel_rfl
theorem inf_107 : (Try.prog.info? 107).map (fun i => (i.zero, i.size, i.bytes)) = some (some .nilFunc, 1, 8) := by kernel_rfl
theorem inf_108 : (Try.prog.info? 108).map (fun i => (i.zero, i.size, i.bytes)) = some (some (.map none), 1, 8) := by kernel_rfl
theorem inf_109 : (Try.prog.info? 109).map (fun i => (i.zero, i.size, i.bytes)) = some (some (.map none), 1, 8) := by kernel_rfl
theorem inf_11 : (Try.prog.info? 11).map (fun i => (i.zero, i.size, i.bytes)) = some (some (.string ⟨#[]⟩), 1, 16) := by kernel_rfl
theorem inf_110 : (Try.prog.info? 110).map (fun i => (i.zero, i.size, i.bytes)) = some (some .nilFunc, 1, 8) := by kernel_rfl
theorem inf_111 : (Try.prog.info? 111).map (fun i => (i.zero, i.size, i.bytes)) = some (some .nilFunc, 1, 8) := by kernel_rfl
theorem inf_112 : (Try.prog.info? 112).map (fun i => (i.zero, i.size, i.bytes)) = some (some .nilFunc, 1, 8) := by kernel_rfl
theorem inf_113 : (Try.prog.info? 113).map (fun i => (i.zero, i.size, i.bytes)) = some (some .nilFunc, 1, 8) := by kernel_rfl
theorem inf_114 : (Try.prog.info? 114).map (fun i => (i.zero, i.size, i.bytes)) = some (some .nilFunc, 1, 8) := by kernel_rfl
theorem inf_115 : (Try.prog.info? 115).map (fun i => (i.zero, i.size, i.bytes)) = some (some .nilFunc, 1, 8) := by kernel_rfl
theorem inf_116 : (Try.prog.info? 116).map (fun i => (i.zero, i.size, i.bytes)) = some (some .nilFunc, 1, 8) := by kernel_rfl
theorem inf_117 : (Try.prog.info? 117).map (fun i => (i.zero, i.size, i.bytes)) = some (some .nilFunc, 1, 8) := by kernel_rfl
theorem inf_118 : (Try.prog.info? 118).map (fun i => (i.zero, i.size, i.bytes)) = some (some (.pointer none), 1, 8) := by kernel_rfl
theorem inf_119 : (Try.prog.info? 119).map (fun i => (i.zero, i.size, i.bytes)) = some (some (.slice none 0 0), 1, 24) := by kernel_rfl
theorem inf_12 : (Try.prog.info? 12).map (fun i => (i.zero, i.size, i.bytes)) = some (some (.int .u64 0), 1, 8) := by kernel_rfl
theorem inf_120 : (Try.prog.info? 120).map (fun i => (i.zero, i.size, i.bytes)) = some (some (.agg #[(.slice none 0 0)]), 1, 24) := by kernel_rfl
theorem inf_121 : (Try.prog.info? 121).map (fun i => (i.zero, i.size, i.bytes)) = some (some (.agg #[(.slice none 0 0)]), 1, 24) := by kernel_rfl
theorem inf_122 : (Try.prog.info? 122).map (fun i => (i.zero, i.size, i.bytes)) = some (some .nilFunc, 1, 8) := by kernel_rfl
theorem inf_123 : (Try.prog.info? 123).map (fun i => (i.zero, i.size, i.bytes)) = some (some .nilFunc, 1, 8) := by kernel_rfl
theorem inf_124 : (Try.prog.info? 124).map (fun i => (i.zero, i.size, i.bytes)) = some (some .nilFunc, 1, 8) := by kernel_rfl
theorem inf_125 : (Try.prog.info? 125).map (fun i => (i.zero, i.size, i.bytes)) = some (some (.pointer none), 1, 8) := by kernel_rfl
theorem inf_126 : (Try.prog.info? 126).map (fun i => (i.zero, i.size, i.bytes)) = some (some (.agg #[(.string ⟨#[]⟩)]), 1, 16) := by kernel_rfl
theorem inf_127 : (Try.prog.info? 127).map (fun i => (i.zero, i.size, i.bytes)) = some (some (.agg #[(.string ⟨#[]⟩)]), 1, 16) := by kernel_rfl
theorem inf_128 : (Try.prog.info? 128).map (fun i => (i.zero, i.size, i.bytes)) = some (some .nilFunc, 1, 8) := by kernel_rfl
theorem inf_129 : (Try.prog.info? 129).map (fun i => (i.zero, i.size, i.bytes)) = some (some (.pointer none), 1, 8) := by kernel_rfl
theorem inf_13 : (Try.prog.info? 13).map (fun i => (i.zero, i.size, i.bytes)) = some (some (.agg #[(.string ⟨#[]⟩), (.int .u64 0)]), 2, 24) := by kernel_rfl
theorem inf_130 : (Try.prog.info? 130).map (fun i => (i.zero, i.size, i.bytes)) = some (some .nilFunc, 1, 8) := by kernel_rfl
theorem inf_131 : (Try.prog.info? 131).map (fun i => (i.zero, i.size, i.bytes)) = some (some (.pointer none), 1, 8) := by kernel_rfl
theorem inf_132 : (Try.prog.info? 132).map (fun i => (i.zero, i.size, i.bytes)) = some (some .nilFunc, 1, 8) := by kernel_rfl
theorem inf_133 : (Try.prog.info? 133).map (fun i => (i.zero, i.size, i.bytes)) = some (some (.pointer none), 1, 8) := by kernel_rfl
theorem inf_134 : (Try.prog.info? 134).map (fun i => (i.zero, i.size, i.bytes)) = some (some .nilFunc, 1, 8) := by kernel_rfl
theorem inf_135 : (Try.prog.info? 135).map (fun i => (i.zero, i.size, i.bytes)) = some (some .nilFunc, 1, 8) := by kernel_rfl
theorem inf_136 : (Try.prog.info? 136).map (fun i => (i.zero, i.size, i.bytes)) = some (some .nilFunc, 1, 8) := by kernel_rfl
theorem inf_137 : (Try.prog.info? 137).map (fun i => (i.zero, i.size, i.bytes)) = some (some .nilFunc, 1, 8) := by kernel_rfl
theorem inf_138 : (Try.prog.info? 138).map (fun i => (i.zero, i.size, i.bytes)) = some (some .nilFunc, 1, 8) := by kernel_rfl
theorem inf_139 : (Try.prog.info? 139).map (fun i => (i.zero, i.size, i.bytes)) = some (some .nilFunc, 1, 8) := by kernel_rfl
theorem inf_14 : (Try.prog.info? 14).map (fun i => (i.zero, i.size, i.bytes)) = some (some (.agg #[(.string ⟨#[]⟩), (.int .u64 0)]), 2, 24) := by kernel_rfl
theorem inf_140 : (Try.prog.info? 140).map (fun i => (i.zero, i.size, i.bytes)) = some (some (.pointer none), 1, 8) := by kernel_rfl
theorem inf_141 : (Try.prog.info? 141).map (fun i => (i.zero, i.size, i.bytes)) = some (some .nilFunc, 1, 8) := by kernel_rfl
theorem inf_142 : (Try.prog.info? 142).map (fun i => (i.zero, i.size, i.bytes)) = some (some .nilFunc, 1, 8) := by kernel_rfl
theorem inf_143 : (Try.prog.info? 143).map (fun i => (i.zero, i.size, i.bytes)) = some (some (.pointer none), 1, 8) := by kernel_rfl
theorem inf_144 : (Try.prog.info? 144).map (fun i => (i.zero, i.size, i.bytes)) = some (some .nilFunc, 1, 8) := by kernel_rfl
theorem inf_147 : (Try.prog.info? 147).map (fun i => (i.zero, i.size, i.bytes)) = some (some .nilFunc, 1, 8) := by kernel_rfl
theorem inf_148 : (Try.prog.info? 148).map (fun i => (i.zero, i.size, i.bytes)) = some (some (.pointer none), 1, 8) := by kernel_rfl
theorem inf_149 : (Try.prog.info? 149).map (fun i => (i.zero, i.size, i.bytes)) = some (some (.agg #[(.string ⟨#[]⟩)]), 1, 16) := by kernel_rfl
theorem inf_15 : (Try.prog.info? 15).map (fun i => (i.zero, i.size, i.bytes)) = some (some (.pointer none), 1, 8) := by kernel_rfl
theorem inf_150 : (Try.prog.info? 150).map (fun i => (i.zero, i.size, i.bytes)) = some (some (.agg #[(.string ⟨#[]⟩)]), 1, 16) := by kernel_rfl
theorem inf_151 : (Try.prog.info? 151).map (fun i => (i.zero, i.size, i.bytes)) = some (some .nilFunc, 1, 8) := by kernel_rfl
theorem inf_152 : (Try.prog.info? 152).map (fun i => (i.zero, i.size, i.bytes)) = some (some .nilFunc, 1, 8) := by kernel_rfl
theorem inf_153 : (Try.prog.info? 153).map (fun i => (i.zero, i.size, i.bytes)) = some (some (.pointer none), 1, 8) := by kernel_rfl
theorem inf_154 : (Try.prog.info? 154).map (fun i => (i.zero, i.size, i.bytes)) = some (some (.agg #[(.slice none 0 0)]), 1, 24) := by kernel_rfl
theorem inf_155 : (Try.prog.info? 155).map (fun i => (i.zero, i.size, i.bytes)) = some (some (.agg #[(.slice none 0 0)]), 1, 24) := by kernel_rfl
theorem inf_156 : (Try.prog.info? 156).map (fun i => (i.zero, i.size, i.bytes)) = some (some (.agg #[(.int .i64 0), (.int .i64 0), (.int .i64 0), (.int .i64 0)]), 4, 32) := by kernel_rfl
theorem inf_157 : (Try.prog.info? 157).map (fun i => (i.zero, i.size, i.bytes)) = some (some (.agg #[(.int .i64 0), (.int .i64 0), (.int .i64 0), (.int .i64 0), (.int .i64 0), (.int .i64 0), (.int .i64 0), (.int .i64 0)]), 8, 64) := by kernel_rfl
theorem inf_158 : (Try.prog.info? 158).map (fun i => (i.zero, i.size, i.bytes)) = some (some (.agg #[(.int .i64 0), (.int .i64 0), (.int .i64 0), (.int .i64 0), (.int .i64 0), (.int .i64 0), (.int .i64 0), (.int .i64 0), (.int .i64 0), (.int .i64 0), (.int .i64 0), (.int .i64 0), (.int .i64 0), (.int .i64 0), (.slice none 0 0), (.int .i64 0)]), 16, 144) := by kernel_rfl
theorem inf_159 : (Try.prog.info? 159).map (fun i => (i.zero, i.size, i.bytes)) = some (some (.agg #[(.int .i64 0), (.int .i64 0), (.int .i64 0), (.int .i64 0), (.int .i64 0), (.int .i64 0), (.int .i64 0), (.int .i64 0), (.int .i64 0), (.int .i64 0), (.int .i64 0), (.int .i64 0), (.int .i64 0), (.int .i64 0), (.slice none 0 0), (.int .i64 0)]), 16, 144) := by kernel_rfl
theorem inf_16 : (Try.prog.info? 16).map (fun i => (i.zero, i.size, i.bytes)) = some (some (.pointer none), 1, 8) := by kernel_rfl
theorem inf_160 : (Try.prog.info? 160).map (fun i => (i.zero, i.size, i.bytes)) = some (some .nilFunc, 1, 8) := by kernel_rfl
theorem inf_161 : (Try.prog.info? 161).map (fun i => (i.zero, i.size, i.bytes)) = some (some (.agg #[(.slice none 0 0)]), 1, 24) := by kernel_rfl
theorem inf_162 : (Try.prog.info? 162).map (fun i => (i.zero, i.size, i.bytes)) = some (some (.agg #[(.slice none 0 0)]), 1, 24) := by kernel_rfl
theorem inf_163 : (Try.prog.info? 163).map (fun i => (i.zero, i.size, i.bytes)) = some (some (.pointer none), 1, 8) := by kernel_rfl
theorem inf_164 : (Try.prog.info? 164).map (fun i => (i.zero, i.size, i.bytes)) = some (some (.agg #[(.slice none 0 0)]), 1, 24) := by kernel_rfl
theorem inf_165 : (Try.prog.info? 165).map (fun i => (i.zero, i.size, i.bytes)) = some (some .nilFunc, 1, 8) := by kernel_rfl
theorem inf_167 : (Try.prog.info? 167).map (fun i => (i.zero, i.size, i.bytes)) = some (some .nilFunc, 1, 8) := by kernel_rfl
theorem inf_168 : (Try.prog.info? 168).map (fun i => (i.zero, i.size, i.bytes)) = some (some .nilFunc, 1, 8) := by kernel_rfl
theorem inf_169 : (Try.prog.info? 169).map (fun i => (i.zero, i.size, i.bytes)) = some (some .nilFunc, 1, 8) := by kernel_rfl
theorem inf_17 : (Try.prog.info? 17).map (fun i => (i.zero, i.size, i.bytes)) = some (some (.pointer none), 1, 8) := by kernel_rfl
theorem inf_170 : (Try.prog.info? 170).map (fun i => (i.zero, i.size, i.bytes)) = some (some .nilFunc, 1, 8) := by kernel_rfl
theorem inf_171 : (Try.prog.info? 171).map (fun i => (i.zero, i.size, i.bytes)) = some (some .nilFunc, 1, 8) := by kernel_rfl
theorem inf_172 : (Try.prog.info? 172).map (fun i => (i.zero, i.size, i.bytes)) = some (some (.pointer none), 1, 8) := by kernel_rfl
theorem inf_173 : (Try.prog.info? 173).map (fun i => (i.zero, i.size, i.bytes)) = some (some .nilFunc, 1, 8) := by kernel_rfl
theorem inf_174 : (Try.prog.info? 174).map (fun i => (i.zero, i.size, i.bytes)) = some (some .nilFunc, 1, 8) := by kernel_rfl
theorem inf_175 : (Try.prog.info? 175).map (fun i => (i.zero, i.size, i.bytes)) = some (some .nilFunc, 1, 8) := by kernel_rfl
theorem inf_176 : (Try.prog.info? 176).map (fun i => (i.zero, i.size, i.bytes)) = some (some .nilFunc, 1, 8) := by kernel_rfl
theorem inf_177 : (Try.prog.info? 177).map (fun i => (i.zero, i.size, i.bytes)) = some (some .nilFunc, 1, 8) := by kernel_rfl
theorem inf_178 : (Try.prog.info? 178).map (fun i => (i.zero, i.size, i.bytes)) = some (some .nilFunc, 1, 8) := by kernel_rfl
theorem inf_179 : (Try.prog.info? 179).map (fun i => (i.zero, i.size, i.bytes)) = some (some .nilFunc, 1, 8) := by kernel_rfl
theorem inf_18 : (Try.prog.info? 18).map (fun i => (i.zero, i.size, i.bytes)) = some (some (.agg #[(.pointer none)]), 1, 8) := by kernel_rfl
theorem inf_180 : (Try.prog.info? 180).map (fun i => (i.zero, i.size, i.bytes)) = some (some .nilFunc, 1, 8) := by kernel_rfl
theorem inf_181 : (Try.prog.info? 181).map (fun i => (i.zero, i.size, i.bytes)) = some (some .nilFunc, 1, 8) := by kernel_rfl
theorem inf_182 : (Try.prog.info? 182).map (fun i => (i.zero, i.size, i.bytes)) = some (some .nilFunc, 1, 8) := by kernel_rfl
theorem inf_183 : (Try.prog.info? 183).map (fun i => (i.zero, i.size, i.bytes)) = some (some .nilFunc, 1, 8) := by kernel_rfl
theorem inf_184 : (Try.prog.info? 184).map (fun i => (i.zero, i.size, i.bytes)) = some (some .nilFunc, 1, 8) := by kernel_rfl
theorem inf_185 : (Try.prog.info? 185).map (fun i => (i.zero, i.size, i.bytes)) = some (some .nilFunc, 1, 8) := by kernel_rfl
theorem inf_186 : (Try.prog.info? 186).map (fun i => (i.zero, i.size, i.bytes)) = some (some .nilFunc, 1, 8) := by kernel_rfl
theorem inf_187 : (Try.prog.info? 187).map (fun i => (i.zero, i.size, i.bytes)) = some (some .nilFunc, 1, 8) := by kernel_rfl
theorem inf_188 : (Try.prog.info? 188).map (fun i => (i.zero, i.size, i.bytes)) = some (some .nilFunc, 1, 8) := by kernel_rfl
theorem inf_189 : (Try.prog.info? 189).map (fun i => (i.zero, i.size, i.bytes)) = some (some .nilFunc, 1, 8) := by kernel_rfl
theorem inf_19 : (Try.prog.info? 19).map (fun i => (i.zero, i.size, i.bytes)) = some (some (.agg #[(.pointer none)]), 1, 8) := by kernel_rfl
theorem inf_190 : (Try.prog.info? 190).map (fun i => (i.zero, i.size, i.bytes)) = some (some .nilFunc, 1, 8) := by kernel_rfl
theorem inf_191 : (Try.prog.info? 191).map (fun i => (i.zero, i.size, i.bytes)) = some (some .nilFunc, 1, 8) := by kernel_rfl
theorem inf_192 : (Try.prog.info? 192).map (fun i => (i.zero, i.size, i.bytes)) = some (some (.int .u64 0), 1, 8) := by kernel_rfl
theorem inf_193 : (Try.prog.info? 193).map (fun i => (i.zero, i.size, i.bytes)) = some (some (.slice none 0 0), 1, 24) := by kernel_rfl
theorem inf_194 : (Try.prog.info? 194).map (fun i => (i.zero, i.size, i.bytes)) = some (some .nilFunc, 1, 8) := by kernel_rfl
theorem inf_195 : (Try.prog.info? 195).map (fun i => (i.zero, i.size, i.bytes)) = some (some .nilFunc, 1, 8) := by kernel_rfl
theorem inf_196 : (Try.prog.info? 196).map (fun i => (i.zero, i.size, i.bytes)) = some (some .nilFunc, 1, 8) := by kernel_rfl
theorem inf_197 : (Try.prog.info? 197).map (fun i => (i.zero, i.size, i.bytes)) = some (some (.agg #[(.int .i64 0), (.int .i64 0), (.int .i64 0), (.int .i64 0), (.int .i64 0)]), 5, 40) := by kernel_rfl
theorem inf_198 : (Try.prog.info? 198).map (fun i => (i.zero, i.size, i.bytes)) = some (some (.agg #[(.int .i64 0), (.int .i64 0), (.int .i64 0), (.int .i64 0), (.int .i64 0)]), 5, 40) := by kernel_rfl
theorem inf_2 : (Try.prog.info? 2).map (fun i => (i.zero, i.size, i.bytes)) = some (some (.int .i64 0), 1, 8) := by kernel_rfl
theorem inf_200 : (Try.prog.info? 200).map (fun i => (i.zero, i.size, i.bytes)) = some (some .nilFunc, 1, 8) := by kernel_rfl
theorem inf_202 : (Try.prog.info? 202).map (fun i => (i.zero, i.size, i.bytes)) = some (some .nilFunc, 1, 8) := by kernel_rfl
theorem inf_204 : (Try.prog.info? 204).map (fun i => (i.zero, i.size, i.bytes)) = some (some .nilFunc, 1, 8) := by kernel_rfl
theorem inf_206 : (Try.prog.info? 206).map (fun i => (i.zero, i.size, i.bytes)) = some (some .nilFunc, 1, 8) := by kernel_rfl
theorem inf_207 : (Try.prog.info? 207).map (fun i => (i.zero, i.size, i.bytes)) = some (some .nilFunc, 1, 8) := by kernel_rfl
theorem inf_209 : (Try.prog.info? 209).map (fun i => (i.zero, i.size, i.bytes)) = some (some .nilFunc, 1, 8) := by kernel_rfl
theorem inf_21 : (Try.prog.info? 21).map (fun i => (i.zero, i.size, i.bytes)) = some (some (.int .i32 0), 1, 4) := by kernel_rfl
theorem inf_210 : (Try.prog.info? 210).map (fun i => (i.zero, i.size, i.bytes)) = some (some .nilFunc, 1, 8) := by kernel_rfl
theorem inf_211 : (Try.prog.info? 211).map (fun i => (i.zero, i.size, i.bytes)) = some (some .nilFunc, 1, 8) := by kernel_rfl
theorem inf_212 : (Try.prog.info? 212).map (fun i => (i.zero, i.size, i.bytes)) = some (some .nilFunc, 1, 8) := by kernel_rfl
theorem inf_213 : (Try.prog.info? 213).map (fun i => (i.zero, i.size, i.bytes)) = some (some .nilFunc, 1, 8) := by kernel_rfl
theorem inf_215 : (Try.prog.info? 215).map (fun i => (i.zero, i.size, i.bytes)) = some (some .nilFunc, 1, 8) := by kernel_rfl
theorem inf_216 : (Try.prog.info? 216).map (fun i => (i.zero, i.size, i.bytes)) = some (some .nilFunc, 1, 8) := by kernel_rfl
theorem inf_218 : (Try.prog.info? 218).map (fun i => (i.zero, i.size, i.bytes)) = some (some .nilFunc, 1, 8) := by kernel_rfl
theorem inf_219 : (Try.prog.info? 219).map (fun i => (i.zero, i.size, i.bytes)) = some (some .nilFunc, 1, 8) := by kernel_rfl
theorem inf_22 : (Try.prog.info? 22).map (fun i => (i.zero, i.size, i.bytes)) = some (some (.slice none 0 0), 1, 24) := by kernel_rfl
theorem inf_220 : (Try.prog.info? 220).map (fun i => (i.zero, i.size, i.bytes)) = some (some (.pointer none), 1, 8) := by kernel_rfl
theorem inf_221 : (Try.prog.info? 221).map (fun i => (i.zero, i.size, i.bytes)) = some (some (.agg #[(.int .i64 0), (.int .i64 0), (.int .i64 0), (.int .i64 0), (.int .i64 0), (.int .i64 0), (.int .i64 0), (.int .i64 0), (.int .i64 0), (.int .i64 0), (.int .i64 0), (.int .i64 0), (.int .i64 0), (.int .i64 0), (.slice none 0 0), (.int .i64 0), (.slice none 0 0), (.int .i64 0), (.int .i64 0), (.int .i64 0), (.int .i64 0), (.int .i64 0)]), 22, 208) := by kernel_rfl
theorem inf_222 : (Try.prog.info? 222).map (fun i => (i.zero, i.size, i.bytes)) = some (some (.agg #[(.int .i64 0), (.int .i64 0), (.int .i64 0), (.int .i64 0), (.int .i64 0), (.int .i64 0), (.int .i64 0), (.int .i64 0), (.int .i64 0), (.int .i64 0), (.int .i64 0), (.int .i64 0), (.int .i64 0), (.int .i64 0), (.slice none 0 0), (.int .i64 0), (.slice none 0 0), (.int .i64 0), (.int .i64 0), (.int .i64 0), (.int .i64 0), (.int .i64 0)]), 22, 208) := by kernel_rfl
theorem inf_223 : (Try.prog.info? 223).map (fun i => (i.zero, i.size, i.bytes)) = some (some .nilFunc, 1, 8) := by kernel_rfl
theorem inf_224 : (Try.prog.info? 224).map (fun i => (i.zero, i.size, i.bytes)) = some (some .nilFunc, 1, 8) := by kernel_rfl
theorem inf_225 : (Try.prog.info? 225).map (fun i => (i.zero, i.size, i.bytes)) = some (some (.int .u32 0), 1, 4) := by kernel_rfl
theorem inf_227 : (Try.prog.info? 227).map (fun i => (i.zero, i.size, i.bytes)) = some (some .nilFunc, 1, 8) := by kernel_rfl
theorem inf_228 : (Try.prog.info? 228).map (fun i => (i.zero, i.size, i.bytes)) = some (some (.int .u64 0), 1, 8) := by kernel_rfl
theorem inf_23 : (Try.prog.info? 23).map (fun i => (i.zero, i.size, i.bytes)) = some (some (.slice none 0 0), 1, 24) := by kernel_rfl
theorem inf_230 : (Try.prog.info? 230).map (fun i => (i.zero, i.size, i.bytes)) = some (some .nilFunc, 1, 8) := by kernel_rfl
theorem inf_231 : (Try.prog.info? 231).map (fun i => (i.zero, i.size, i.bytes)) = some (some .nilFunc, 1, 8) := by kernel_rfl
theorem inf_232 : (Try.prog.info? 232).map (fun i => (i.zero, i.size, i.bytes)) = some (some (.agg #[(.string ⟨#[]⟩), (.string ⟨#[]⟩)]), 2, 32) := by kernel_rfl
theorem inf_233 : (Try.prog.info? 233).map (fun i => (i.zero, i.size, i.bytes)) = some (some (.agg #[(.string ⟨#[]⟩), (.string ⟨#[]⟩)]), 2, 32) := by kernel_rfl
theorem inf_235 : (Try.prog.info? 235).map (fun i => (i.zero, i.size, i.bytes)) = some (some .nilFunc, 1, 8) := by kernel_rfl
theorem inf_236 : (Try.prog.info? 236).map (fun i => (i.zero, i.size, i.bytes)) = some (some .nilFunc, 1, 8) := by kernel_rfl
theorem inf_237 : (Try.prog.info? 237).map (fun i => (i.zero, i.size, i.bytes)) = some (some .nilFunc, 1, 8) := by kernel_rfl
theorem inf_238 : (Try.prog.info? 238).map (fun i => (i.zero, i.size, i.bytes)) = some (some .nilFunc, 1, 8) := by kernel_rfl
theorem inf_239 : (Try.prog.info? 239).map (fun i => (i.zero, i.size, i.bytes)) = some (some .nilFunc, 1, 8) := by kernel_rfl
theorem inf_24 : (Try.prog.info? 24).map (fun i => (i.zero, i.size, i.bytes)) = some (some (.slice none 0 0), 1, 24) := by kernel_rfl
theorem inf_240 : (Try.prog.info? 240).map (fun i => (i.zero, i.size, i.bytes)) = some (some .nilFunc, 1, 8) := by kernel_rfl
theorem inf_241 : (Try.prog.info? 241).map (fun i => (i.zero, i.size, i.bytes)) = some (some (.int .i64 0), 1, 8) := by kernel_rfl
theorem inf_243 : (Try.prog.info? 243).map (fun i => (i.zero, i.size, i.bytes)) = some (some .nilFunc, 1, 8) := by kernel_rfl
theorem inf_244 : (Try.prog.info? 244).map (fun i => (i.zero, i.size, i.bytes)) = some (some .nilFunc, 1, 8) := by kernel_rfl
theorem inf_245 : (Try.prog.info? 245).map (fun i => (i.zero, i.size, i.bytes)) = some (some .nilFunc, 1, 8) := by kernel_rfl
theorem inf_246 : (Try.prog.info? 246).map (fun i => (i.zero, i.size, i.bytes)) = some (some .nilFunc, 1, 8) := by kernel_rfl
theorem inf_247 : (Try.prog.info? 247).map (fun i => (i.zero, i.size, i.bytes)) = some (some .nilFunc, 1, 8) := by kernel_rfl
theorem inf_248 : (Try.prog.info? 248).map (fun i => (i.zero, i.size, i.bytes)) = some (some .nilFunc, 1, 8) := by kernel_rfl
theorem inf_25 : (Try.prog.info? 25).map (fun i => (i.zero, i.size, i.bytes)) = some (some (.agg #[(.slice none 0 0), (.slice none 0 0), (.slice none 0 0)]), 3, 72) := by kernel_rfl
theorem inf_251 : (Try.prog.info? 251).map (fun i => (i.zero, i.size, i.bytes)) = some (some .nilFunc, 1, 8) := by kernel_rfl
theorem inf_252 : (Try.prog.info? 252).map (fun i => (i.zero, i.size, i.bytes)) = some (some (.agg #[(.string ⟨#[]⟩), (.string ⟨#[]⟩), (.string ⟨#[]⟩), (.string ⟨#[]⟩), (.string ⟨#[]⟩), (.string ⟨#[]⟩), (.string ⟨#[]⟩), (.string ⟨#[]⟩), (.string ⟨#[]⟩), (.string ⟨#[]⟩), (.string ⟨#[]⟩), (.string ⟨#[]⟩), (.string ⟨#[]⟩), (.string ⟨#[]⟩), (.string ⟨#[]⟩), (.string ⟨#[]⟩), (.string ⟨#[]⟩), (.string ⟨#[]⟩), (.string ⟨#[]⟩), (.string ⟨#[]⟩), (.string ⟨#[]⟩), (.string ⟨#[]⟩), (.string ⟨#[]⟩), (.string ⟨#[]⟩), (.string ⟨#[]⟩), (.string ⟨#[]⟩), (.string ⟨#[]⟩), (.string ⟨#[]⟩), (.string ⟨#[]⟩), (.string ⟨#[]⟩), (.string ⟨#[]⟩), (.string ⟨#[]⟩)]), 32, 512) := by kernel_rfl
theorem inf_253 : (Try.prog.info? 253).map (fun i => (i.zero, i.size, i.bytes)) = some (some .nilFunc, 1, 8) := by kernel_rfl
theorem inf_254 : (Try.prog.info? 254).map (fun i => (i.zero, i.size, i.bytes)) = some (some (.int .u64 0), 1, 8) := by kernel_rfl
theorem inf_255 : (Try.prog.info? 255).map (fun i => (i.zero, i.size, i.bytes)) = some (some .nilFunc, 1, 8) := by kernel_rfl
theorem inf_256 : (Try.prog.info? 256).map (fun i => (i.zero, i.size, i.bytes)) = some (some .nilFunc, 1, 8) := by kernel_rfl
theorem inf_257 : (Try.prog.info? 257).map (fun i => (i.zero, i.size, i.bytes)) = some (some .nilFunc, 1, 8) := by kernel_rfl
theorem inf_258 : (Try.prog.info? 258).map (fun i => (i.zero, i.size, i.bytes)) = some (some .nilFunc, 1, 8) := by kernel_rfl
theorem inf_259 : (Try.prog.info? 259).map (fun i => (i.zero, i.size, i.bytes)) = some (some .nilFunc, 1, 8) := by kernel_rfl
theorem inf_26 : (Try.prog.info? 26).map (fun i => (i.zero, i.size, i.bytes)) = some (some (.agg #[(.slice none 0 0), (.slice none 0 0), (.slice none 0 0)]), 3, 72) := by kernel_rfl
theorem inf_260 : (Try.prog.info? 260).map (fun i => (i.zero, i.size, i.bytes)) = some (some (.pointer none), 1, 8) := by kernel_rfl
theorem inf_262 : (Try.prog.info? 262).map (fun i => (i.zero, i.size, i.bytes)) = some (some .nilFunc, 1, 8) := by kernel_rfl
theorem inf_263 : (Try.prog.info? 263).map (fun i => (i.zero, i.size, i.bytes)) = some (some .nilFunc, 1, 8) := by kernel_rfl
theorem inf_264 : (Try.prog.info? 264).map (fun i => (i.zero, i.size, i.bytes)) = some (some (.agg #[(.pointer none), (.pointer none), (.pointer none), (.string ⟨#[]⟩)]), 4, 40) := by kernel_rfl
theorem inf_265 : (Try.prog.info? 265).map (fun i => (i.zero, i.size, i.bytes)) = some (some (.agg #[(.pointer none), (.pointer none), (.pointer none), (.string ⟨#[]⟩)]), 4, 40) := by kernel_rfl
theorem inf_269 : (Try.prog.info? 269).map (fun i => (i.zero, i.size, i.bytes)) = some (some (.int .u8 0), 1, 1) := by kernel_rfl
theorem inf_27 : (Try.prog.info? 27).map (fun i => (i.zero, i.size, i.bytes)) = some (some (.slice none 0 0), 1, 24) := by kernel_rfl
theorem inf_270 : (Try.prog.info? 270).map (fun i => (i.zero, i.size, i.bytes)) = some (some (.int .u8 0), 1, 1) := by kernel_rfl
theorem inf_271 : (Try.prog.info? 271).map (fun i => (i.zero, i.size, i.bytes)) = some (some .nilFunc, 1, 8) := by kernel_rfl
theorem inf_272 : (Try.prog.info? 272).map (fun i => (i.zero, i.size, i.bytes)) = some (some (.pointer none), 1, 8) := by kernel_rfl
theorem inf_273 : (Try.prog.info? 273).map (fun i => (i.zero, i.size, i.bytes)) = some (some (.int .i32 0), 1, 4) := by kernel_rfl
theorem inf_274 : (Try.prog.info? 274).map (fun i => (i.zero, i.size, i.bytes)) = some (some (.int .i32 0), 1, 4) := by kernel_rfl
theorem inf_275 : (Try.prog.info? 275).map (fun i => (i.zero, i.size, i.bytes)) = some (some (.agg #[(.int .u64 0), (.int .u64 0), (.int .u32 0), (.int .u8 0), (.int .u8 0), (.int .u8 0), (.int .u8 0), .nilFunc, (.pointer none), (.int .i32 0), (.int .i32 0)]), 11, 48) := by kernel_rfl
theorem inf_276 : (Try.prog.info? 276).map (fun i => (i.zero, i.size, i.bytes)) = some (some (.agg #[(.int .u64 0), (.int .u64 0), (.int .u32 0), (.int .u8 0), (.int .u8 0), (.int .u8 0), (.int .u8 0), .nilFunc, (.pointer none), (.int .i32 0), (.int .i32 0)]), 11, 48) := by kernel_rfl
theorem inf_28 : (Try.prog.info? 28).map (fun i => (i.zero, i.size, i.bytes)) = some (some (.int .i64 0), 1, 8) := by kernel_rfl
theorem inf_3 : (Try.prog.info? 3).map (fun i => (i.zero, i.size, i.bytes)) = some (some (.int .i64 0), 1, 8) := by kernel_rfl
theorem inf_30 : (Try.prog.info? 30).map (fun i => (i.zero, i.size, i.bytes)) = some (some .nilFunc, 1, 8) := by kernel_rfl
theorem inf_31 : (Try.prog.info? 31).map (fun i => (i.zero, i.size, i.bytes)) = some (some (.slice none 0 0), 1, 24) := by kernel_rfl
theorem inf_33 : (Try.prog.info? 33).map (fun i => (i.zero, i.size, i.bytes)) = some (some .nilFunc, 1, 8) := by kernel_rfl
theorem inf_34 : (Try.prog.info? 34).map (fun i => (i.zero, i.size, i.bytes)) = some (some .nilFunc, 1, 8) := by kernel_rfl
theorem inf_35 : (Try.prog.info? 35).map (fun i => (i.zero, i.size, i.bytes)) = some (some .nilFunc, 1, 8) := by kernel_rfl
theorem inf_36 : (Try.prog.info? 36).map (fun i => (i.zero, i.size, i.bytes)) = some (some (.agg #[(.int .i64 0), (.int .i64 0)]), 2, 16) := by kernel_rfl
theorem inf_37 : (Try.prog.info? 37).map (fun i => (i.zero, i.size, i.bytes)) = some (some (.agg #[(.int .i64 0), (.int .i64 0)]), 2, 16) := by kernel_rfl
theorem inf_38 : (Try.prog.info? 38).map (fun i => (i.zero, i.size, i.bytes)) = some (some (.slice none 0 0), 1, 24) := by kernel_rfl
theorem inf_39 : (Try.prog.info? 39).map (fun i => (i.zero, i.size, i.bytes)) = some (some .nilFunc, 1, 8) := by kernel_rfl
theorem inf_4 : (Try.prog.info? 4).map (fun i => (i.zero, i.size, i.bytes)) = some (some (.bool false), 1, 1) := by kernel_rfl
theorem inf_40 : (Try.prog.info? 40).map (fun i => (i.zero, i.size, i.bytes)) = some (some .nilFunc, 1, 8) := by kernel_rfl
theorem inf_41 : (Try.prog.info? 41).map (fun i => (i.zero, i.size, i.bytes)) = some (some .nilFunc, 1, 8) := by kernel_rfl
theorem inf_42 : (Try.prog.info? 42).map (fun i => (i.zero, i.size, i.bytes)) = some (some (.slice none 0 0), 1, 24) := by kernel_rfl
theorem inf_44 : (Try.prog.info? 44).map (fun i => (i.zero, i.size, i.bytes)) = some (some .nilFunc, 1, 8) := by kernel_rfl
theorem inf_45 : (Try.prog.info? 45).map (fun i => (i.zero, i.size, i.bytes)) = some (some .nilFunc, 1, 8) := by kernel_rfl
theorem inf_47 : (Try.prog.info? 47).map (fun i => (i.zero, i.size, i.bytes)) = some (some .nilFunc, 1, 8) := by kernel_rfl
theorem inf_48 : (Try.prog.info? 48).map (fun i => (i.zero, i.size, i.bytes)) = some (some .nilFunc, 1, 8) := by kernel_rfl
theorem inf_49 : (Try.prog.info? 49).map (fun i => (i.zero, i.size, i.bytes)) = some (some .nilFunc, 1, 8) := by kernel_rfl
theorem inf_5 : (Try.prog.info? 5).map (fun i => (i.zero, i.size, i.bytes)) = some (some (.int .u8 0), 1, 1) := by kernel_rfl
theorem inf_50 : (Try.prog.info? 50).map (fun i => (i.zero, i.size, i.bytes)) = some (some .nilFunc, 1, 8) := by kernel_rfl
theorem inf_51 : (Try.prog.info? 51).map (fun i => (i.zero, i.size, i.bytes)) = some (some (.agg #[(.slice none 0 0)]), 1, 24) := by kernel_rfl
theorem inf_52 : (Try.prog.info? 52).map (fun i => (i.zero, i.size, i.bytes)) = some (some (.agg #[(.slice none 0 0)]), 1, 24) := by kernel_rfl
theorem inf_53 : (Try.prog.info? 53).map (fun i => (i.zero, i.size, i.bytes)) = some (some (.slice none 0 0), 1, 24) := by kernel_rfl
theorem inf_54 : (Try.prog.info? 54).map (fun i => (i.zero, i.size, i.bytes)) = some (some (.agg #[(.slice none 0 0)]), 1, 24) := by kernel_rfl
theorem inf_55 : (Try.prog.info? 55).map (fun i => (i.zero, i.size, i.bytes)) = some (some (.agg #[(.slice none 0 0)]), 1, 24) := by kernel_rfl
theorem inf_57 : (Try.prog.info? 57).map (fun i => (i.zero, i.size, i.bytes)) = some (some .nilFunc, 1, 8) := by kernel_rfl
theorem inf_58 : (Try.prog.info? 58).map (fun i => (i.zero, i.size, i.bytes)) = some (some .nilFunc, 1, 8) := by kernel_rfl
theorem inf_6 : (Try.prog.info? 6).map (fun i => (i.zero, i.size, i.bytes)) = some (some (.int .u8 0), 1, 1) := by kernel_rfl
theorem inf_60 : (Try.prog.info? 60).map (fun i => (i.zero, i.size, i.bytes)) = some (some .nilFunc, 1, 8) := by kernel_rfl
theorem inf_61 : (Try.prog.info? 61).map (fun i => (i.zero, i.size, i.bytes)) = some (some .nilFunc, 1, 8) := by kernel_rfl
theorem inf_62 : (Try.prog.info? 62).map (fun i => (i.zero, i.size, i.bytes)) = some (some .nilFunc, 1, 8) := by kernel_rfl
theorem inf_64 : (Try.prog.info? 64).map (fun i => (i.zero, i.size, i.bytes)) = some (some .nilFunc, 1, 8) := by kernel_rfl
theorem inf_65 : (Try.prog.info? 65).map (fun i => (i.zero, i.size, i.bytes)) = some (some .nilFunc, 1, 8) := by kernel_rfl
theorem inf_67 : (Try.prog.info? 67).map (fun i => (i.zero, i.size, i.bytes)) = some (some .nilFunc, 1, 8) := by kernel_rfl
theorem inf_68 : (Try.prog.info? 68).map (fun i => (i.zero, i.size, i.bytes)) = some (some .nilFunc, 1, 8) := by kernel_rfl
theorem inf_7 : (Try.prog.info? 7).map (fun i => (i.zero, i.size, i.bytes)) = some (some (.agg #[(.int .i64 0), (.int .i64 0), (.bool false), (.int .u8 0)]), 4, 24) := by kernel_rfl
theorem inf_70 : (Try.prog.info? 70).map (fun i => (i.zero, i.size, i.bytes)) = some (some .nilFunc, 1, 8) := by kernel_rfl
theorem inf_71 : (Try.prog.info? 71).map (fun i => (i.zero, i.size, i.bytes)) = some (some .nilFunc, 1, 8) := by kernel_rfl
theorem inf_73 : (Try.prog.info? 73).map (fun i => (i.zero, i.size, i.bytes)) = some (some .nilFunc, 1, 8) := by kernel_rfl
theorem inf_74 : (Try.prog.info? 74).map (fun i => (i.zero, i.size, i.bytes)) = some (some .nilFunc, 1, 8) := by kernel_rfl
theorem inf_75 : (Try.prog.info? 75).map (fun i => (i.zero, i.size, i.bytes)) = some (some (.slice none 0 0), 1, 24) := by kernel_rfl
theorem inf_76 : (Try.prog.info? 76).map (fun i => (i.zero, i.size, i.bytes)) = some (some (.slice none 0 0), 1, 24) := by kernel_rfl
theorem inf_77 : (Try.prog.info? 77).map (fun i => (i.zero, i.size, i.bytes)) = some (some (.agg #[(.int .i64 0), (.slice none 0 0), (.slice none 0 0)]), 3, 56) := by kernel_rfl
theorem inf_78 : (Try.prog.info? 78).map (fun i => (i.zero, i.size, i.bytes)) = some (some (.agg #[(.int .i64 0), (.slice none 0 0), (.slice none 0 0)]), 3, 56) := by kernel_rfl
theorem inf_8 : (Try.prog.info? 8).map (fun i => (i.zero, i.size, i.bytes)) = some (some (.agg #[(.int .i64 0), (.int .i64 0), (.bool false), (.int .u8 0)]), 4, 24) := by kernel_rfl
theorem inf_80 : (Try.prog.info? 80).map (fun i => (i.zero, i.size, i.bytes)) = some (some .nilFunc, 1, 8) := by kernel_rfl
theorem inf_82 : (Try.prog.info? 82).map (fun i => (i.zero, i.size, i.bytes)) = some (some .nilFunc, 1, 8) := by kernel_rfl
theorem inf_83 : (Try.prog.info? 83).map (fun i => (i.zero, i.size, i.bytes)) = some (some .nilFunc, 1, 8) := by kernel_rfl
theorem inf_84 : (Try.prog.info? 84).map (fun i => (i.zero, i.size, i.bytes)) = some (some .nilFunc, 1, 8) := by kernel_rfl
theorem inf_85 : (Try.prog.info? 85).map (fun i => (i.zero, i.size, i.bytes)) = some (some .nilFunc, 1, 8) := by kernel_rfl
theorem inf_87 : (Try.prog.info? 87).map (fun i => (i.zero, i.size, i.bytes)) = some (some .nilFunc, 1, 8) := by kernel_rfl
theorem inf_89 : (Try.prog.info? 89).map (fun i => (i.zero, i.size, i.bytes)) = some (some .nilFunc, 1, 8) := by kernel_rfl
theorem inf_9 : (Try.prog.info? 9).map (fun i => (i.zero, i.size, i.bytes)) = some (some (.string ⟨#[]⟩), 1, 16) := by kernel_rfl
theorem inf_90 : (Try.prog.info? 90).map (fun i => (i.zero, i.size, i.bytes)) = some (some .nilFunc, 1, 8) := by kernel_rfl
theorem inf_91 : (Try.prog.info? 91).map (fun i => (i.zero, i.size, i.bytes)) = some (some (.slice none 0 0), 1, 24) := by kernel_rfl
theorem inf_92 : (Try.prog.info? 92).map (fun i => (i.zero, i.size, i.bytes)) = some (some .nilFunc, 1, 8) := by kernel_rfl
theorem inf_93 : (Try.prog.info? 93).map (fun i => (i.zero, i.size, i.bytes)) = some (some .nilFunc, 1, 8) := by kernel_rfl
theorem inf_94 : (Try.prog.info? 94).map (fun i => (i.zero, i.size, i.bytes)) = some (some (.slice none 0 0), 1, 24) := by kernel_rfl
theorem inf_95 : (Try.prog.info? 95).map (fun i => (i.zero, i.size, i.bytes)) = some (some (.agg #[(.slice none 0 0), (.slice none 0 0)]), 2, 48) := by kernel_rfl
theorem inf_96 : (Try.prog.info? 96).map (fun i => (i.zero, i.size, i.bytes)) = some (some (.agg #[(.slice none 0 0), (.slice none 0 0)]), 2, 48) := by kernel_rfl
theorem inf_97 : (Try.prog.info? 97).map (fun i => (i.zero, i.size, i.bytes)) = some (some .nilFunc, 1, 8) := by kernel_rfl
theorem inf_98 : (Try.prog.info? 98).map (fun i => (i.zero, i.size, i.bytes)) = some (some .nilFunc, 1, 8) := by kernel_rfl
theorem inf_99 : (Try.prog.info? 99).map (fun i => (i.zero, i.size, i.bytes)) = some (some (.agg #[(.int .i64 0), (.int .i64 0), (.int .i64 0)]), 3, 24) := by kernel_rfl
theorem mixed_ok : Try.prog.follows .mixedOrders = true := by kernel_rfl
theorem sz_1 : (Try.prog.info? 1).map (·.size) = some 1 := by kernel_rfl
theorem sz_10 : (Try.prog.info? 10).map (·.size) = some 1 := by kernel_rfl
theorem sz_100 : (Try.prog.info? 100).map (·.size) = some 3 := by kernel_rfl
theorem sz_101 : (Try.prog.info? 101).map (·.size) = some 2 := by kernel_rfl
theorem sz_102 : (Try.prog.info? 102).map (·.size) = some 2 := by kernel_rfl
theorem sz_103 : (Try.prog.info? 103).map (·.size) = some 4 := by kernel_rfl
theorem sz_104 : (Try.prog.info? 104).map (·.size) = some 4 := by kernel_rfl
theorem sz_105 : (Try.prog.info? 105).map (·.size) = some 1 := by kernel_rfl
theorem sz_106 : (Try.prog.info? 106).map (·.size) = some 1 := by kernel_rfl
theorem sz_107 : (Try.prog.info? 107).map (·.size) = some 1 := by kernel_rfl
theorem sz_108 : (Try.prog.info? 108).map (·.size) = some 1 := by kernel_rfl
theorem sz_109 : (Try.prog.info? 109).map (·.size) = some 1 := by kernel_rfl
theorem sz_11 : (Try.prog.info? 11).map (·.size) = some 1 := by kernel_rfl
theorem sz_110 : (Try.prog.info? 110).map (·.size) = some 1 := by kernel_rfl
theorem sz_111 : (Try.prog.info? 111).map (·.size) = some 1 := by kernel_rfl
theorem sz_112 : (Try.prog.info? 112).map (·.size) = some 1 := by kernel_rfl
theorem sz_113 : (Try.prog.info? 113).map (·.size) = some 1 := by kernel_rfl
theorem sz_114 : (Try.prog.info? 114).map (·.size) = some 1 := by kernel_rfl
theorem sz_115 : (Try.prog.info? 115).map (·.size) = some 1 := by kernel_rfl
theorem sz_116 : (Try.prog.info? 116).map (·.size) = some 1 := by kernel_rfl
theorem sz_117 : (Try.prog.info? 117).map (·.size) = some 1 := by kernel_rfl
theorem sz_118 : (Try.prog.info? 118).map (·.size) = some 1 := by kernel_rfl
theorem sz_119 : (Try.prog.info? 119).map (·.size) = some 1 := by kernel_rfl
theorem sz_12 : (Try.prog.info? 12).map (·.size) = some 1 := by kernel_rfl
theorem sz_120 : (Try.prog.info? 120).map (·.size) = some 1 := by kernel_rfl
theorem sz_121 : (Try.prog.info? 121).map (·.size) = some 1 := by kernel_rfl
theorem sz_122 : (Try.prog.info? 122).map (·.size) = some 1 := by kernel_rfl
theorem sz_123 : (Try.prog.info? 123).map (·.size) = some 1 := by kernel_rfl
theorem sz_124 : (Try.prog.info? 124).map (·.size) = some 1 := by kernel_rfl
theorem sz_125 : (Try.prog.info? 125).map (·.size) = some 1 := by kernel_rfl
theorem sz_126 : (Try.prog.info? 126).map (·.size) = some 1 := by kernel_rfl
theorem sz_127 : (Try.prog.info? 127).map (·.size) = some 1 := by kernel_rfl
theorem sz_128 : (Try.prog.info? 128).map (·.size) = some 1 := by kernel_rfl
theorem sz_129 : (Try.prog.info? 129).map (·.size) = some 1 := by kernel_rfl
theorem sz_13 : (Try.prog.info? 13).map (·.size) = some 2 := by kernel_rfl
theorem sz_130 : (Try.prog.info? 130).map (·.size) = some 1 := by kernel_rfl
theorem sz_131 : (Try.prog.info? 131).map (·.size) = some 1 := by kernel_rfl
theorem sz_132 : (Try.prog.info? 132).map (·.size) = some 1 := by kernel_rfl
theorem sz_133 : (Try.prog.info? 133).map (·.size) = some 1 := by kernel_rfl
theorem sz_134 : (Try.prog.info? 134).map (·.size) = some 1 := by kernel_rfl
theorem sz_135 : (Try.prog.info? 135).map (·.size) = some 1 := by kernel_rfl
theorem sz_136 : (Try.prog.info? 136).map (·.size) = some 1 := by kernel_rfl
theorem sz_137 : (Try.prog.info? 137).map (·.size) = some 1 := by kernel_rfl
theorem sz_138 : (Try.prog.info? 138).map (·.size) = some 1 := by kernel_rfl
theorem sz_139 : (Try.prog.info? 139).map (·.size) = some 1 := by kernel_rfl
theorem sz_14 : (Try.prog.info? 14).map (·.size) = some 2 := by kernel_rfl
theorem sz_140 : (Try.prog.info? 140).map (·.size) = some 1 := by kernel_rfl
theorem sz_141 : (Try.prog.info? 141).map (·.size) = some 1 := by kernel_rfl
theorem sz_142 : (Try.prog.info? 142).map (·.size) = some 1 := by kernel_rfl
theorem sz_143 : (Try.prog.info? 143).map (·.size) = some 1 := by kernel_rfl
theorem sz_144 : (Try.prog.info? 144).map (·.size) = some 1 := by kernel_rfl
theorem sz_147 : (Try.prog.info? 147).map (·.size) = some 1 := by kernel_rfl
theorem sz_148 : (Try.prog.info? 148).map (·.size) = some 1 := by kernel_rfl
theorem sz_149 : (Try.prog.info? 149).map (·.size) = some 1 := by kernel_rfl
theorem sz_15 : (Try.prog.info? 15).map (·.size) = some 1 := by kernel_rfl
theorem sz_150 : (Try.prog.info? 150).map (·.size) = some 1 := by kernel_rfl
theorem sz_151 : (Try.prog.info? 151).map (·.size) = some 1 := by kernel_rfl
theorem sz_152 : (Try.prog.info? 152).map (·.size) = some 1 := by kernel_rfl
theorem sz_153 : (Try.prog.info? 153).map (·.size) = some 1 := by kernel_rfl
theorem sz_154 : (Try.prog.info? 154).map (·.size) = some 1 := by kernel_rfl
theorem sz_155 : (Try.prog.info? 155).map (·.size) = some 1 := by kernel_rfl
theorem sz_156 : (Try.prog.info? 156).map (·.size) = some 4 := by kernel_rfl
theorem sz_157 : (Try.prog.info? 157).map (·.size) = some 8 := by kernel_rfl
theorem sz_158 : (Try.prog.info? 158).map (·.size) = some 16 := by kernel_rfl
theorem sz_159 : (Try.prog.info? 159).map (·.size) = some 16 := by kernel_rfl
theorem sz_16 : (Try.prog.info? 16).map (·.size) = some 1 := by kernel_rfl
theorem sz_160 : (Try.prog.info? 160).map (·.size) = some 1 := by kernel_rfl
theorem sz_161 : (Try.prog.info? 161).map (·.size) = some 1 := by kernel_rfl
theorem sz_162 : (Try.prog.info? 162).map (·.size) = some 1 := by kernel_rfl
theorem sz_163 : (Try.prog.info? 163).map (·.size) = some 1 := by kernel_rfl
theorem sz_164 : (Try.prog.info? 164).map (·.size) = some 1 := by kernel_rfl
theorem sz_165 : (Try.prog.info? 165).map (·.size) = some 1 := by kernel_rfl
theorem sz_167 : (Try.prog.info? 167).map (·.size) = some 1 := by kernel_rfl
theorem sz_168 : (Try.prog.info? 168).map (·.size) = some 1 := by kernel_rfl
theorem sz_169 : (Try.prog.info? 169).map (·.size) = some 1 := by kernel_rfl
theorem sz_17 : (Try.prog.info? 17).map (·.size) = some 1 := by kernel_rfl
theorem sz_170 : (Try.prog.info? 170).map (·.size) = some 1 := by kernel_rfl
theorem sz_171 : (Try.prog.info? 171).map (·.size) = some 1 := by kernel_rfl
theorem sz_172 : (Try.prog.info? 172).map (·.size) = some 1 := by kernel_rfl
theorem sz_173 : (Try.prog.info? 173).map (·.size) = some 1 := by kernel_rfl
theorem sz_174 : (Try.prog.info? 174).map (·.size) = some 1 := by kernel_rfl
theorem sz_175 : (Try.prog.info? 175).map (·.size) = some 1 := by kernel_rfl
theorem sz_176 : (Try.prog.info? 176).map (·.size) = some 1 := by kernel_rfl
theorem sz_177 : (Try.prog.info? 177).map (·.size) = some 1 := by kernel_rfl
theorem sz_178 : (Try.prog.info? 178).map (·.size) = some 1 := by kernel_rfl
theorem sz_179 : (Try.prog.info? 179).map (·.size) = some 1 := by kernel_rfl
theorem sz_18 : (Try.prog.info? 18).map (·.size) = some 1 := by kernel_rfl
theorem sz_180 : (Try.prog.info? 180).map (·.size) = some 1 := by kernel_rfl
theorem sz_181 : (Try.prog.info? 181).map (·.size) = some 1 := by kernel_rfl
theorem sz_182 : (Try.prog.info? 182).map (·.size) = some 1 := by kernel_rfl
theorem sz_183 : (Try.prog.info? 183).map (·.size) = some 1 := by kernel_rfl
theorem sz_184 : (Try.prog.info? 184).map (·.size) = some 1 := by kernel_rfl
theorem sz_185 : (Try.prog.info? 185).map (·.size) = some 1 := by kernel_rfl
theorem sz_186 : (Try.prog.info? 186).map (·.size) = some 1 := by kernel_rfl
theorem sz_187 : (Try.prog.info? 187).map (·.size) = some 1 := by kernel_rfl
theorem sz_188 : (Try.prog.info? 188).map (·.size) = some 1 := by kernel_rfl
theorem sz_189 : (Try.prog.info? 189).map (·.size) = some 1 := by kernel_rfl
theorem sz_19 : (Try.prog.info? 19).map (·.size) = some 1 := by kernel_rfl
theorem sz_190 : (Try.prog.info? 190).map (·.size) = some 1 := by kernel_rfl
theorem sz_191 : (Try.prog.info? 191).map (·.size) = some 1 := by kernel_rfl
theorem sz_192 : (Try.prog.info? 192).map (·.size) = some 1 := by kernel_rfl
theorem sz_193 : (Try.prog.info? 193).map (·.size) = some 1 := by kernel_rfl
theorem sz_194 : (Try.prog.info? 194).map (·.size) = some 1 := by kernel_rfl
theorem sz_195 : (Try.prog.info? 195).map (·.size) = some 1 := by kernel_rfl
theorem sz_196 : (Try.prog.info? 196).map (·.size) = some 1 := by kernel_rfl
theorem sz_197 : (Try.prog.info? 197).map (·.size) = some 5 := by kernel_rfl
theorem sz_198 : (Try.prog.info? 198).map (·.size) = some 5 := by kernel_rfl
theorem sz_2 : (Try.prog.info? 2).map (·.size) = some 1 := by kernel_rfl
theorem sz_200 : (Try.prog.info? 200).map (·.size) = some 1 := by kernel_rfl
theorem sz_202 : (Try.prog.info? 202).map (·.size) = some 1 := by kernel_rfl
theorem sz_204 : (Try.prog.info? 204).map (·.size) = some 1 := by kernel_rfl
theorem sz_206 : (Try.prog.info? 206).map (·.size) = some 1 := by kernel_rfl
theorem sz_207 : (Try.prog.info? 207).map (·.size) = some 1 := by kernel_rfl
theorem sz_209 : (Try.prog.info? 209).map (·.size) = some 1 := by kernel_rfl
theorem sz_21 : (Try.prog.info? 21).map (·.size) = some 1 := by kernel_rfl
theorem sz_210 : (Try.prog.info? 210).map (·.size) = some 1 := by kernel_rfl
theorem sz_211 : (Try.prog.info? 211).map (·.size) = some 1 := by kernel_rfl
theorem sz_212 : (Try.prog.info? 212).map (·.size) = some 1 := by kernel_rfl
theorem sz_213 : (Try.prog.info? 213).map (·.size) = some 1 := by kernel_rfl
theorem sz_215 : (Try.prog.info? 215).map (·.size) = some 1 := by kernel_rfl
theorem sz_216 : (Try.prog.info? 216).map (·.size) = some 1 := by kernel_rfl
theorem sz_218 : (Try.prog.info? 218).map (·.size) = some 1 := by kernel_rfl
theorem sz_219 : (Try.prog.info? 219).map (·.size) = some 1 := by kernel_rfl
theorem sz_22 : (Try.prog.info? 22).map (·.size) = some 1 := by kernel_rfl
theorem sz_220 : (Try.prog.info? 220).map (·.size) = some 1 := by kernel_rfl
theorem sz_221 : (Try.prog.info? 221).map (·.size) = some 22 := by kernel_rfl
theorem sz_222 : (Try.prog.info? 222).map (·.size) = some 22 := by kernel_rfl
theorem sz_223 : (Try.prog.info? 223).map (·.size) = some 1 := by kernel_rfl
theorem sz_224 : (Try.prog.info? 224).map (·.size) = some 1 := by kernel_rfl
theorem sz_225 : (Try.prog.info? 225).map (·.size) = some 1 := by kernel_rfl
theorem sz_227 : (Try.prog.info? 227).map (·.size) = some 1 := by kernel_rfl
theorem sz_228 : (Try.prog.info? 228).map (·.size) = some 1 := by kernel_rfl
theorem sz_23 : (Try.prog.info? 23).map (·.size) = some 1 := by kernel_rfl
theorem sz_230 : (Try.prog.info? 230).map (·.size) = some 1 := by kernel_rfl
theorem sz_231 : (Try.prog.info? 231).map (·.size) = some 1 := by kernel_rfl
theorem sz_232 : (Try.prog.info? 232).map (·.size) = some 2 := by kernel_rfl
theorem sz_233 : (Try.prog.info? 233).map (·.size) = some 2 := by kernel_rfl
theorem sz_235 : (Try.prog.info? 235).map (·.size) = some 1 := by kernel_rfl
theorem sz_236 : (Try.prog.info? 236).map (·.size) = some 1 := by kernel_rfl
theorem sz_237 : (Try.prog.info? 237).map (·.size) = some 1 := by kernel_rfl
theorem sz_238 : (Try.prog.info? 238).map (·.size) = some 1 := by kernel_rfl
theorem sz_239 : (Try.prog.info? 239).map (·.size) = some 1 := by kernel_rfl
theorem sz_24 : (Try.prog.info? 24).map (·.size) = some 1 := by kernel_rfl
theorem sz_240 : (Try.prog.info? 240).map (·.size) = some 1 := by kernel_rfl
theorem sz_241 : (Try.prog.info? 241).map (·.size) = some 1 := by kernel_rfl
theorem sz_243 : (Try.prog.info? 243).map (·.size) = some 1 := by kernel_rfl
theorem sz_244 : (Try.prog.info? 244).map (·.size) = some 1 := by kernel_rfl
theorem sz_245 : (Try.prog.info? 245).map (·.size) = some 1 := by kernel_rfl
theorem sz_246 : (Try.prog.info? 246).map (·.size) = some 1 := by kernel_rfl
theorem sz_247 : (Try.prog.info? 247).map (·.size) = some 1 := by kernel_rfl
theorem sz_248 : (Try.prog.info? 248).map (·.size) = some 1 := by kernel_rfl
theorem sz_25 : (Try.prog.info? 25).map (·.size) = some 3 := by kernel_rfl
theorem sz_251 : (Try.prog.info? 251).map (·.size) = some 1 := by kernel_rfl
theorem sz_252 : (Try.prog.info? 252).map (·.size) = some 32 := by kernel_rfl
theorem sz_253 : (Try.prog.info? 253).map (·.size) = some 1 := by kernel_rfl
theorem sz_254 : (Try.prog.info? 254).map (·.size) = some 1 := by kernel_rfl
theorem sz_255 : (Try.prog.info? 255).map (·.size) = some 1 := by kernel_rfl
theorem sz_256 : (Try.prog.info? 256).map (·.size) = some 1 := by kernel_rfl
theorem sz_257 : (Try.prog.info? 257).map (·.size) = some 1 := by kernel_rfl
theorem sz_258 : (Try.prog.info? 258).map (·.size) = some 1 := by kernel_rfl
theorem sz_259 : (Try.prog.info? 259).map (·.size) = some 1 := by kernel_rfl
theorem sz_26 : (Try.prog.info? 26).map (·.size) = some 3 := by kernel_rfl
theorem sz_260 : (Try.prog.info? 260).map (·.size) = some 1 := by kernel_rfl
theorem sz_262 : (Try.prog.info? 262).map (·.size) = some 1 := by kernel_rfl
theorem sz_263 : (Try.prog.info? 263).map (·.size) = some 1 := by kernel_rfl
theorem sz_264 : (Try.prog.info? 264).map (·.size) = some 4 := by kernel_rfl
theorem sz_265 : (Try.prog.info? 265).map (·.size) = some 4 := by kernel_rfl
theorem sz_269 : (Try.prog.info? 269).map (·.size) = some 1 := by kernel_rfl
theorem sz_27 : (Try.prog.info? 27).map (·.size) = some 1 := by kernel_rfl
theorem sz_270 : (Try.prog.info? 270).map (·.size) = some 1 := by kernel_rfl
theorem sz_271 : (Try.prog.info? 271).map (·.size) = some 1 := by kernel_rfl
theorem sz_272 : (Try.prog.info? 272).map (·.size) = some 1 := by kernel_rfl
theorem sz_273 : (Try.prog.info? 273).map (·.size) = some 1 := by kernel_rfl
theorem sz_274 : (Try.prog.info? 274).map (·.size) = some 1 := by kernel_rfl
theorem sz_275 : (Try.prog.info? 275).map (·.size) = some 11 := by kernel_rfl
theorem sz_276 : (Try.prog.info? 276).map (·.size) = some 11 := by kernel_rfl
theorem sz_28 : (Try.prog.info? 28).map (·.size) = some 1 := by kernel_rfl
theorem sz_3 : (Try.prog.info? 3).map (·.size) = some 1 := by kernel_rfl
theorem sz_30 : (Try.prog.info? 30).map (·.size) = some 1 := by kernel_rfl
theorem sz_31 : (Try.prog.info? 31).map (·.size) = some 1 := by kernel_rfl
theorem sz_33 : (Try.prog.info? 33).map (·.size) = some 1 := by kernel_rfl
theorem sz_34 : (Try.prog.info? 34).map (·.size) = some 1 := by kernel_rfl
theorem sz_35 : (Try.prog.info? 35).map (·.size) = some 1 := by kernel_rfl
theorem sz_36 : (Try.prog.info? 36).map (·.size) = some 2 := by kernel_rfl
theorem sz_37 : (Try.prog.info? 37).map (·.size) = some 2 := by kernel_rfl
theorem sz_38 : (Try.prog.info? 38).map (·.size) = some 1 := by kernel_rfl
theorem sz_39 : (Try.prog.info? 39).map (·.size) = some 1 := by kernel_rfl
theorem sz_4 : (Try.prog.info? 4).map (·.size) = some 1 := by kernel_rfl
theorem sz_40 : (Try.prog.info? 40).map (·.size) = some 1 := by kernel_rfl
theorem sz_41 : (Try.prog.info? 41).map (·.size) = some 1 := by kernel_rfl
theorem sz_42 : (Try.prog.info? 42).map (·.size) = some 1 := by kernel_rfl
theorem sz_44 : (Try.prog.info? 44).map (·.size) = some 1 := by kernel_rfl
theorem sz_45 : (Try.prog.info? 45).map (·.size) = some 1 := by kernel_rfl
theorem sz_47 : (Try.prog.info? 47).map (·.size) = some 1 := by kernel_rfl
theorem sz_48 : (Try.prog.info? 48).map (·.size) = some 1 := by kernel_rfl
theorem sz_49 : (Try.prog.info? 49).map (·.size) = some 1 := by kernel_rfl
theorem sz_5 : (Try.prog.info? 5).map (·.size) = some 1 := by kernel_rfl
theorem sz_50 : (Try.prog.info? 50).map (·.size) = some 1 := by kernel_rfl
theorem sz_51 : (Try.prog.info? 51).map (·.size) = some 1 := by kernel_rfl
theorem sz_52 : (Try.prog.info? 52).map (·.size) = some 1 := by kernel_rfl
theorem sz_53 : (Try.prog.info? 53).map (·.size) = some 1 := by kernel_rfl
theorem sz_54 : (Try.prog.info? 54).map (·.size) = some 1 := by kernel_rfl
theorem sz_55 : (Try.prog.info? 55).map (·.size) = some 1 := by kernel_rfl
theorem sz_57 : (Try.prog.info? 57).map (·.size) = some 1 := by kernel_rfl
theorem sz_58 : (Try.prog.info? 58).map (·.size) = some 1 := by kernel_rfl
theorem sz_6 : (Try.prog.info? 6).map (·.size) = some 1 := by kernel_rfl
theorem sz_60 : (Try.prog.info? 60).map (·.size) = some 1 := by kernel_rfl
theorem sz_61 : (Try.prog.info? 61).map (·.size) = some 1 := by kernel_rfl
theorem sz_62 : (Try.prog.info? 62).map (·.size) = some 1 := by kernel_rfl
theorem sz_64 : (Try.prog.info? 64).map (·.size) = some 1 := by kernel_rfl
theorem sz_65 : (Try.prog.info? 65).map (·.size) = some 1 := by kernel_rfl
theorem sz_67 : (Try.prog.info? 67).map (·.size) = some 1 := by kernel_rfl
theorem sz_68 : (Try.prog.info? 68).map (·.size) = some 1 := by kernel_rfl
theorem sz_7 : (Try.prog.info? 7).map (·.size) = some 4 := by kernel_rfl
theorem sz_70 : (Try.prog.info? 70).map (·.size) = some 1 := by kernel_rfl
theorem sz_71 : (Try.prog.info? 71).map (·.size) = some 1 := by kernel_rfl
theorem sz_73 : (Try.prog.info? 73).map (·.size) = some 1 := by kernel_rfl
theorem sz_74 : (Try.prog.info? 74).map (·.size) = some 1 := by kernel_rfl
theorem sz_75 : (Try.prog.info? 75).map (·.size) = some 1 := by kernel_rfl
theorem sz_76 : (Try.prog.info? 76).map (·.size) = some 1 := by kernel_rfl
theorem sz_77 : (Try.prog.info? 77).map (·.size) = some 3 := by kernel_rfl
theorem sz_78 : (Try.prog.info? 78).map (·.size) = some 3 := by kernel_rfl
theorem sz_8 : (Try.prog.info? 8).map (·.size) = some 4 := by kernel_rfl
theorem sz_80 : (Try.prog.info? 80).map (·.size) = some 1 := by kernel_rfl
theorem sz_82 : (Try.prog.info? 82).map (·.size) = some 1 := by kernel_rfl
theorem sz_83 : (Try.prog.info? 83).map (·.size) = some 1 := by kernel_rfl
theorem sz_84 : (Try.prog.info? 84).map (·.size) = some 1 := by kernel_rfl
theorem sz_85 : (Try.prog.info? 85).map (·.size) = some 1 := by kernel_rfl
theorem sz_87 : (Try.prog.info? 87).map (·.size) = some 1 := by kernel_rfl
theorem sz_89 : (Try.prog.info? 89).map (·.size) = some 1 := by kernel_rfl
theorem sz_9 : (Try.prog.info? 9).map (·.size) = some 1 := by kernel_rfl
theorem sz_90 : (Try.prog.info? 90).map (·.size) = some 1 := by kernel_rfl
theorem sz_91 : (Try.prog.info? 91).map (·.size) = some 1 := by kernel_rfl
theorem sz_92 : (Try.prog.info? 92).map (·.size) = some 1 := by kernel_rfl
theorem sz_93 : (Try.prog.info? 93).map (·.size) = some 1 := by kernel_rfl
theorem sz_94 : (Try.prog.info? 94).map (·.size) = some 1 := by kernel_rfl
theorem sz_95 : (Try.prog.info? 95).map (·.size) = some 2 := by kernel_rfl
theorem sz_96 : (Try.prog.info? 96).map (·.size) = some 2 := by kernel_rfl
theorem sz_97 : (Try.prog.info? 97).map (·.size) = some 1 := by kernel_rfl
theorem sz_98 : (Try.prog.info? 98).map (·.size) = some 1 := by kernel_rfl
theorem sz_99 : (Try.prog.info? 99).map (·.size) = some 3 := by kernel_rfl
theorem ze_1 : (Try.prog.info? 1).map (·.zero) = some (some .nilFunc) := by kernel_rfl
theorem ze_10 : (Try.prog.info? 10).map (·.zero) = some (some (.string ⟨#[]⟩)) := by kernel_rfl
theorem ze_100 : (Try.prog.info? 100).map (·.zero) = some (some (.agg #[(.int .i64 0), (.int .i64 0), (.int .i64 0)])) := by kernel_rfl
theorem ze_101 : (Try.prog.info? 101).map (·.zero) = some (some (.agg #[(.int .i64 0), (.int .i64 0)])) := by kernel_rfl
theorem ze_102 : (Try.prog.info? 102).map (·.zero) = some (some (.agg #[(.int .i64 0), (.int .i64 0)])) := by kernel_rfl
theorem ze_103 : (Try.prog.info? 103).map (·.zero) = some (some (.agg #[(.int .i64 0), (.int .i64 0), (.int .i64 0), (.int .i64 0)])) := by kernel_rfl
theorem ze_104 : (Try.prog.info? 104).map (·.zero) = some (some (.agg #[(.int .i64 0), (.int .i64 0), (.int .i64 0), (.int .i64 0)])) := by kernel_rfl
theorem ze_105 : (Try.prog.info? 105).map (·.zero) = some (some .nilFunc) := by kernel_rfl
theorem ze_106 : (Try.prog.info? 106).map (·.zero) = some (some (.map none)) := by kernel_rfl
theorem ze_107 : (Try.prog.info? 107).map (·.zero) = some (some .nilFunc) := by kernel_rfl
theorem ze_108 : (Try.prog.info? 108).map (·.zero) = some (some (.map none)) := by kernel_rfl
theorem ze_109 : (Try.prog.info? 109).map (·.zero) = some (some (.map none)) := by kernel_rfl
theorem ze_11 : (Try.prog.info? 11).map (·.zero) = some (some (.string ⟨#[]⟩)) := by kernel_rfl
theorem ze_110 : (Try.prog.info? 110).map (·.zero) = some (some .nilFunc) := by kernel_rfl
theorem ze_111 : (Try.prog.info? 111).map (·.zero) = some (some .nilFunc) := by kernel_rfl
theorem ze_112 : (Try.prog.info? 112).map (·.zero) = some (some .nilFunc) := by kernel_rfl
theorem ze_113 : (Try.prog.info? 113).map (·.zero) = some (some .nilFunc) := by kernel_rfl
theorem ze_114 : (Try.prog.info? 114).map (·.zero) = some (some .nilFunc) := by kernel_rfl
theorem ze_115 : (Try.prog.info? 115).map (·.zero) = some (some .nilFunc) := by kernel_rfl
theorem ze_116 : (Try.prog.info? 116).map (·.zero) = some (some .nilFunc) := by kernel_rfl
theorem ze_117 : (Try.prog.info? 117).map (·.zero) = some (some .nilFunc) := by kernel_rfl
theorem ze_118 : (Try.prog.info? 118).map (·.zero) = some (some (.pointer none)) := by kernel_rfl
theorem ze_119 : (Try.prog.info? 119).map (·.zero) = some (some (.slice none 0 0)) := by kernel_rfl
theorem ze_12 : (Try.prog.info? 12).map (·.zero) = some (some (.int .u64 0)) := by kernel_rfl
theorem ze_120 : (Try.prog.info? 120).map (·.zero) = some (some (.agg #[(.slice none 0 0)])) := by kernel_rfl
theorem ze_121 : (Try.prog.info? 121).map (·.zero) = some (some (.agg #[(.slice none 0 0)])) := by kernel_rfl
theorem ze_122 : (Try.prog.info? 122).map (·.zero) = some (some .nilFunc) := by kernel_rfl
theorem ze_123 : (Try.prog.info? 123).map (·.zero) = some (some .nilFunc) := by kernel_rfl
theorem ze_124 : (Try.prog.info? 124).map (·.zero) = some (some .nilFunc) := by kernel_rfl
theorem ze_125 : (Try.prog.info? 125).map (·.zero) = some (some (.pointer none)) := by kernel_rfl
theorem ze_126 : (Try.prog.info? 126).map (·.zero) = some (some (.agg #[(.string ⟨#[]⟩)])) := by kernel_rfl
theorem ze_127 : (Try.prog.info? 127).map (·.zero) = some (some (.agg #[(.string ⟨#[]⟩)])) := by kernel_rfl
theorem ze_128 : (Try.prog.info? 128).map (·.zero) = some (some .nilFunc) := by kernel_rfl
theorem ze_129 : (Try.prog.info? 129).map (·.zero) = some (some (.pointer none)) := by kernel_rfl
theorem ze_13 : (Try.prog.info? 13).map (·.zero) = some (some (.agg #[(.string ⟨#[]⟩), (.int .u64 0)])) := by kernel_rfl
theorem ze_130 : (Try.prog.info? 130).map (·.zero) = some (some .nilFunc) := by kernel_rfl
theorem ze_131 : (Try.prog.info? 131).map (·.zero) = some (some (.pointer none)) := by kernel_rfl
theorem ze_132 : (Try.prog.info? 132).map (·.zero) = some (some .nilFunc) := by kernel_rfl
theorem ze_133 : (Try.prog.info? 133).map (·.zero) = some (some (.pointer none)) := by kernel_rfl
theorem ze_134 : (Try.prog.info? 134).map (·.zero) = some (some .nilFunc) := by kernel_rfl
theorem ze_135 : (Try.prog.info? 135).map (·.zero) = some (some .nilFunc) := by kernel_rfl
theorem ze_136 : (Try.prog.info? 136).map (·.zero) = some (some .nilFunc) := by kernel_rfl
theorem ze_137 : (Try.prog.info? 137).map (·.zero) = some (some .nilFunc) := by kernel_rfl
theorem ze_138 : (Try.prog.info? 138).map (·.zero) = some (some .nilFunc) := by kernel_rfl
theorem ze_139 : (Try.prog.info? 139).map (·.zero) = some (some .nilFunc) := by kernel_rfl
theorem ze_14 : (Try.prog.info? 14).map (·.zero) = some (some (.agg #[(.string ⟨#[]⟩), (.int .u64 0)])) := by kernel_rfl
theorem ze_140 : (Try.prog.info? 140).map (·.zero) = some (some (.pointer none)) := by kernel_rfl
theorem ze_141 : (Try.prog.info? 141).map (·.zero) = some (some .nilFunc) := by kernel_rfl
theorem ze_142 : (Try.prog.info? 142).map (·.zero) = some (some .nilFunc) := by kernel_rfl
theorem ze_143 : (Try.prog.info? 143).map (·.zero) = some (some (.pointer none)) := by kernel_rfl
theorem ze_144 : (Try.prog.info? 144).map (·.zero) = some (some .nilFunc) := by kernel_rfl
theorem ze_147 : (Try.prog.info? 147).map (·.zero) = some (some .nilFunc) := by kernel_rfl
theorem ze_148 : (Try.prog.info? 148).map (·.zero) = some (some (.pointer none)) := by kernel_rfl
theorem ze_149 : (Try.prog.info? 149).map (·.zero) = some (some (.agg #[(.string ⟨#[]⟩)])) := by kernel_rfl
theorem ze_15 : (Try.prog.info? 15).map (·.zero) = some (some (.pointer none)) := by kernel_rfl
theorem ze_150 : (Try.prog.info? 150).map (·.zero) = some (some (.agg #[(.string ⟨#[]⟩)])) := by kernel_rfl
theorem ze_151 : (Try.prog.info? 151).map (·.zero) = some (some .nilFunc) := by kernel_rfl
theorem ze_152 : (Try.prog.info? 152).map (·.zero) = some (some .nilFunc) := by kernel_rfl
theorem ze_153 : (Try.prog.info? 153).map (·.zero) = some (some (.pointer none)) := by kernel_rfl
theorem ze_154 : (Try.prog.info? 154).map (·.zero) = some (some (.agg #[(.slice none 0 0)])) := by kernel_rfl
theorem ze_155 : (Try.prog.info? 155).map (·.zero) = some (some (.agg #[(.slice none 0 0)])) := by kernel_rfl
theorem ze_156 : (Try.prog.info? 156).map (·.zero) = some (some (.agg #[(.int .i64 0), (.int .i64 0), (.int .i64 0), (.int .i64 0)])) := by kernel_rfl
theorem ze_157 : (Try.prog.info? 157).map (·.zero) = some (some (.agg #[(.int .i64 0), (.int .i64 0), (.int .i64 0), (.int .i64 0), (.int .i64 0), (.int .i64 0), (.int .i64 0), (.int .i64 0)])) := by kernel_rfl
theorem ze_158 : (Try.prog.info? 158).map (·.zero) = some (some (.agg #[(.int .i64 0), (.int .i64 0), (.int .i64 0), (.int .i64 0), (.int .i64 0), (.int .i64 0), (.int .i64 0), (.int .i64 0), (.int .i64 0), (.int .i64 0), (.int .i64 0), (.int .i64 0), (.int .i64 0), (.int .i64 0), (.slice none 0 0), (.int .i64 0)])) := by kernel_rfl
theorem ze_159 : (Try.prog.info? 159).map (·.zero) = some (some (.agg #[(.int .i64 0), (.int .i64 0), (.int .i64 0), (.int .i64 0), (.int .i64 0), (.int .i64 0), (.int .i64 0), (.int .i64 0), (.int .i64 0), (.int .i64 0), (.int .i64 0), (.int .i64 0), (.int .i64 0), (.int .i64 0), (.slice none 0 0), (.int .i64 0)])) := by kernel_rfl
theorem ze_16 : (Try.prog.info? 16).map (·.zero) = some (some (.pointer none)) := by kernel_rfl
theorem ze_160 : (Try.prog.info? 160).map (·.zero) = some (some .nilFunc) := by kernel_rfl
theorem ze_161 : (Try.prog.info? 161).map (·.zero) = some (some (.agg #[(.slice none 0 0)])) := by kernel_rfl
theorem ze_162 : (Try.prog.info? 162).map (·.zero) = some (some (.agg #[(.slice none 0 0)])) := by kernel_rfl
theorem ze_163 : (Try.prog.info? 163).map (·.zero) = some (some (.pointer none)) := by kernel_rfl
theorem ze_164 : (Try.prog.info? 164).map (·.zero) = some (some (.agg #[(.slice none 0 0)])) := by kernel_rfl
theorem ze_165 : (Try.prog.info? 165).map (·.zero) = some (some .nilFunc) := by kernel_rfl
theorem ze_167 : (Try.prog.info? 167).map (·.zero) = some (some .nilFunc) := by kernel_rfl
theorem ze_168 : (Try.prog.info? 168).map (·.zero) = some (some .nilFunc) := by kernel_rfl
theorem ze_169 : (Try.prog.info? 169).map (·.zero) = some (some .nilFunc) := by kernel_rfl
theorem ze_17 : (Try.prog.info? 17).map (·.zero) = some (some (.pointer none)) := by kernel_rfl
theorem ze_170 : (Try.prog.info? 170).map (·.zero) = some (some .nilFunc) := by kernel_rfl
theorem ze_171 : (Try.prog.info? 171).map (·.zero) = some (some .nilFunc) := by kernel_rfl
theorem ze_172 : (Try.prog.info? 172).map (·.zero) = some (some (.pointer none)) := by kernel_rfl
theorem ze_173 : (Try.prog.info? 173).map (·.zero) = some (some .nilFunc) := by kernel_rfl
theorem ze_174 : (Try.prog.info? 174).map (·.zero) = some (some .nilFunc) := by kernel_rfl
theorem ze_175 : (Try.prog.info? 175).map (·.zero) = some (some .nilFunc) := by kernel_rfl
theorem ze_176 : (Try.prog.info? 176).map (·.zero) = some (some .nilFunc) := by kernel_rfl
theorem ze_177 : (Try.prog.info? 177).map (·.zero) = some (some .nilFunc) := by kernel_rfl
theorem ze_178 : (Try.prog.info? 178).map (·.zero) = some (some .nilFunc) := by kernel_rfl
theorem ze_179 : (Try.prog.info? 179).map (·.zero) = some (some .nilFunc) := by kernel_rfl
theorem ze_18 : (Try.prog.info? 18).map (·.zero) = some (some (.agg #[(.pointer none)])) := by kernel_rfl
theorem ze_180 : (Try.prog.info? 180).map (·.zero) = some (some .nilFunc) := by kernel_rfl
theorem ze_181 : (Try.prog.info? 181).map (·.zero) = some (some .nilFunc) := by kernel_rfl
theorem ze_182 : (Try.prog.info? 182).map (·.zero) = some (some .nilFunc) := by kernel_rfl
theorem ze_183 : (Try.prog.info? 183).map (·.zero) = some (some .nilFunc) := by kernel_rfl
theorem ze_184 : (Try.prog.info? 184).map (·.zero) = some (some .nilFunc) := by kernel_rfl
theorem ze_185 : (Try.prog.info? 185).map (·.zero) = some (some .nilFunc) := by kernel_rfl
theorem ze_186 : (Try.prog.info? 186).map (·.zero) = some (some .nilFunc) := by kernel_rfl
theorem ze_187 : (Try.prog.info? 187).map (·.zero) = some (some .nilFunc) := by kernel_rfl
theorem ze_188 : (Try.prog.info? 188).map (·.zero) = some (some .nilFunc) := by kernel_rfl
theorem ze_189 : (Try.prog.info? 189).map (·.zero) = some (some .nilFunc) := by kernel_rfl
theorem ze_19 : (Try.prog.info? 19).map (·.zero) = some (some (.agg #[(.pointer none)])) := by kernel_rfl
theorem ze_190 : (Try.prog.info? 190).map (·.zero) = some (some .nilFunc) := by kernel_rfl
theorem ze_191 : (Try.prog.info? 191).map (·.zero) = some (some .nilFunc) := by kernel_rfl
theorem ze_192 : (Try.prog.info? 192).map (·.zero) = some (some (.int .u64 0)) := by kernel_rfl
theorem ze_193 : (Try.prog.info? 193).map (·.zero) = some (some (.slice none 0 0)) := by kernel_rfl
theorem ze_194 : (Try.prog.info? 194).map (·.zero) = some (some .nilFunc) := by kernel_rfl
theorem ze_195 : (Try.prog.info? 195).map (·.zero) = some (some .nilFunc) := by kernel_rfl
theorem ze_196 : (Try.prog.info? 196).map (·.zero) = some (some .nilFunc) := by kernel_rfl
theorem ze_197 : (Try.prog.info? 197).map (·.zero) = some (some (.agg #[(.int .i64 0), (.int .i64 0), (.int .i64 0), (.int .i64 0), (.int .i64 0)])) := by kernel_rfl
theorem ze_198 : (Try.prog.info? 198).map (·.zero) = some (some (.agg #[(.int .i64 0), (.int .i64 0), (.int .i64 0), (.int .i64 0), (.int .i64 0)])) := by kernel_rfl
theorem ze_2 : (Try.prog.info? 2).map (·.zero) = some (some (.int .i64 0)) := by kernel_rfl
theorem ze_200 : (Try.prog.info? 200).map (·.zero) = some (some .nilFunc) := by kernel_rfl
theorem ze_202 : (Try.prog.info? 202).map (·.zero) = some (some .nilFunc) := by kernel_rfl
theorem ze_204 : (Try.prog.info? 204).map (·.zero) = some (some .nilFunc) := by kernel_rfl
theorem ze_206 : (Try.prog.info? 206).map (·.zero) = some (some .nilFunc) := by kernel_rfl
theorem ze_207 : (Try.prog.info? 207).map (·.zero) = some (some .nilFunc) := by kernel_rfl
theorem ze_209 : (Try.prog.info? 209).map (·.zero) = some (some .nilFunc) := by kernel_rfl
theorem ze_21 : (Try.prog.info? 21).map (·.zero) = some (some (.int .i32 0)) := by kernel_rfl
theorem ze_210 : (Try.prog.info? 210).map (·.zero) = some (some .nilFunc) := by kernel_rfl
theorem ze_211 : (Try.prog.info? 211).map (·.zero) = some (some .nilFunc) := by kernel_rfl
theorem ze_212 : (Try.prog.info? 212).map (·.zero) = some (some .nilFunc) := by kernel_rfl
theorem ze_213 : (Try.prog.info? 213).map (·.zero) = some (some .nilFunc) := by kernel_rfl
theorem ze_215 : (Try.prog.info? 215).map (·.zero) = some (some .nilFunc) := by kernel_rfl
theorem ze_216 : (Try.prog.info? 216).map (·.zero) = some (some .nilFunc) := by kernel_rfl
theorem ze_218 : (Try.prog.info? 218).map (·.zero) = some (some .nilFunc) := by kernel_rfl
theorem ze_219 : (Try.prog.info? 219).map (·.zero) = some (some .nilFunc) := by kernel_rfl
theorem ze_22 : (Try.prog.info? 22).map (·.zero) = some (some (.slice none 0 0)) := by kernel_rfl
theorem ze_220 : (Try.prog.info? 220).map (·.zero) = some (some (.pointer none)) := by kernel_rfl
theorem ze_221 : (Try.prog.info? 221).map (·.zero) = some (some (.agg #[(.int .i64 0), (.int .i64 0), (.int .i64 0), (.int .i64 0), (.int .i64 0), (.int .i64 0), (.int .i64 0), (.int .i64 0), (.int .i64 0), (.int .i64 0), (.int .i64 0), (.int .i64 0), (.int .i64 0), (.int .i64 0), (.slice none 0 0), (.int .i64 0), (.slice none 0 0), (.int .i64 0), (.int .i64 0), (.int .i64 0), (.int .i64 0), (.int .i64 0)])) := by kernel_rfl
theorem ze_222 : (Try.prog.info? 222).map (·.zero) = some (some (.agg #[(.int .i64 0), (.int .i64 0), (.int .i64 0), (.int .i64 0), (.int .i64 0), (.int .i64 0), (.int .i64 0), (.int .i64 0), (.int .i64 0), (.int .i64 0), (.int .i64 0), (.int .i64 0), (.int .i64 0), (.int .i64 0), (.slice none 0 0), (.int .i64 0), (.slice none 0 0), (.int .i64 0), (.int .i64 0), (.int .i64 0), (.int .i64 0), (.int .i64 0)])) := by kernel_rfl
theorem ze_223 : (Try.prog.info? 223).map (·.zero) = some (some .nilFunc) := by kernel_rfl
theorem ze_224 : (Try.prog.info? 224).map (·.zero) = some (some .nilFunc) := by kernel_rfl
theorem ze_225 : (Try.prog.info? 225).map (·.zero) = some (some (.int .u32 0)) := by kernel_rfl
theorem ze_227 : (Try.prog.info? 227).map (·.zero) = some (some .nilFunc) := by kernel_rfl
theorem ze_228 : (Try.prog.info? 228).map (·.zero) = some (some (.int .u64 0)) := by kernel_rfl
theorem ze_23 : (Try.prog.info? 23).map (·.zero) = some (some (.slice none 0 0)) := by kernel_rfl
theorem ze_230 : (Try.prog.info? 230).map (·.zero) = some (some .nilFunc) := by kernel_rfl
theorem ze_231 : (Try.prog.info? 231).map (·.zero) = some (some .nilFunc) := by kernel_rfl
theorem ze_232 : (Try.prog.info? 232).map (·.zero) = some (some (.agg #[(.string ⟨#[]⟩), (.string ⟨#[]⟩)])) := by kernel_rfl
theorem ze_233 : (Try.prog.info? 233).map (·.zero) = some (some (.agg #[(.string ⟨#[]⟩), (.string ⟨#[]⟩)])) := by kernel_rfl
theorem ze_235 : (Try.prog.info? 235).map (·.zero) = some (some .nilFunc) := by kernel_rfl
theorem ze_236 : (Try.prog.info? 236).map (·.zero) = some (some .nilFunc) := by kernel_rfl
theorem ze_237 : (Try.prog.info? 237).map (·.zero) = some (some .nilFunc) := by kernel_rfl
theorem ze_238 : (Try.prog.info? 238).map (·.zero) = some (some .nilFunc) := by kernel_rfl
theorem ze_239 : (Try.prog.info? 239).map (·.zero) = some (some .nilFunc) := by kernel_rfl
theorem ze_24 : (Try.prog.info? 24).map (·.zero) = some (some (.slice none 0 0)) := by kernel_rfl
theorem ze_240 : (Try.prog.info? 240).map (·.zero) = some (some .nilFunc) := by kernel_rfl
theorem ze_241 : (Try.prog.info? 241).map (·.zero) = some (some (.int .i64 0)) := by kernel_rfl
theorem ze_243 : (Try.prog.info? 243).map (·.zero) = some (some .nilFunc) := by kernel_rfl
theorem ze_244 : (Try.prog.info? 244).map (·.zero) = some (some .nilFunc) := by kernel_rfl
theorem ze_245 : (Try.prog.info? 245).map (·.zero) = some (some .nilFunc) := by kernel_rfl
theorem ze_246 : (Try.prog.info? 246).map (·.zero) = some (some .nilFunc) := by kernel_rfl
theorem ze_247 : (Try.prog.info? 247).map (·.zero) = some (some .nilFunc) := by kernel_rfl
theorem ze_248 : (Try.prog.info? 248).map (·.zero) = some (some .nilFunc) := by kernel_rfl
theorem ze_25 : (Try.prog.info? 25).map (·.zero) = some (some (.agg #[(.slice none 0 0), (.slice none 0 0), (.slice none 0 0)])) := by kernel_rfl
theorem ze_251 : (Try.prog.info? 251).map (·.zero) = some (some .nilFunc) := by kernel_rfl
theorem ze_252 : (Try.prog.info? 252).map (·.zero) = some (some (.agg #[(.string ⟨#[]⟩), (.string ⟨#[]⟩), (.string ⟨#[]⟩), (.string ⟨#[]⟩), (.string ⟨#[]⟩), (.string ⟨#[]⟩), (.string ⟨#[]⟩), (.string ⟨#[]⟩), (.string ⟨#[]⟩), (.string ⟨#[]⟩), (.string ⟨#[]⟩), (.string ⟨#[]⟩), (.string ⟨#[]⟩), (.string ⟨#[]⟩), (.string ⟨#[]⟩), (.string ⟨#[]⟩), (.string ⟨#[]⟩), (.string ⟨#[]⟩), (.string ⟨#[]⟩), (.string ⟨#[]⟩), (.string ⟨#[]⟩), (.string ⟨#[]⟩), (.string ⟨#[]⟩), (.string ⟨#[]⟩), (.string ⟨#[]⟩), (.string ⟨#[]⟩), (.string ⟨#[]⟩), (.string ⟨#[]⟩), (.string ⟨#[]⟩), (.string ⟨#[]⟩), (.string ⟨#[]⟩), (.string ⟨#[]⟩)])) := by kernel_rfl
theorem ze_253 : (Try.prog.info? 253).map (·.zero) = some (some .nilFunc) := by kernel_rfl
theorem ze_254 : (Try.prog.info? 254).map (·.zero) = some (some (.int .u64 0)) := by kernel_rfl
theorem ze_255 : (Try.prog.info? 255).map (·.zero) = some (some .nilFunc) := by kernel_rfl
theorem ze_256 : (Try.prog.info? 256).map (·.zero) = some (some .nilFunc) := by kernel_rfl
theorem ze_257 : (Try.prog.info? 257).map (·.zero) = some (some .nilFunc) := by kernel_rfl
theorem ze_258 : (Try.prog.info? 258).map (·.zero) = some (some .nilFunc) := by kernel_rfl
theorem ze_259 : (Try.prog.info? 259).map (·.zero) = some (some .nilFunc) := by kernel_rfl
theorem ze_26 : (Try.prog.info? 26).map (·.zero) = some (some (.agg #[(.slice none 0 0), (.slice none 0 0), (.slice none 0 0)])) := by kernel_rfl
theorem ze_260 : (Try.prog.info? 260).map (·.zero) = some (some (.pointer none)) := by kernel_rfl
theorem ze_262 : (Try.prog.info? 262).map (·.zero) = some (some .nilFunc) := by kernel_rfl
theorem ze_263 : (Try.prog.info? 263).map (·.zero) = some (some .nilFunc) := by kernel_rfl
theorem ze_264 : (Try.prog.info? 264).map (·.zero) = some (some (.agg #[(.pointer none), (.pointer none), (.pointer none), (.string ⟨#[]⟩)])) := by kernel_rfl
theorem ze_265 : (Try.prog.info? 265).map (·.zero) = some (some (.agg #[(.pointer none), (.pointer none), (.pointer none), (.string ⟨#[]⟩)])) := by kernel_rfl
theorem ze_269 : (Try.prog.info? 269).map (·.zero) = some (some (.int .u8 0)) := by kernel_rfl
theorem ze_27 : (Try.prog.info? 27).map (·.zero) = some (some (.slice none 0 0)) := by kernel_rfl
theorem ze_270 : (Try.prog.info? 270).map (·.zero) = some (some (.int .u8 0)) := by kernel_rfl
theorem ze_271 : (Try.prog.info? 271).map (·.zero) = some (some .nilFunc) := by kernel_rfl
theorem ze_272 : (Try.prog.info? 272).map (·.zero) = some (some (.pointer none)) := by kernel_rfl
theorem ze_273 : (Try.prog.info? 273).map (·.zero) = some (some (.int .i32 0)) := by kernel_rfl
theorem ze_274 : (Try.prog.info? 274).map (·.zero) = some (some (.int .i32 0)) := by kernel_rfl
theorem ze_275 : (Try.prog.info? 275).map (·.zero) = some (some (.agg #[(.int .u64 0), (.int .u64 0), (.int .u32 0), (.int .u8 0), (.int .u8 0), (.int .u8 0), (.int .u8 0), .nilFunc, (.pointer none), (.int .i32 0), (.int .i32 0)])) := by kernel_rfl
theorem ze_276 : (Try.prog.info? 276).map (·.zero) = some (some (.agg #[(.int .u64 0), (.int .u64 0), (.int .u32 0), (.int .u8 0), (.int .u8 0), (.int .u8 0), (.int .u8 0), .nilFunc, (.pointer none), (.int .i32 0), (.int .i32 0)])) := by kernel_rfl
theorem ze_28 : (Try.prog.info? 28).map (·.zero) = some (some (.int .i64 0)) := by kernel_rfl
theorem ze_3 : (Try.prog.info? 3).map (·.zero) = some (some (.int .i64 0)) := by kernel_rfl
theorem ze_30 : (Try.prog.info? 30).map (·.zero) = some (some .nilFunc) := by kernel_rfl
theorem ze_31 : (Try.prog.info? 31).map (·.zero) = some (some (.slice none 0 0)) := by kernel_rfl
theorem ze_33 : (Try.prog.info? 33).map (·.zero) = some (some .nilFunc) := by kernel_rfl
theorem ze_34 : (Try.prog.info? 34).map (·.zero) = some (some .nilFunc) := by kernel_rfl
theorem ze_35 : (Try.prog.info? 35).map (·.zero) = some (some .nilFunc) := by kernel_rfl
theorem ze_36 : (Try.prog.info? 36).map (·.zero) = some (some (.agg #[(.int .i64 0), (.int .i64 0)])) := by kernel_rfl
theorem ze_37 : (Try.prog.info? 37).map (·.zero) = some (some (.agg #[(.int .i64 0), (.int .i64 0)])) := by kernel_rfl
theorem ze_38 : (Try.prog.info? 38).map (·.zero) = some (some (.slice none 0 0)) := by kernel_rfl
theorem ze_39 : (Try.prog.info? 39).map (·.zero) = some (some .nilFunc) := by kernel_rfl
theorem ze_4 : (Try.prog.info? 4).map (·.zero) = some (some (.bool false)) := by kernel_rfl
theorem ze_40 : (Try.prog.info? 40).map (·.zero) = some (some .nilFunc) := by kernel_rfl
theorem ze_41 : (Try.prog.info? 41).map (·.zero) = some (some .nilFunc) := by kernel_rfl
theorem ze_42 : (Try.prog.info? 42).map (·.zero) = some (some (.slice none 0 0)) := by kernel_rfl
theorem ze_44 : (Try.prog.info? 44).map (·.zero) = some (some .nilFunc) := by kernel_rfl
theorem ze_45 : (Try.prog.info? 45).map (·.zero) = some (some .nilFunc) := by kernel_rfl
theorem ze_47 : (Try.prog.info? 47).map (·.zero) = some (some .nilFunc) := by kernel_rfl
theorem ze_48 : (Try.prog.info? 48).map (·.zero) = some (some .nilFunc) := by kernel_rfl
theorem ze_49 : (Try.prog.info? 49).map (·.zero) = some (some .nilFunc) := by kernel_rfl
theorem ze_5 : (Try.prog.info? 5).map (·.zero) = some (some (.int .u8 0)) := by kernel_rfl
theorem ze_50 : (Try.prog.info? 50).map (·.zero) = some (some .nilFunc) := by kernel_rfl
theorem ze_51 : (Try.prog.info? 51).map (·.zero) = some (some (.agg #[(.slice none 0 0)])) := by kernel_rfl
theorem ze_52 : (Try.prog.info? 52).map (·.zero) = some (some (.agg #[(.slice none 0 0)])) := by kernel_rfl
theorem ze_53 : (Try.prog.info? 53).map (·.zero) = some (some (.slice none 0 0)) := by kernel_rfl
theorem ze_54 : (Try.prog.info? 54).map (·.zero) = some (some (.agg #[(.slice none 0 0)])) := by kernel_rfl
theorem ze_55 : (Try.prog.info? 55).map (·.zero) = some (some (.agg #[(.slice none 0 0)])) := by kernel_rfl
theorem ze_57 : (Try.prog.info? 57).map (·.zero) = some (some .nilFunc) := by kernel_rfl
theorem ze_58 : (Try.prog.info? 58).map (·.zero) = some (some .nilFunc) := by kernel_rfl
theorem ze_6 : (Try.prog.info? 6).map (·.zero) = some (some (.int .u8 0)) := by kernel_rfl
theorem ze_60 : (Try.prog.info? 60).map (·.zero) = some (some .nilFunc) := by kernel_rfl
theorem ze_61 : (Try.prog.info? 61).map (·.zero) = some (some .nilFunc) := by kernel_rfl
theorem ze_62 : (Try.prog.info? 62).map (·.zero) = some (some .nilFunc) := by kernel_rfl
theorem ze_64 : (Try.prog.info? 64).map (·.zero) = some (some .nilFunc) := by kernel_rfl
theorem ze_65 : (Try.prog.info? 65).map (·.zero) = some (some .nilFunc) := by kernel_rfl
theorem ze_67 : (Try.prog.info? 67).map (·.zero) = some (some .nilFunc) := by kernel_rfl
theorem ze_68 : (Try.prog.info? 68).map (·.zero) = some (some .nilFunc) := by kernel_rfl
theorem ze_7 : (Try.prog.info? 7).map (·.zero) = some (some (.agg #[(.int .i64 0), (.int .i64 0), (.bool false), (.int .u8 0)])) := by kernel_rfl
theorem ze_70 : (Try.prog.info? 70).map (·.zero) = some (some .nilFunc) := by kernel_rfl
theorem ze_71 : (Try.prog.info? 71).map (·.zero) = some (some .nilFunc) := by kernel_rfl
theorem ze_73 : (Try.prog.info? 73).map (·.zero) = some (some .nilFunc) := by kernel_rfl
theorem ze_74 : (Try.prog.info? 74).map (·.zero) = some (some .nilFunc) := by kernel_rfl
theorem ze_75 : (Try.prog.info? 75).map (·.zero) = some (some (.slice none 0 0)) := by kernel_rfl
theorem ze_76 : (Try.prog.info? 76).map (·.zero) = some (some (.slice none 0 0)) := by kernel_rfl
theorem ze_77 : (Try.prog.info? 77).map (·.zero) = some (some (.agg #[(.int .i64 0), (.slice none 0 0), (.slice none 0 0)])) := by kernel_rfl
theorem ze_78 : (Try.prog.info? 78).map (·.zero) = some (some (.agg #[(.int .i64 0), (.slice none 0 0), (.slice none 0 0)])) := by kernel_rfl
theorem ze_8 : (Try.prog.info? 8).map (·.zero) = some (some (.agg #[(.int .i64 0), (.int .i64 0), (.bool false), (.int .u8 0)])) := by kernel_rfl
theorem ze_80 : (Try.prog.info? 80).map (·.zero) = some (some .nilFunc) := by kernel_rfl
theorem ze_82 : (Try.prog.info? 82).map (·.zero) = some (some .nilFunc) := by kernel_rfl
theorem ze_83 : (Try.prog.info? 83).map (·.zero) = some (some .nilFunc) := by kernel_rfl
theorem ze_84 : (Try.prog.info? 84).map (·.zero) = some (some .nilFunc) := by kernel_rfl
theorem ze_85 : (Try.prog.info? 85).map (·.zero) = some (some .nilFunc) := by kernel_rfl
theorem ze_87 : (Try.prog.info? 87).map (·.zero) = some (some .nilFunc) := by kernel_rfl
theorem ze_89 : (Try.prog.info? 89).map (·.zero) = some (some .nilFunc) := by kernel_rfl
theorem ze_9 : (Try.prog.info? 9).map (·.zero) = some (some (.string ⟨#[]⟩)) := by kernel_rfl
theorem ze_90 : (Try.prog.info? 90).map (·.zero) = some (some .nilFunc) := by kernel_rfl
theorem ze_91 : (Try.prog.info? 91).map (·.zero) = some (some (.slice none 0 0)) := by kernel_rfl
theorem ze_92 : (Try.prog.info? 92).map (·.zero) = some (some .nilFunc) := by kernel_rfl
theorem ze_93 : (Try.prog.info? 93).map (·.zero) = some (some .nilFunc) := by kernel_rfl
theorem ze_94 : (Try.prog.info? 94).map (·.zero) = some (some (.slice none 0 0)) := by kernel_rfl
theorem ze_95 : (Try.prog.info? 95).map (·.zero) = some (some (.agg #[(.slice none 0 0), (.slice none 0 0)])) := by kernel_rfl
theorem ze_96 : (Try.prog.info? 96).map (·.zero) = some (some (.agg #[(.slice none 0 0), (.slice none 0 0)])) := by kernel_rfl
theorem ze_97 : (Try.prog.info? 97).map (·.zero) = some (some .nilFunc) := by kernel_rfl
theorem ze_98 : (Try.prog.info? 98).map (·.zero) = some (some .nilFunc) := by kernel_rfl
theorem ze_99 : (Try.prog.info? 99).map (·.zero) = some (some (.agg #[(.int .i64 0), (.int .i64 0), (.int .i64 0)])) := by kernel_rfl
theorem eqt_100 (a0 a1 a2 b0 b1 b2 : Int) (x y : Operand) (w : World) : (do eqGuard .eql 100 x y (.agg #[.int .i64 a0, .int .i64 a1, .int .i64 a2]) (.agg #[.int .i64 b0, .int .i64 b1, .int .i64 b2]); binOp .eql 100 (.agg #[.int .i64 a0, .int .i64 a1, .int .i64 a2]) (.agg #[.int .i64 b0, .int .i64 b1, .int .i64 b2]) : Sem Value).run Try.prog w = .ok (.bool (decide ((a0 = b0 ∧ a1 = b1 ∧ a2 = b2)))) w := by
  have h := (eqS (P := Try.prog) (T := 100) (by kernel_rfl) (by kernel_rfl) (by kernel_rfl) (by kernel_rfl) [a0, a1, a2] [b0, b1, b2] (by kernel_rfl) (by kernel_rfl) x y w).1
  rwa [show (decide ([a0, a1, a2] = [b0, b1, b2])) = decide ((a0 = b0 ∧ a1 = b1 ∧ a2 = b2)) by simp] at h
theorem net_100 (a0 a1 a2 b0 b1 b2 : Int) (x y : Operand) (w : World) : (do eqGuard .neq 100 x y (.agg #[.int .i64 a0, .int .i64 a1, .int .i64 a2]) (.agg #[.int .i64 b0, .int .i64 b1, .int .i64 b2]); binOp .neq 100 (.agg #[.int .i64 a0, .int .i64 a1, .int .i64 a2]) (.agg #[.int .i64 b0, .int .i64 b1, .int .i64 b2]) : Sem Value).run Try.prog w = .ok (.bool (decide (¬ (a0 = b0 ∧ a1 = b1 ∧ a2 = b2)))) w := by
  have h := (eqS (P := Try.prog) (T := 100) (by kernel_rfl) (by kernel_rfl) (by kernel_rfl) (by kernel_rfl) [a0, a1, a2] [b0, b1, b2] (by kernel_rfl) (by kernel_rfl) x y w).2
  rwa [show (!(decide ([a0, a1, a2] = [b0, b1, b2]))) = decide (¬ (a0 = b0 ∧ a1 = b1 ∧ a2 = b2)) by simp] at h
theorem eqt_102 (a0 a1 b0 b1 : Int) (x y : Operand) (w : World) : (do eqGuard .eql 102 x y (.agg #[.int .i64 a0, .int .i64 a1]) (.agg #[.int .i64 b0, .int .i64 b1]); binOp .eql 102 (.agg #[.int .i64 a0, .int .i64 a1]) (.agg #[.int .i64 b0, .int .i64 b1]) : Sem Value).run Try.prog w = .ok (.bool (decide ((a0 = b0 ∧ a1 = b1)))) w := by
  have h := (eqS (P := Try.prog) (T := 102) (by kernel_rfl) (by kernel_rfl) (by kernel_rfl) (by kernel_rfl) [a0, a1] [b0, b1] (by kernel_rfl) (by kernel_rfl) x y w).1
  rwa [show (decide ([a0, a1] = [b0, b1])) = decide ((a0 = b0 ∧ a1 = b1)) by simp] at h
theorem net_102 (a0 a1 b0 b1 : Int) (x y : Operand) (w : World) : (do eqGuard .neq 102 x y (.agg #[.int .i64 a0, .int .i64 a1]) (.agg #[.int .i64 b0, .int .i64 b1]); binOp .neq 102 (.agg #[.int .i64 a0, .int .i64 a1]) (.agg #[.int .i64 b0, .int .i64 b1]) : Sem Value).run Try.prog w = .ok (.bool (decide (¬ (a0 = b0 ∧ a1 = b1)))) w := by
  have h := (eqS (P := Try.prog) (T := 102) (by kernel_rfl) (by kernel_rfl) (by kernel_rfl) (by kernel_rfl) [a0, a1] [b0, b1] (by kernel_rfl) (by kernel_rfl) x y w).2
  rwa [show (!(decide ([a0, a1] = [b0, b1]))) = decide (¬ (a0 = b0 ∧ a1 = b1)) by simp] at h
theorem eqt_104 (a0 a1 a2 a3 b0 b1 b2 b3 : Int) (x y : Operand) (w : World) : (do eqGuard .eql 104 x y (.agg #[.int .i64 a0, .int .i64 a1, .int .i64 a2, .int .i64 a3]) (.agg #[.int .i64 b0, .int .i64 b1, .int .i64 b2, .int .i64 b3]); binOp .eql 104 (.agg #[.int .i64 a0, .int .i64 a1, .int .i64 a2, .int .i64 a3]) (.agg #[.int .i64 b0, .int .i64 b1, .int .i64 b2, .int .i64 b3]) : Sem Value).run Try.prog w = .ok (.bool (decide ((a0 = b0 ∧ a1 = b1 ∧ a2 = b2 ∧ a3 = b3)))) w := by
  have h := (eqS (P := Try.prog) (T := 104) (by kernel_rfl) (by kernel_rfl) (by kernel_rfl) (by kernel_rfl) [a0, a1, a2, a3] [b0, b1, b2, b3] (by kernel_rfl) (by kernel_rfl) x y w).1
  rwa [show (decide ([a0, a1, a2, a3] = [b0, b1, b2, b3])) = decide ((a0 = b0 ∧ a1 = b1 ∧ a2 = b2 ∧ a3 = b3)) by simp] at h
theorem net_104 (a0 a1 a2 a3 b0 b1 b2 b3 : Int) (x y : Operand) (w : World) : (do eqGuard .neq 104 x y (.agg #[.int .i64 a0, .int .i64 a1, .int .i64 a2, .int .i64 a3]) (.agg #[.int .i64 b0, .int .i64 b1, .int .i64 b2, .int .i64 b3]); binOp .neq 104 (.agg #[.int .i64 a0, .int .i64 a1, .int .i64 a2, .int .i64 a3]) (.agg #[.int .i64 b0, .int .i64 b1, .int .i64 b2, .int .i64 b3]) : Sem Value).run Try.prog w = .ok (.bool (decide (¬ (a0 = b0 ∧ a1 = b1 ∧ a2 = b2 ∧ a3 = b3)))) w := by
  have h := (eqS (P := Try.prog) (T := 104) (by kernel_rfl) (by kernel_rfl) (by kernel_rfl) (by kernel_rfl) [a0, a1, a2, a3] [b0, b1, b2, b3] (by kernel_rfl) (by kernel_rfl) x y w).2
  rwa [show (!(decide ([a0, a1, a2, a3] = [b0, b1, b2, b3]))) = decide (¬ (a0 = b0 ∧ a1 = b1 ∧ a2 = b2 ∧ a3 = b3)) by simp] at h
theorem eqt_156 (a0 a1 a2 a3 b0 b1 b2 b3 : Int) (x y : Operand) (w : World) : (do eqGuard .eql 156 x y (.agg #[.int .i64 a0, .int .i64 a1, .int .i64 a2, .int .i64 a3]) (.agg #[.int .i64 b0, .int .i64 b1, .int .i64 b2, .int .i64 b3]); binOp .eql 156 (.agg #[.int .i64 a0, .int .i64 a1, .int .i64 a2, .int .i64 a3]) (.agg #[.int .i64 b0, .int .i64 b1, .int .i64 b2, .int .i64 b3]) : Sem Value).run Try.prog w = .ok (.bool (decide ((a0 = b0 ∧ a1 = b1 ∧ a2 = b2 ∧ a3 = b3)))) w := by
  have h := (eqA (P := Try.prog) (T := 156) Try.underlying156 (by kernel_rfl) sz_3 (by kernel_rfl) [a0, a1, a2, a3] [b0, b1, b2, b3] rfl rfl x y w).1
  rwa [show (decide ([a0, a1, a2, a3] = [b0, b1, b2, b3])) = decide ((a0 = b0 ∧ a1 = b1 ∧ a2 = b2 ∧ a3 = b3)) by simp] at h
theorem net_156 (a0 a1 a2 a3 b0 b1 b2 b3 : Int) (x y : Operand) (w : World) : (do eqGuard .neq 156 x y (.agg #[.int .i64 a0, .int .i64 a1, .int .i64 a2, .int .i64 a3]) (.agg #[.int .i64 b0, .int .i64 b1, .int .i64 b2, .int .i64 b3]); binOp .neq 156 (.agg #[.int .i64 a0, .int .i64 a1, .int .i64 a2, .int .i64 a3]) (.agg #[.int .i64 b0, .int .i64 b1, .int .i64 b2, .int .i64 b3]) : Sem Value).run Try.prog w = .ok (.bool (decide (¬ (a0 = b0 ∧ a1 = b1 ∧ a2 = b2 ∧ a3 = b3)))) w := by
  have h := (eqA (P := Try.prog) (T := 156) Try.underlying156 (by kernel_rfl) sz_3 (by kernel_rfl) [a0, a1, a2, a3] [b0, b1, b2, b3] rfl rfl x y w).2
  rwa [show (!(decide ([a0, a1, a2, a3] = [b0, b1, b2, b3]))) = decide (¬ (a0 = b0 ∧ a1 = b1 ∧ a2 = b2 ∧ a3 = b3)) by simp] at h
theorem eqt_157 (a0 a1 a2 a3 a4 a5 a6 a7 b0 b1 b2 b3 b4 b5 b6 b7 : Int) (x y : Operand) (w : World) : (do eqGuard .eql 157 x y (.agg #[.int .i64 a0, .int .i64 a1, .int .i64 a2, .int .i64 a3, .int .i64 a4, .int .i64 a5, .int .i64 a6, .int .i64 a7]) (.agg #[.int .i64 b0, .int .i64 b1, .int .i64 b2, .int .i64 b3, .int .i64 b4, .int .i64 b5, .int .i64 b6, .int .i64 b7]); binOp .eql 157 (.agg #[.int .i64 a0, .int .i64 a1, .int .i64 a2, .int .i64 a3, .int .i64 a4, .int .i64 a5, .int .i64 a6, .int .i64 a7]) (.agg #[.int .i64 b0, .int .i64 b1, .int .i64 b2, .int .i64 b3, .int .i64 b4, .int .i64 b5, .int .i64 b6, .int .i64 b7]) : Sem Value).run Try.prog w = .ok (.bool (decide ((a0 = b0 ∧ a1 = b1 ∧ a2 = b2 ∧ a3 = b3 ∧ a4 = b4 ∧ a5 = b5 ∧ a6 = b6 ∧ a7 = b7)))) w := by
  have h := (eqA (P := Try.prog) (T := 157) Try.underlying157 (by kernel_rfl) sz_3 (by kernel_rfl) [a0, a1, a2, a3, a4, a5, a6, a7] [b0, b1, b2, b3, b4, b5, b6, b7] rfl rfl x y w).1
  rwa [show (decide ([a0, a1, a2, a3, a4, a5, a6, a7] = [b0, b1, b2, b3, b4, b5, b6, b7])) = decide ((a0 = b0 ∧ a1 = b1 ∧ a2 = b2 ∧ a3 = b3 ∧ a4 = b4 ∧ a5 = b5 ∧ a6 = b6 ∧ a7 = b7)) by simp] at h
theorem net_157 (a0 a1 a2 a3 a4 a5 a6 a7 b0 b1 b2 b3 b4 b5 b6 b7 : Int) (x y : Operand) (w : World) : (do eqGuard .neq 157 x y (.agg #[.int .i64 a0, .int .i64 a1, .int .i64 a2, .int .i64 a3, .int .i64 a4, .int .i64 a5, .int .i64 a6, .int .i64 a7]) (.agg #[.int .i64 b0, .int .i64 b1, .int .i64 b2, .int .i64 b3, .int .i64 b4, .int .i64 b5, .int .i64 b6, .int .i64 b7]); binOp .neq 157 (.agg #[.int .i64 a0, .int .i64 a1, .int .i64 a2, .int .i64 a3, .int .i64 a4, .int .i64 a5, .int .i64 a6, .int .i64 a7]) (.agg #[.int .i64 b0, .int .i64 b1, .int .i64 b2, .int .i64 b3, .int .i64 b4, .int .i64 b5, .int .i64 b6, .int .i64 b7]) : Sem Value).run Try.prog w = .ok (.bool (decide (¬ (a0 = b0 ∧ a1 = b1 ∧ a2 = b2 ∧ a3 = b3 ∧ a4 = b4 ∧ a5 = b5 ∧ a6 = b6 ∧ a7 = b7)))) w := by
  have h := (eqA (P := Try.prog) (T := 157) Try.underlying157 (by kernel_rfl) sz_3 (by kernel_rfl) [a0, a1, a2, a3, a4, a5, a6, a7] [b0, b1, b2, b3, b4, b5, b6, b7] rfl rfl x y w).2
  rwa [show (!(decide ([a0, a1, a2, a3, a4, a5, a6, a7] = [b0, b1, b2, b3, b4, b5, b6, b7]))) = decide (¬ (a0 = b0 ∧ a1 = b1 ∧ a2 = b2 ∧ a3 = b3 ∧ a4 = b4 ∧ a5 = b5 ∧ a6 = b6 ∧ a7 = b7)) by simp] at h
theorem eqt_37 (a0 a1 b0 b1 : Int) (x y : Operand) (w : World) : (do eqGuard .eql 37 x y (.agg #[.int .i64 a0, .int .i64 a1]) (.agg #[.int .i64 b0, .int .i64 b1]); binOp .eql 37 (.agg #[.int .i64 a0, .int .i64 a1]) (.agg #[.int .i64 b0, .int .i64 b1]) : Sem Value).run Try.prog w = .ok (.bool (decide ((a0 = b0 ∧ a1 = b1)))) w := by
  have h := (eqS (P := Try.prog) (T := 37) (by kernel_rfl) (by kernel_rfl) (by kernel_rfl) (by kernel_rfl) [a0, a1] [b0, b1] (by kernel_rfl) (by kernel_rfl) x y w).1
  rwa [show (decide ([a0, a1] = [b0, b1])) = decide ((a0 = b0 ∧ a1 = b1)) by simp] at h
theorem net_37 (a0 a1 b0 b1 : Int) (x y : Operand) (w : World) : (do eqGuard .neq 37 x y (.agg #[.int .i64 a0, .int .i64 a1]) (.agg #[.int .i64 b0, .int .i64 b1]); binOp .neq 37 (.agg #[.int .i64 a0, .int .i64 a1]) (.agg #[.int .i64 b0, .int .i64 b1]) : Sem Value).run Try.prog w = .ok (.bool (decide (¬ (a0 = b0 ∧ a1 = b1)))) w := by
  have h := (eqS (P := Try.prog) (T := 37) (by kernel_rfl) (by kernel_rfl) (by kernel_rfl) (by kernel_rfl) [a0, a1] [b0, b1] (by kernel_rfl) (by kernel_rfl) x y w).2
  rwa [show (!(decide ([a0, a1] = [b0, b1]))) = decide (¬ (a0 = b0 ∧ a1 = b1)) by simp] at h
end Go.Proofs.Ytlkkdpoioedacaa
