/- Closed facts on the program's types and functions. -/
import Derived.Test.YtndcjmopebcdgaaGreatDoorProg
import Derived.Test.YtndcjmopebcdgaaGreatDoorEng
import Derived.Test.YtndcjmopebcdgaaGreatDoorEngK
set_option linter.unusedSimpArgs false
set_option linter.unusedVariables false
namespace Go.Proofs.YtndcjmopebcdgaaGreatDoor
open Go.RowKit
theorem en_10:Enters Tryz.prog 10:=enters_of Tryz.func10 Kr rfl
theorem en_100:Enters Tryz.prog 100:=enters_of Tryz.func100 Kr rfl
theorem en_101:Enters Tryz.prog 101:=enters_of Tryz.func101 Kr rfl
theorem en_102:Enters Tryz.prog 102:=enters_of Tryz.func102 Kr rfl
theorem en_103:Enters Tryz.prog 103:=enters_of Tryz.func103 Kr rfl
theorem en_104:Enters Tryz.prog 104:=enters_of Tryz.func104 Kr rfl
theorem en_105:Enters Tryz.prog 105:=enters_of Tryz.func105 Kr rfl
theorem en_106:Enters Tryz.prog 106:=enters_of Tryz.func106 Kr rfl
theorem en_107:Enters Tryz.prog 107:=enters_of Tryz.func107 Kr rfl
theorem en_11:Enters Tryz.prog 11:=enters_of Tryz.func11 Kr rfl
theorem en_12:Enters Tryz.prog 12:=enters_of Tryz.func12 Kr rfl
theorem en_123:Enters Tryz.prog 123:=enters_of Tryz.func123 Kr rfl
theorem en_126:Enters Tryz.prog 126:=enters_of Tryz.func126 Kr rfl
theorem en_127:Enters Tryz.prog 127:=enters_of Tryz.func127 Kr rfl
theorem en_128:Enters Tryz.prog 128:=enters_of Tryz.func128 Kr rfl
theorem en_129:Enters Tryz.prog 129:=enters_of Tryz.func129 Kr rfl
theorem en_13:Enters Tryz.prog 13:=enters_of Tryz.func13 Kr rfl
theorem en_131:Enters Tryz.prog 131:=enters_of Tryz.func131 Kr rfl
theorem en_132:Enters Tryz.prog 132:=enters_of Tryz.func132 Kr rfl
theorem en_133:Enters Tryz.prog 133:=enters_of Tryz.func133 Kr rfl
theorem en_134:Enters Tryz.prog 134:=enters_of Tryz.func134 Kr rfl
theorem en_135:Enters Tryz.prog 135:=enters_of Tryz.func135 Kr rfl
theorem en_136:Enters Tryz.prog 136:=enters_of Tryz.func136 Kr rfl
theorem en_14:Enters Tryz.prog 14:=enters_of Tryz.func14 Kr rfl
theorem en_15:Enters Tryz.prog 15:=enters_of Tryz.func15 Kr rfl
theorem en_16:Enters Tryz.prog 16:=enters_of Tryz.func16 Kr rfl
theorem en_161:Enters Tryz.prog 161:=enters_of Tryz.func161 Kr rfl
theorem en_162:Enters Tryz.prog 162:=enters_of Tryz.func162 Kr rfl
theorem en_163:Enters Tryz.prog 163:=enters_of Tryz.func163 Kr rfl
theorem en_164:Enters Tryz.prog 164:=enters_of Tryz.func164 Kr rfl
theorem en_168:Enters Tryz.prog 168:=enters_of Tryz.func168 Kr rfl
theorem en_169:Enters Tryz.prog 169:=enters_of Tryz.func169 Kr rfl
theorem en_17:Enters Tryz.prog 17:=enters_of Tryz.func17 Kr rfl
theorem en_170:Enters Tryz.prog 170:=enters_of Tryz.func170 Kr rfl
theorem en_171:Enters Tryz.prog 171:=enters_of Tryz.func171 Kr rfl
theorem en_18:Enters Tryz.prog 18:=enters_of Tryz.func18 Kr rfl
theorem en_187:Enters Tryz.prog 187:=enters_of Tryz.func187 Kr rfl
theorem en_19:Enters Tryz.prog 19:=enters_of Tryz.func19 Kr rfl
theorem en_20:Enters Tryz.prog 20:=enters_of Tryz.func20 Kr rfl
theorem en_27:Enters Tryz.prog 27:=enters_of Tryz.func27 Kr rfl
theorem en_28:Enters Tryz.prog 28:=enters_of Tryz.func28 Kr rfl
theorem en_29:Enters Tryz.prog 29:=enters_of Tryz.func29 Kr rfl
theorem en_30:Enters Tryz.prog 30:=enters_of Tryz.func30 Kr rfl
theorem en_31:Enters Tryz.prog 31:=enters_of Tryz.func31 Kr rfl
theorem en_36:Enters Tryz.prog 36:=enters_of Tryz.func36 Kr rfl
theorem en_37:Enters Tryz.prog 37:=enters_of Tryz.func37 Kr rfl
theorem en_38:Enters Tryz.prog 38:=enters_of Tryz.func38 Kr rfl
theorem en_39:Enters Tryz.prog 39:=enters_of Tryz.func39 Kr rfl
theorem en_40:Enters Tryz.prog 40:=enters_of Tryz.func40 Kr rfl
theorem en_41:Enters Tryz.prog 41:=enters_of Tryz.func41 Kr rfl
theorem en_42:Enters Tryz.prog 42:=enters_of Tryz.func42 Kr rfl
theorem en_43:Enters Tryz.prog 43:=enters_of Tryz.func43 Kr rfl
theorem en_44:Enters Tryz.prog 44:=enters_of Tryz.func44 Kr rfl
theorem en_45:Enters Tryz.prog 45:=enters_of Tryz.func45 Kr rfl
theorem en_46:Enters Tryz.prog 46:=enters_of Tryz.func46 Kr rfl
theorem en_47:Enters Tryz.prog 47:=enters_of Tryz.func47 Kr rfl
theorem en_48:Enters Tryz.prog 48:=enters_of Tryz.func48 Kr rfl
theorem en_49:Enters Tryz.prog 49:=enters_of Tryz.func49 Kr rfl
theorem en_5:Enters Tryz.prog 5:=enters_of Tryz.func5 Kr rfl
theorem en_50:Enters Tryz.prog 50:=enters_of Tryz.func50 Kr rfl
theorem en_51:Enters Tryz.prog 51:=enters_of Tryz.func51 Kr rfl
theorem en_52:Enters Tryz.prog 52:=enters_of Tryz.func52 Kr rfl
theorem en_53:Enters Tryz.prog 53:=enters_of Tryz.func53 Kr rfl
theorem en_54:Enters Tryz.prog 54:=enters_of Tryz.func54 Kr rfl
theorem en_55:Enters Tryz.prog 55:=enters_of Tryz.func55 Kr rfl
theorem en_56:Enters Tryz.prog 56:=enters_of Tryz.func56 Kr rfl
theorem en_57:Enters Tryz.prog 57:=enters_of Tryz.func57 Kr rfl
theorem en_58:Enters Tryz.prog 58:=enters_of Tryz.func58 Kr rfl
theorem en_59:Enters Tryz.prog 59:=enters_of Tryz.func59 Kr rfl
theorem en_60:Enters Tryz.prog 60:=enters_of Tryz.func60 Kr rfl
theorem en_61:Enters Tryz.prog 61:=enters_of Tryz.func61 Kr rfl
theorem en_62:Enters Tryz.prog 62:=enters_of Tryz.func62 Kr rfl
theorem en_63:Enters Tryz.prog 63:=enters_of Tryz.func63 Kr rfl
theorem en_64:Enters Tryz.prog 64:=enters_of Tryz.func64 Kr rfl
theorem en_65:Enters Tryz.prog 65:=enters_of Tryz.func65 Kr rfl
theorem en_66:Enters Tryz.prog 66:=enters_of Tryz.func66 Kr rfl
theorem en_7:Enters Tryz.prog 7:=enters_of Tryz.func7 Kr rfl
theorem en_78:Enters Tryz.prog 78:=enters_of Tryz.func78 Kr rfl
theorem en_79:Enters Tryz.prog 79:=enters_of Tryz.func79 Kr rfl
theorem en_80:Enters Tryz.prog 80:=enters_of Tryz.func80 Kr rfl
theorem en_81:Enters Tryz.prog 81:=enters_of Tryz.func81 Kr rfl
theorem en_82:Enters Tryz.prog 82:=enters_of Tryz.func82 Kr rfl
theorem en_83:Enters Tryz.prog 83:=enters_of Tryz.func83 Kr rfl
theorem en_84:Enters Tryz.prog 84:=enters_of Tryz.func84 Kr rfl
theorem en_85:Enters Tryz.prog 85:=enters_of Tryz.func85 Kr rfl
theorem en_86:Enters Tryz.prog 86:=enters_of Tryz.func86 Kr rfl
theorem en_87:Enters Tryz.prog 87:=enters_of Tryz.func87 Kr rfl
theorem en_88:Enters Tryz.prog 88:=enters_of Tryz.func88 Kr rfl
theorem en_89:Enters Tryz.prog 89:=enters_of Tryz.func89 Kr rfl
theorem en_9:Enters Tryz.prog 9:=enters_of Tryz.func9 Kr rfl
theorem en_90:Enters Tryz.prog 90:=enters_of Tryz.func90 Kr rfl
theorem en_91:Enters Tryz.prog 91:=enters_of Tryz.func91 Kr rfl
theorem en_92:Enters Tryz.prog 92:=enters_of Tryz.func92 Kr rfl
theorem en_93:Enters Tryz.prog 93:=enters_of Tryz.func93 Kr rfl
theorem en_94:Enters Tryz.prog 94:=enters_of Tryz.func94 Kr rfl
theorem en_95:Enters Tryz.prog 95:=enters_of Tryz.func95 Kr rfl
theorem en_96:Enters Tryz.prog 96:=enters_of Tryz.func96 Kr rfl
theorem en_97:Enters Tryz.prog 97:=enters_of Tryz.func97 Kr rfl
theorem en_98:Enters Tryz.prog 98:=enters_of Tryz.func98 Kr rfl
theorem en_99:Enters Tryz.prog 99:=enters_of Tryz.func99 Kr rfl
theorem fa_115_0:FieldAt Tryz.prog 115 0 0:=fieldAt_of Tryz.underlying115 rfl rfl (z:=1) Kr Dc
theorem fa_118_0:FieldAt Tryz.prog 118 0 0:=fieldAt_of Tryz.underlying118 rfl rfl (z:=1) Kr Dc
theorem fa_118_1:FieldAt Tryz.prog 118 1 1:=fieldAt_of Tryz.underlying118 rfl rfl (z:=1) Kr Dc
theorem fa_118_2:FieldAt Tryz.prog 118 2 2:=fieldAt_of Tryz.underlying118 rfl rfl (z:=1) Kr Dc
theorem fa_118_3:FieldAt Tryz.prog 118 3 3:=fieldAt_of Tryz.underlying118 rfl rfl (z:=1) Kr Dc
theorem fa_121_0:FieldAt Tryz.prog 121 0 0:=fieldAt_of Tryz.underlying121 rfl rfl (z:=1) Kr Dc
theorem fa_121_1:FieldAt Tryz.prog 121 1 1:=fieldAt_of Tryz.underlying121 rfl rfl (z:=1) Kr Dc
theorem fa_121_2:FieldAt Tryz.prog 121 2 2:=fieldAt_of Tryz.underlying121 rfl rfl (z:=1) Kr Dc
theorem fa_123_0:FieldAt Tryz.prog 123 0 0:=fieldAt_of Tryz.underlying123 rfl rfl (z:=1) Kr Dc
theorem fa_123_1:FieldAt Tryz.prog 123 1 1:=fieldAt_of Tryz.underlying123 rfl rfl (z:=1) Kr Dc
theorem fa_126_0:FieldAt Tryz.prog 126 0 0:=fieldAt_of Tryz.underlying126 rfl rfl (z:=1) Kr Dc
theorem fa_157_0:FieldAt Tryz.prog 157 0 0:=fieldAt_of Tryz.underlying157 rfl rfl (z:=1) Kr Dc
theorem fa_191_0:FieldAt Tryz.prog 191 0 0:=fieldAt_of Tryz.underlying191 rfl rfl (z:=1) Kr Dc
theorem fa_191_1:FieldAt Tryz.prog 191 1 1:=fieldAt_of Tryz.underlying191 rfl rfl (z:=1) Kr Dc
theorem fa_191_4:FieldAt Tryz.prog 191 4 4:=fieldAt_of Tryz.underlying191 rfl rfl (z:=1) Kr Dc
theorem fa_27_0:FieldAt Tryz.prog 27 0 0:=fieldAt_of Tryz.underlying27 rfl rfl (z:=1) Kr Dc
theorem fa_39_0:FieldAt Tryz.prog 39 0 0:=fieldAt_of Tryz.underlying39 rfl rfl (z:=1) Kr Dc
theorem fa_39_1:FieldAt Tryz.prog 39 1 1:=fieldAt_of Tryz.underlying39 rfl rfl (z:=1) Kr Dc
theorem fa_39_2:FieldAt Tryz.prog 39 2 2:=fieldAt_of Tryz.underlying39 rfl rfl (z:=1) Kr Dc
theorem fa_43_0:FieldAt Tryz.prog 43 0 0:=fieldAt_of Tryz.underlying43 rfl rfl (z:=1) Kr Dc
theorem fa_43_1:FieldAt Tryz.prog 43 1 1:=fieldAt_of Tryz.underlying43 rfl rfl (z:=1) Kr Dc
theorem fa_46_0:FieldAt Tryz.prog 46 0 0:=fieldAt_of Tryz.underlying46 rfl rfl (z:=1) Kr Dc
theorem fa_53_0:FieldAt Tryz.prog 53 0 0:=fieldAt_of Tryz.underlying53 rfl rfl (z:=1) Kr Dc
theorem fa_53_1:FieldAt Tryz.prog 53 1 1:=fieldAt_of Tryz.underlying53 rfl rfl (z:=1) Kr Dc
theorem fa_61_0:FieldAt Tryz.prog 61 0 0:=fieldAt_of Tryz.underlying61 rfl rfl (z:=1) Kr Dc
theorem fa_61_1:FieldAt Tryz.prog 61 1 1:=fieldAt_of Tryz.underlying61 rfl rfl (z:=1) Kr Dc
theorem fa_61_2:FieldAt Tryz.prog 61 2 2:=fieldAt_of Tryz.underlying61 rfl rfl (z:=1) Kr Dc
theorem fa_68_1:FieldAt Tryz.prog 68 1 1:=fieldAt_of Tryz.underlying68 rfl rfl (z:=1) Kr Dc
theorem fa_70_0:FieldAt Tryz.prog 70 0 0:=fieldAt_of Tryz.underlying70 rfl rfl (z:=2) Kr Dc
theorem fa_75_4:FieldAt Tryz.prog 75 4 14:=fieldAt_of Tryz.underlying75 rfl rfl (z:=1) Kr Dc
theorem fa_75_5:FieldAt Tryz.prog 75 5 15:=fieldAt_of Tryz.underlying75 rfl rfl (z:=1) Kr Dc
theorem inf_105:(Tryz.prog.info? 105).map (fun i=>(i.zero,i.size,i.bytes))=some (some (.slice none 0 0),1,24):=by kernel_rfl
theorem inf_118:(Tryz.prog.info? 118).map (fun i=>(i.zero,i.size,i.bytes))=some (some (.agg #[(.int .i64 0),(.int .i64 0),(.int .i64 0),(.int .i64 0)]),4,32):=by kernel_rfl
theorem inf_121:(Tryz.prog.info? 121).map (fun i=>(i.zero,i.size,i.bytes))=some (some (.agg #[(.int .i64 0),(.int .i64 0),(.int .i64 0)]),3,24):=by kernel_rfl
theorem inf_123:(Tryz.prog.info? 123).map (fun i=>(i.zero,i.size,i.bytes))=some (some (.agg #[(.int .i64 0),(.int .i64 0)]),2,16):=by kernel_rfl
theorem inf_195:(Tryz.prog.info? 195).map (fun i=>(i.zero,i.size,i.bytes))=some (some (.agg #[(.slice none 0 0)]),1,24):=by kernel_rfl
theorem inf_3:(Tryz.prog.info? 3).map (fun i=>(i.zero,i.size,i.bytes))=some (some (.int .i64 0),1,8):=by kernel_rfl
theorem inf_4:(Tryz.prog.info? 4).map (fun i=>(i.zero,i.size,i.bytes))=some (some (.bool false),1,1):=by kernel_rfl
theorem inf_41:(Tryz.prog.info? 41).map (fun i=>(i.zero,i.size,i.bytes))=some (some (.slice none 0 0),1,24):=by kernel_rfl
theorem inf_43:(Tryz.prog.info? 43).map (fun i=>(i.zero,i.size,i.bytes))=some (some (.agg #[(.slice none 0 0),(.slice none 0 0)]),2,48):=by kernel_rfl
theorem inf_5:(Tryz.prog.info? 5).map (fun i=>(i.zero,i.size,i.bytes))=some (some (.int .u8 0),1,1):=by kernel_rfl
theorem inf_53:(Tryz.prog.info? 53).map (fun i=>(i.zero,i.size,i.bytes))=some (some (.agg #[(.int .i64 0),(.int .i64 0)]),2,16):=by kernel_rfl
theorem inf_75:(Tryz.prog.info? 75).map (fun i=>(i.zero,i.size,i.bytes))=some (some (.agg #[(.int .i64 0),(.int .i64 0),(.int .i64 0),(.int .i64 0),(.int .i64 0),(.int .i64 0),(.int .i64 0),(.int .i64 0),(.int .i64 0),(.int .i64 0),(.int .i64 0),(.int .i64 0),(.int .i64 0),(.int .i64 0),(.slice none 0 0),(.int .i64 0)]),16,144):=by kernel_rfl
theorem mixed_ok:Tryz.prog.follows .mixedOrders=true:=by kernel_rfl
theorem sz_105:(Tryz.prog.info? 105).map (·.size)=some 1:=by kernel_rfl
theorem sz_118:(Tryz.prog.info? 118).map (·.size)=some 4:=by kernel_rfl
theorem sz_121:(Tryz.prog.info? 121).map (·.size)=some 3:=by kernel_rfl
theorem sz_123:(Tryz.prog.info? 123).map (·.size)=some 2:=by kernel_rfl
theorem sz_124:(Tryz.prog.info? 124).map (·.size)=some 1:=by kernel_rfl
theorem sz_132:(Tryz.prog.info? 132).map (·.size)=some 1:=by kernel_rfl
theorem sz_166:(Tryz.prog.info? 166).map (·.size)=some 1:=by kernel_rfl
theorem sz_169:(Tryz.prog.info? 169).map (·.size)=some 1:=by kernel_rfl
theorem sz_191:(Tryz.prog.info? 191).map (·.size)=some 5:=by kernel_rfl
theorem sz_195:(Tryz.prog.info? 195).map (·.size)=some 1:=by kernel_rfl
theorem sz_22:(Tryz.prog.info? 22).map (·.size)=some 1:=by kernel_rfl
theorem sz_25:(Tryz.prog.info? 25).map (·.size)=some 1:=by kernel_rfl
theorem sz_27:(Tryz.prog.info? 27).map (·.size)=some 1:=by kernel_rfl
theorem sz_3:(Tryz.prog.info? 3).map (·.size)=some 1:=by kernel_rfl
theorem sz_35:(Tryz.prog.info? 35).map (·.size)=some 1:=by kernel_rfl
theorem sz_36:(Tryz.prog.info? 36).map (·.size)=some 1:=by kernel_rfl
theorem sz_37:(Tryz.prog.info? 37).map (·.size)=some 1:=by kernel_rfl
theorem sz_39:(Tryz.prog.info? 39).map (·.size)=some 3:=by kernel_rfl
theorem sz_4:(Tryz.prog.info? 4).map (·.size)=some 1:=by kernel_rfl
theorem sz_40:(Tryz.prog.info? 40).map (·.size)=some 1:=by kernel_rfl
theorem sz_41:(Tryz.prog.info? 41).map (·.size)=some 1:=by kernel_rfl
theorem sz_43:(Tryz.prog.info? 43).map (·.size)=some 2:=by kernel_rfl
theorem sz_46:(Tryz.prog.info? 46).map (·.size)=some 1:=by kernel_rfl
theorem sz_53:(Tryz.prog.info? 53).map (·.size)=some 2:=by kernel_rfl
theorem sz_61:(Tryz.prog.info? 61).map (·.size)=some 3:=by kernel_rfl
theorem sz_66:(Tryz.prog.info? 66).map (·.size)=some 1:=by kernel_rfl
theorem sz_75:(Tryz.prog.info? 75).map (·.size)=some 16:=by kernel_rfl
theorem sz_9:(Tryz.prog.info? 9).map (·.size)=some 1:=by kernel_rfl
theorem ze_118:(Tryz.prog.info? 118).map (·.zero)=some (some (.agg #[(.int .i64 0),(.int .i64 0),(.int .i64 0),(.int .i64 0)])):=by kernel_rfl
theorem ze_121:(Tryz.prog.info? 121).map (·.zero)=some (some (.agg #[(.int .i64 0),(.int .i64 0),(.int .i64 0)])):=by kernel_rfl
theorem ze_123:(Tryz.prog.info? 123).map (·.zero)=some (some (.agg #[(.int .i64 0),(.int .i64 0)])):=by kernel_rfl
theorem ze_124:(Tryz.prog.info? 124).map (·.zero)=some (some (.pointer none)):=by kernel_rfl
theorem ze_166:(Tryz.prog.info? 166).map (·.zero)=some (some .nilFunc):=by kernel_rfl
theorem ze_169:(Tryz.prog.info? 169).map (·.zero)=some (some (.slice none 0 0)):=by kernel_rfl
theorem ze_191:(Tryz.prog.info? 191).map (·.zero)=some (some (.agg #[(.int .i64 0),(.int .i64 0),(.int .i64 0),(.int .i64 0),(.int .i64 0)])):=by kernel_rfl
theorem ze_22:(Tryz.prog.info? 22).map (·.zero)=some (some (.int .i64 0)):=by kernel_rfl
theorem ze_27:(Tryz.prog.info? 27).map (·.zero)=some (some (.agg #[(.slice none 0 0)])):=by kernel_rfl
theorem ze_3:(Tryz.prog.info? 3).map (·.zero)=some (some (.int .i64 0)):=by kernel_rfl
theorem ze_39:(Tryz.prog.info? 39).map (·.zero)=some (some (.agg #[(.slice none 0 0),(.slice none 0 0),(.slice none 0 0)])):=by kernel_rfl
theorem ze_43:(Tryz.prog.info? 43).map (·.zero)=some (some (.agg #[(.slice none 0 0),(.slice none 0 0)])):=by kernel_rfl
theorem ze_46:(Tryz.prog.info? 46).map (·.zero)=some (some (.agg #[(.slice none 0 0)])):=by kernel_rfl
theorem ze_53:(Tryz.prog.info? 53).map (·.zero)=some (some (.agg #[(.int .i64 0),(.int .i64 0)])):=by kernel_rfl
theorem ze_61:(Tryz.prog.info? 61).map (·.zero)=some (some (.agg #[(.int .i64 0),(.slice none 0 0),(.slice none 0 0)])):=by kernel_rfl
theorem ze_75:(Tryz.prog.info? 75).map (·.zero)=some (some (.agg #[(.int .i64 0),(.int .i64 0),(.int .i64 0),(.int .i64 0),(.int .i64 0),(.int .i64 0),(.int .i64 0),(.int .i64 0),(.int .i64 0),(.int .i64 0),(.int .i64 0),(.int .i64 0),(.int .i64 0),(.int .i64 0),(.slice none 0 0),(.int .i64 0)])):=by kernel_rfl
theorem eqt_53(a0 a1 b0 b1:Int)(x y:Operand)(w:World):(do eqGuard .eql 53 x y (.agg #[.int .i64 a0,.int .i64 a1]) (.agg #[.int .i64 b0,.int .i64 b1]);binOp .eql 53 (.agg #[.int .i64 a0,.int .i64 a1]) (.agg #[.int .i64 b0,.int .i64 b1]):Sem Value).run Tryz.prog w=.ok (.bool (decide ((a0=b0∧a1=b1)))) w:=by
 have h:=(eqS (P:=Tryz.prog) (T:=53) Kr Kr Kr Kr [a0,a1] [b0,b1] Kr Kr x y w).1
 rwa [show(decide ([a0,a1]=[b0,b1]))=decide ((a0=b0∧a1=b1)) by simp] at h
theorem net_53(a0 a1 b0 b1:Int)(x y:Operand)(w:World):(do eqGuard .neq 53 x y (.agg #[.int .i64 a0,.int .i64 a1]) (.agg #[.int .i64 b0,.int .i64 b1]);binOp .neq 53 (.agg #[.int .i64 a0,.int .i64 a1]) (.agg #[.int .i64 b0,.int .i64 b1]):Sem Value).run Tryz.prog w=.ok (.bool (decide (¬(a0=b0∧a1=b1)))) w:=by
 have h:=(eqS (P:=Tryz.prog) (T:=53) Kr Kr Kr Kr [a0,a1] [b0,b1] Kr Kr x y w).2
 rwa [show(!(decide ([a0,a1]=[b0,b1])))=decide (¬(a0=b0∧a1=b1)) by simp] at h
def FT:List (Nat×Nat×Nat)×List Nat:=([(27,0,0),(39,0,0),(39,1,1),(39,2,2),(43,0,0),(43,1,1),(46,0,0),(53,0,0),(53,1,1),(61,0,0),(61,1,1),(61,2,2),(68,1,1),(70,0,0),(75,4,14),(75,5,15),(115,0,0),(118,0,0),(118,1,1),(118,2,2),(118,3,3),(121,0,0),(121,1,1),(121,2,2),(123,0,0),(123,1,1),(126,0,0),(157,0,0),(191,0,0),(191,1,1),(191,4,4)],[25,35,36,37,40,41,44,58,59,66,86,99,105,169,186])
theorem ftok:FSok Tryz.prog FT:=⟨⟨fa_27_0,fa_39_0,fa_39_1,fa_39_2,fa_43_0,fa_43_1,fa_46_0,fa_53_0,fa_53_1,fa_61_0,fa_61_1,fa_61_2,fa_68_1,fa_70_0,fa_75_4,fa_75_5,fa_115_0,fa_118_0,fa_118_1,fa_118_2,fa_118_3,fa_121_0,fa_121_1,fa_121_2,fa_123_0,fa_123_1,fa_126_0,fa_157_0,fa_191_0,fa_191_1,fa_191_4,trivial⟩,⟨⟨_,Tryz.underlying25⟩,⟨_,Tryz.underlying35⟩,⟨_,Tryz.underlying36⟩,⟨_,Tryz.underlying37⟩,⟨_,Tryz.underlying40⟩,⟨_,Tryz.underlying41⟩,⟨_,Tryz.underlying44⟩,⟨_,Tryz.underlying58⟩,⟨_,Tryz.underlying59⟩,⟨_,Tryz.underlying66⟩,⟨_,Tryz.underlying86⟩,⟨_,Tryz.underlying99⟩,⟨_,Tryz.underlying105⟩,⟨_,Tryz.underlying169⟩,⟨_,Tryz.underlying186⟩,trivial⟩⟩
theorem pq{w:World}{a:Act}{ds:List Deferred}{N:Nat}{Q:Exit→Act→World→Prop}{l:List Oper}(n:Nat){env env':List (Nat×Value)}{ops rest:List Oper}(hF:Fr ds N env a)(h:qr FT l N n env ops=some (env',rest))(k:∀a,Fr ds N env' a→wpList Tryz.prog l.toArray Q rest a w):wpList Tryz.prog l.toArray Q ops a w:=pqG ftok n hF h k
theorem dq{w w0:World}{X:Nat→Prop}{a:Act}{ds:List Deferred}{N:Nat}{Q:Exit→Act→World→Prop}{l:List Oper}{esS:List Asn}(n:Nat)(is:List Nat){fuel:Nat}{listed:Array Bool}{env env':List (Nat×Value)}(hF:Fr ds N env a)(hS:Wd w0 X esS w)(h:qd FT l N is env=some env')(k:∀a,Fr ds N env' a→wpAnyH Tryz.prog .any l.toArray Q (Wd w0 X esS) fuel (marks listed is) a w)(hn:is.length=n:=by rfl)(hs:Region.noSelect l.toArray=true:=by kernel_rfl)(hc:chkd l.toArray listed is=true:=by kernel_rfl)(hQ:∀(d:Nat) v c a w,Q (.panic c) (a.put (some d) v) w→Q (.panic c) a w:=by exact fun _ _ _ _ _ h=>h):wpAnyH Tryz.prog .any l.toArray Q (Wd w0 X esS) (fuel+n) listed a w:=hn▸dqG ftok hs hQ is hF hS h hc k
end Go.Proofs.YtndcjmopebcdgaaGreatDoor
