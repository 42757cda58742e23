/- Closed facts on the program's types and functions. -/
import Derived.Test.YtndcjmopebcdgaaGreatProg
import Derived.Test.YtndcjmopebcdgaaGreatEng
set_option linter.unusedSimpArgs false
set_option linter.unusedVariables false
namespace Go.Proofs.YtndcjmopebcdgaaGreat
open Go.RowKit
theorem en_10:Enters Tryz.prog 10:=enters_of Tryz.func10 Kr rfl
theorem en_101:Enters Tryz.prog 101:=enters_of Tryz.func101 Kr rfl
theorem en_102:Enters Tryz.prog 102:=enters_of Tryz.func102 Kr rfl
theorem en_103:Enters Tryz.prog 103:=enters_of Tryz.func103 Kr rfl
theorem en_104:Enters Tryz.prog 104:=enters_of Tryz.func104 Kr rfl
theorem en_108:Enters Tryz.prog 108:=enters_of Tryz.func108 Kr rfl
theorem en_109:Enters Tryz.prog 109:=enters_of Tryz.func109 Kr rfl
theorem en_11:Enters Tryz.prog 11:=enters_of Tryz.func11 Kr rfl
theorem en_110:Enters Tryz.prog 110:=enters_of Tryz.func110 Kr rfl
theorem en_113:Enters Tryz.prog 113:=enters_of Tryz.func113 Kr rfl
theorem en_12:Enters Tryz.prog 12:=enters_of Tryz.func12 Kr rfl
theorem en_13:Enters Tryz.prog 13:=enters_of Tryz.func13 Kr rfl
theorem en_14:Enters Tryz.prog 14:=enters_of Tryz.func14 Kr rfl
theorem en_15:Enters Tryz.prog 15:=enters_of Tryz.func15 Kr rfl
theorem en_16:Enters Tryz.prog 16:=enters_of Tryz.func16 Kr rfl
theorem en_17:Enters Tryz.prog 17:=enters_of Tryz.func17 Kr rfl
theorem en_18:Enters Tryz.prog 18:=enters_of Tryz.func18 Kr rfl
theorem en_19:Enters Tryz.prog 19:=enters_of Tryz.func19 Kr rfl
theorem en_20:Enters Tryz.prog 20:=enters_of Tryz.func20 Kr rfl
theorem en_21:Enters Tryz.prog 21:=enters_of Tryz.func21 Kr rfl
theorem en_22:Enters Tryz.prog 22:=enters_of Tryz.func22 Kr rfl
theorem en_23:Enters Tryz.prog 23:=enters_of Tryz.func23 Kr rfl
theorem en_24:Enters Tryz.prog 24:=enters_of Tryz.func24 Kr rfl
theorem en_25:Enters Tryz.prog 25:=enters_of Tryz.func25 Kr rfl
theorem en_26:Enters Tryz.prog 26:=enters_of Tryz.func26 Kr rfl
theorem en_27:Enters Tryz.prog 27:=enters_of Tryz.func27 Kr rfl
theorem en_28:Enters Tryz.prog 28:=enters_of Tryz.func28 Kr rfl
theorem en_29:Enters Tryz.prog 29:=enters_of Tryz.func29 Kr rfl
theorem en_30:Enters Tryz.prog 30:=enters_of Tryz.func30 Kr rfl
theorem en_31:Enters Tryz.prog 31:=enters_of Tryz.func31 Kr rfl
theorem en_32:Enters Tryz.prog 32:=enters_of Tryz.func32 Kr rfl
theorem en_33:Enters Tryz.prog 33:=enters_of Tryz.func33 Kr rfl
theorem en_34:Enters Tryz.prog 34:=enters_of Tryz.func34 Kr rfl
theorem en_35:Enters Tryz.prog 35:=enters_of Tryz.func35 Kr rfl
theorem en_36:Enters Tryz.prog 36:=enters_of Tryz.func36 Kr rfl
theorem en_37:Enters Tryz.prog 37:=enters_of Tryz.func37 Kr rfl
theorem en_38:Enters Tryz.prog 38:=enters_of Tryz.func38 Kr rfl
theorem en_39:Enters Tryz.prog 39:=enters_of Tryz.func39 Kr rfl
theorem en_4:Enters Tryz.prog 4:=enters_of Tryz.func4 Kr rfl
theorem en_40:Enters Tryz.prog 40:=enters_of Tryz.func40 Kr rfl
theorem en_41:Enters Tryz.prog 41:=enters_of Tryz.func41 Kr rfl
theorem en_42:Enters Tryz.prog 42:=enters_of Tryz.func42 Kr rfl
theorem en_43:Enters Tryz.prog 43:=enters_of Tryz.func43 Kr rfl
theorem en_44:Enters Tryz.prog 44:=enters_of Tryz.func44 Kr rfl
theorem en_45:Enters Tryz.prog 45:=enters_of Tryz.func45 Kr rfl
theorem en_46:Enters Tryz.prog 46:=enters_of Tryz.func46 Kr rfl
theorem en_47:Enters Tryz.prog 47:=enters_of Tryz.func47 Kr rfl
theorem en_48:Enters Tryz.prog 48:=enters_of Tryz.func48 Kr rfl
theorem en_49:Enters Tryz.prog 49:=enters_of Tryz.func49 Kr rfl
theorem en_5:Enters Tryz.prog 5:=enters_of Tryz.func5 Kr rfl
theorem en_50:Enters Tryz.prog 50:=enters_of Tryz.func50 Kr rfl
theorem en_51:Enters Tryz.prog 51:=enters_of Tryz.func51 Kr rfl
theorem en_52:Enters Tryz.prog 52:=enters_of Tryz.func52 Kr rfl
theorem en_53:Enters Tryz.prog 53:=enters_of Tryz.func53 Kr rfl
theorem en_54:Enters Tryz.prog 54:=enters_of Tryz.func54 Kr rfl
theorem en_55:Enters Tryz.prog 55:=enters_of Tryz.func55 Kr rfl
theorem en_56:Enters Tryz.prog 56:=enters_of Tryz.func56 Kr rfl
theorem en_57:Enters Tryz.prog 57:=enters_of Tryz.func57 Kr rfl
theorem en_58:Enters Tryz.prog 58:=enters_of Tryz.func58 Kr rfl
theorem en_59:Enters Tryz.prog 59:=enters_of Tryz.func59 Kr rfl
theorem en_6:Enters Tryz.prog 6:=enters_of Tryz.func6 Kr rfl
theorem en_60:Enters Tryz.prog 60:=enters_of Tryz.func60 Kr rfl
theorem en_61:Enters Tryz.prog 61:=enters_of Tryz.func61 Kr rfl
theorem en_62:Enters Tryz.prog 62:=enters_of Tryz.func62 Kr rfl
theorem en_63:Enters Tryz.prog 63:=enters_of Tryz.func63 Kr rfl
theorem en_64:Enters Tryz.prog 64:=enters_of Tryz.func64 Kr rfl
theorem en_66:Enters Tryz.prog 66:=enters_of Tryz.func66 Kr rfl
theorem en_67:Enters Tryz.prog 67:=enters_of Tryz.func67 Kr rfl
theorem en_68:Enters Tryz.prog 68:=enters_of Tryz.func68 Kr rfl
theorem en_69:Enters Tryz.prog 69:=enters_of Tryz.func69 Kr rfl
theorem en_7:Enters Tryz.prog 7:=enters_of Tryz.func7 Kr rfl
theorem en_70:Enters Tryz.prog 70:=enters_of Tryz.func70 Kr rfl
theorem en_71:Enters Tryz.prog 71:=enters_of Tryz.func71 Kr rfl
theorem en_72:Enters Tryz.prog 72:=enters_of Tryz.func72 Kr rfl
theorem en_73:Enters Tryz.prog 73:=enters_of Tryz.func73 Kr rfl
theorem en_74:Enters Tryz.prog 74:=enters_of Tryz.func74 Kr rfl
theorem en_75:Enters Tryz.prog 75:=enters_of Tryz.func75 Kr rfl
theorem en_76:Enters Tryz.prog 76:=enters_of Tryz.func76 Kr rfl
theorem en_77:Enters Tryz.prog 77:=enters_of Tryz.func77 Kr rfl
theorem en_78:Enters Tryz.prog 78:=enters_of Tryz.func78 Kr rfl
theorem en_79:Enters Tryz.prog 79:=enters_of Tryz.func79 Kr rfl
theorem en_8:Enters Tryz.prog 8:=enters_of Tryz.func8 Kr rfl
theorem en_81:Enters Tryz.prog 81:=enters_of Tryz.func81 Kr rfl
theorem en_82:Enters Tryz.prog 82:=enters_of Tryz.func82 Kr rfl
theorem en_86:Enters Tryz.prog 86:=enters_of Tryz.func86 Kr rfl
theorem en_87:Enters Tryz.prog 87:=enters_of Tryz.func87 Kr rfl
theorem en_88:Enters Tryz.prog 88:=enters_of Tryz.func88 Kr rfl
theorem en_89:Enters Tryz.prog 89:=enters_of Tryz.func89 Kr rfl
theorem en_9:Enters Tryz.prog 9:=enters_of Tryz.func9 Kr rfl
theorem en_92:Enters Tryz.prog 92:=enters_of Tryz.func92 Kr rfl
theorem en_94:Enters Tryz.prog 94:=enters_of Tryz.func94 Kr rfl
theorem en_95:Enters Tryz.prog 95:=enters_of Tryz.func95 Kr rfl
theorem en_96:Enters Tryz.prog 96:=enters_of Tryz.func96 Kr rfl
theorem en_97:Enters Tryz.prog 97:=enters_of Tryz.func97 Kr rfl
theorem en_98:Enters Tryz.prog 98:=enters_of Tryz.func98 Kr rfl
theorem fa_26_0:FieldAt Tryz.prog 26 0 0:=fieldAt_of Tryz.underlying26 rfl rfl (z:=1) Kr Dc
theorem fa_26_1:FieldAt Tryz.prog 26 1 1:=fieldAt_of Tryz.underlying26 rfl rfl (z:=1) Kr Dc
theorem fa_26_2:FieldAt Tryz.prog 26 2 2:=fieldAt_of Tryz.underlying26 rfl rfl (z:=1) Kr Dc
theorem fa_30_0:FieldAt Tryz.prog 30 0 0:=fieldAt_of Tryz.underlying30 rfl rfl (z:=1) Kr Dc
theorem fa_30_1:FieldAt Tryz.prog 30 1 1:=fieldAt_of Tryz.underlying30 rfl rfl (z:=1) Kr Dc
theorem fa_30_2:FieldAt Tryz.prog 30 2 2:=fieldAt_of Tryz.underlying30 rfl rfl (z:=1) Kr Dc
theorem fa_42_0:FieldAt Tryz.prog 42 0 0:=fieldAt_of Tryz.underlying42 rfl rfl (z:=1) Kr Dc
theorem fa_42_1:FieldAt Tryz.prog 42 1 1:=fieldAt_of Tryz.underlying42 rfl rfl (z:=4) Kr Dc
theorem fa_42_2:FieldAt Tryz.prog 42 2 5:=fieldAt_of Tryz.underlying42 rfl rfl (z:=8) Kr Dc
theorem fa_42_3:FieldAt Tryz.prog 42 3 13:=fieldAt_of Tryz.underlying42 rfl rfl (z:=1) Kr Dc
theorem fa_42_4:FieldAt Tryz.prog 42 4 14:=fieldAt_of Tryz.underlying42 rfl rfl (z:=1) Kr Dc
theorem fa_42_5:FieldAt Tryz.prog 42 5 15:=fieldAt_of Tryz.underlying42 rfl rfl (z:=1) Kr Dc
theorem fa_44_0:FieldAt Tryz.prog 44 0 0:=fieldAt_of Tryz.underlying44 rfl rfl (z:=1) Kr Dc
theorem fa_49_0:FieldAt Tryz.prog 49 0 0:=fieldAt_of Tryz.underlying49 rfl rfl (z:=1) Kr Dc
theorem fa_49_1:FieldAt Tryz.prog 49 1 1:=fieldAt_of Tryz.underlying49 rfl rfl (z:=1) Kr Dc
theorem fa_51_0:FieldAt Tryz.prog 51 0 0:=fieldAt_of Tryz.underlying51 rfl rfl (z:=1) Kr Dc
theorem fa_51_1:FieldAt Tryz.prog 51 1 1:=fieldAt_of Tryz.underlying51 rfl rfl (z:=1) Kr Dc
theorem fa_51_2:FieldAt Tryz.prog 51 2 2:=fieldAt_of Tryz.underlying51 rfl rfl (z:=1) Kr Dc
theorem fa_51_3:FieldAt Tryz.prog 51 3 3:=fieldAt_of Tryz.underlying51 rfl rfl (z:=1) Kr Dc
theorem fa_53_0:FieldAt Tryz.prog 53 0 0:=fieldAt_of Tryz.underlying53 rfl rfl (z:=16) Kr Dc
theorem fa_53_1:FieldAt Tryz.prog 53 1 16:=fieldAt_of Tryz.underlying53 rfl rfl (z:=1) Kr Dc
theorem fa_67_0:FieldAt Tryz.prog 67 0 0:=fieldAt_of Tryz.underlying67 rfl rfl (z:=1) Kr Dc
theorem fa_67_1:FieldAt Tryz.prog 67 1 1:=fieldAt_of Tryz.underlying67 rfl rfl (z:=1) Kr Dc
theorem fa_67_2:FieldAt Tryz.prog 67 2 2:=fieldAt_of Tryz.underlying67 rfl rfl (z:=1) Kr Dc
theorem fa_85_0:FieldAt Tryz.prog 85 0 0:=fieldAt_of Tryz.underlying85 rfl rfl (z:=1) Kr Dc
theorem fa_85_1:FieldAt Tryz.prog 85 1 1:=fieldAt_of Tryz.underlying85 rfl rfl (z:=1) Kr Dc
theorem fa_90_0:FieldAt Tryz.prog 90 0 0:=fieldAt_of Tryz.underlying90 rfl rfl (z:=1) Kr Dc
theorem fa_90_1:FieldAt Tryz.prog 90 1 1:=fieldAt_of Tryz.underlying90 rfl rfl (z:=1) Kr Dc
theorem fa_90_2:FieldAt Tryz.prog 90 2 2:=fieldAt_of Tryz.underlying90 rfl rfl (z:=1) Kr Dc
theorem fa_90_3:FieldAt Tryz.prog 90 3 3:=fieldAt_of Tryz.underlying90 rfl rfl (z:=1) Kr Dc
theorem fa_90_4:FieldAt Tryz.prog 90 4 4:=fieldAt_of Tryz.underlying90 rfl rfl (z:=1) Kr Dc
theorem inf_3:(Tryz.prog.info? 3).map (fun i=>(i.zero,i.size,i.bytes))=some (some (.int .i64 0),1,8):=by kernel_rfl
theorem inf_4:(Tryz.prog.info? 4).map (fun i=>(i.zero,i.size,i.bytes))=some (some (.bool false),1,1):=by kernel_rfl
theorem inf_40:(Tryz.prog.info? 40).map (fun i=>(i.zero,i.size,i.bytes))=some (some (.slice none 0 0),1,24):=by kernel_rfl
theorem inf_42:(Tryz.prog.info? 42).map (fun i=>(i.zero,i.size,i.bytes))=some (some (.agg #[(.int .i64 0),(.int .i64 0),(.int .i64 0),(.int .i64 0),(.int .i64 0),(.int .i64 0),(.int .i64 0),(.int .i64 0),(.int .i64 0),(.int .i64 0),(.int .i64 0),(.int .i64 0),(.int .i64 0),(.int .i64 0),(.slice none 0 0),(.int .i64 0)]),16,144):=by kernel_rfl
theorem inf_44:(Tryz.prog.info? 44).map (fun i=>(i.zero,i.size,i.bytes))=some (some (.agg #[(.slice none 0 0)]),1,24):=by kernel_rfl
theorem inf_49:(Tryz.prog.info? 49).map (fun i=>(i.zero,i.size,i.bytes))=some (some (.agg #[(.slice none 0 0),(.slice none 0 0)]),2,48):=by kernel_rfl
theorem inf_51:(Tryz.prog.info? 51).map (fun i=>(i.zero,i.size,i.bytes))=some (some (.agg #[(.int .i64 0),(.int .i64 0),(.int .i64 0),(.int .i64 0)]),4,32):=by kernel_rfl
theorem inf_67:(Tryz.prog.info? 67).map (fun i=>(i.zero,i.size,i.bytes))=some (some (.agg #[(.int .i64 0),(.int .i64 0),(.int .i64 0)]),3,24):=by kernel_rfl
theorem inf_79:(Tryz.prog.info? 79).map (fun i=>(i.zero,i.size,i.bytes))=some (some (.slice none 0 0),1,24):=by kernel_rfl
theorem inf_85:(Tryz.prog.info? 85).map (fun i=>(i.zero,i.size,i.bytes))=some (some (.agg #[(.int .i64 0),(.int .i64 0)]),2,16):=by kernel_rfl
theorem mixed_ok:Tryz.prog.follows .mixedOrders=true:=by kernel_rfl
theorem sz_100:(Tryz.prog.info? 100).map (·.size)=some 1:=by kernel_rfl
theorem sz_115:(Tryz.prog.info? 115).map (·.size)=some 1:=by kernel_rfl
theorem sz_22:(Tryz.prog.info? 22).map (·.size)=some 1:=by kernel_rfl
theorem sz_26:(Tryz.prog.info? 26).map (·.size)=some 3:=by kernel_rfl
theorem sz_27:(Tryz.prog.info? 27).map (·.size)=some 1:=by kernel_rfl
theorem sz_28:(Tryz.prog.info? 28).map (·.size)=some 1:=by kernel_rfl
theorem sz_3:(Tryz.prog.info? 3).map (·.size)=some 1:=by kernel_rfl
theorem sz_30:(Tryz.prog.info? 30).map (·.size)=some 3:=by kernel_rfl
theorem sz_38:(Tryz.prog.info? 38).map (·.size)=some 4:=by kernel_rfl
theorem sz_39:(Tryz.prog.info? 39).map (·.size)=some 8:=by kernel_rfl
theorem sz_4:(Tryz.prog.info? 4).map (·.size)=some 1:=by kernel_rfl
theorem sz_40:(Tryz.prog.info? 40).map (·.size)=some 1:=by kernel_rfl
theorem sz_42:(Tryz.prog.info? 42).map (·.size)=some 16:=by kernel_rfl
theorem sz_44:(Tryz.prog.info? 44).map (·.size)=some 1:=by kernel_rfl
theorem sz_49:(Tryz.prog.info? 49).map (·.size)=some 2:=by kernel_rfl
theorem sz_51:(Tryz.prog.info? 51).map (·.size)=some 4:=by kernel_rfl
theorem sz_53:(Tryz.prog.info? 53).map (·.size)=some 17:=by kernel_rfl
theorem sz_67:(Tryz.prog.info? 67).map (·.size)=some 3:=by kernel_rfl
theorem sz_75:(Tryz.prog.info? 75).map (·.size)=some 1:=by kernel_rfl
theorem sz_79:(Tryz.prog.info? 79).map (·.size)=some 1:=by kernel_rfl
theorem sz_85:(Tryz.prog.info? 85).map (·.size)=some 2:=by kernel_rfl
theorem sz_90:(Tryz.prog.info? 90).map (·.size)=some 5:=by kernel_rfl
theorem ze_100:(Tryz.prog.info? 100).map (·.zero)=some (some .nilFunc):=by kernel_rfl
theorem ze_115:(Tryz.prog.info? 115).map (·.zero)=some (some (.slice none 0 0)):=by kernel_rfl
theorem ze_26:(Tryz.prog.info? 26).map (·.zero)=some (some (.agg #[(.slice none 0 0),(.slice none 0 0),(.slice none 0 0)])):=by kernel_rfl
theorem ze_3:(Tryz.prog.info? 3).map (·.zero)=some (some (.int .i64 0)):=by kernel_rfl
theorem ze_30:(Tryz.prog.info? 30).map (·.zero)=some (some (.agg #[(.int .i64 0),(.slice none 0 0),(.slice none 0 0)])):=by kernel_rfl
theorem ze_31:(Tryz.prog.info? 31).map (·.zero)=some (some (.int .i64 0)):=by kernel_rfl
theorem ze_42:(Tryz.prog.info? 42).map (·.zero)=some (some (.agg #[(.int .i64 0),(.int .i64 0),(.int .i64 0),(.int .i64 0),(.int .i64 0),(.int .i64 0),(.int .i64 0),(.int .i64 0),(.int .i64 0),(.int .i64 0),(.int .i64 0),(.int .i64 0),(.int .i64 0),(.int .i64 0),(.slice none 0 0),(.int .i64 0)])):=by kernel_rfl
theorem ze_44:(Tryz.prog.info? 44).map (·.zero)=some (some (.agg #[(.slice none 0 0)])):=by kernel_rfl
theorem ze_49:(Tryz.prog.info? 49).map (·.zero)=some (some (.agg #[(.slice none 0 0),(.slice none 0 0)])):=by kernel_rfl
theorem ze_51:(Tryz.prog.info? 51).map (·.zero)=some (some (.agg #[(.int .i64 0),(.int .i64 0),(.int .i64 0),(.int .i64 0)])):=by kernel_rfl
theorem ze_53:(Tryz.prog.info? 53).map (·.zero)=some (some (.agg #[(.int .i64 0),(.int .i64 0),(.int .i64 0),(.int .i64 0),(.int .i64 0),(.int .i64 0),(.int .i64 0),(.int .i64 0),(.int .i64 0),(.int .i64 0),(.int .i64 0),(.int .i64 0),(.int .i64 0),(.int .i64 0),(.slice none 0 0),(.int .i64 0),(.slice none 0 0)])):=by kernel_rfl
theorem ze_67:(Tryz.prog.info? 67).map (·.zero)=some (some (.agg #[(.int .i64 0),(.int .i64 0),(.int .i64 0)])):=by kernel_rfl
theorem ze_75:(Tryz.prog.info? 75).map (·.zero)=some (some (.slice none 0 0)):=by kernel_rfl
theorem ze_90:(Tryz.prog.info? 90).map (·.zero)=some (some (.agg #[(.int .i64 0),(.int .i64 0),(.int .i64 0),(.int .i64 0),(.int .i64 0)])):=by kernel_rfl
theorem eqt_38(a0 a1 a2 a3 b0 b1 b2 b3:Int)(x y:Operand)(w:World):(do eqGuard .eql 38 x y (.agg #[.int .i64 a0,.int .i64 a1,.int .i64 a2,.int .i64 a3]) (.agg #[.int .i64 b0,.int .i64 b1,.int .i64 b2,.int .i64 b3]);binOp .eql 38 (.agg #[.int .i64 a0,.int .i64 a1,.int .i64 a2,.int .i64 a3]) (.agg #[.int .i64 b0,.int .i64 b1,.int .i64 b2,.int .i64 b3]):Sem Value).run Tryz.prog w=.ok (.bool (decide ((a0=b0∧a1=b1∧a2=b2∧a3=b3)))) w:=by
 have h:=(eqA (P:=Tryz.prog) (T:=38) Tryz.underlying38 Kr sz_3 Kr [a0,a1,a2,a3] [b0,b1,b2,b3] rfl rfl x y w).1
 rwa [show(decide ([a0,a1,a2,a3]=[b0,b1,b2,b3]))=decide ((a0=b0∧a1=b1∧a2=b2∧a3=b3)) by simp] at h
theorem eqt_39(a0 a1 a2 a3 a4 a5 a6 a7 b0 b1 b2 b3 b4 b5 b6 b7:Int)(x y:Operand)(w:World):(do eqGuard .eql 39 x y (.agg #[.int .i64 a0,.int .i64 a1,.int .i64 a2,.int .i64 a3,.int .i64 a4,.int .i64 a5,.int .i64 a6,.int .i64 a7]) (.agg #[.int .i64 b0,.int .i64 b1,.int .i64 b2,.int .i64 b3,.int .i64 b4,.int .i64 b5,.int .i64 b6,.int .i64 b7]);binOp .eql 39 (.agg #[.int .i64 a0,.int .i64 a1,.int .i64 a2,.int .i64 a3,.int .i64 a4,.int .i64 a5,.int .i64 a6,.int .i64 a7]) (.agg #[.int .i64 b0,.int .i64 b1,.int .i64 b2,.int .i64 b3,.int .i64 b4,.int .i64 b5,.int .i64 b6,.int .i64 b7]):Sem Value).run Tryz.prog w=.ok (.bool (decide ((a0=b0∧a1=b1∧a2=b2∧a3=b3∧a4=b4∧a5=b5∧a6=b6∧a7=b7)))) w:=by
 have h:=(eqA (P:=Tryz.prog) (T:=39) Tryz.underlying39 Kr sz_3 Kr [a0,a1,a2,a3,a4,a5,a6,a7] [b0,b1,b2,b3,b4,b5,b6,b7] rfl rfl x y w).1
 rwa [show(decide ([a0,a1,a2,a3,a4,a5,a6,a7]=[b0,b1,b2,b3,b4,b5,b6,b7]))=decide ((a0=b0∧a1=b1∧a2=b2∧a3=b3∧a4=b4∧a5=b5∧a6=b6∧a7=b7)) by simp] at h
theorem net_51(a0 a1 a2 a3 b0 b1 b2 b3:Int)(x y:Operand)(w:World):(do eqGuard .neq 51 x y (.agg #[.int .i64 a0,.int .i64 a1,.int .i64 a2,.int .i64 a3]) (.agg #[.int .i64 b0,.int .i64 b1,.int .i64 b2,.int .i64 b3]);binOp .neq 51 (.agg #[.int .i64 a0,.int .i64 a1,.int .i64 a2,.int .i64 a3]) (.agg #[.int .i64 b0,.int .i64 b1,.int .i64 b2,.int .i64 b3]):Sem Value).run Tryz.prog w=.ok (.bool (decide (¬(a0=b0∧a1=b1∧a2=b2∧a3=b3)))) w:=by
 have h:=(eqS (P:=Tryz.prog) (T:=51) Kr Kr Kr Kr [a0,a1,a2,a3] [b0,b1,b2,b3] Kr Kr x y w).2
 rwa [show(!(decide ([a0,a1,a2,a3]=[b0,b1,b2,b3])))=decide (¬(a0=b0∧a1=b1∧a2=b2∧a3=b3)) by simp] at h
theorem net_67(a0 a1 a2 b0 b1 b2:Int)(x y:Operand)(w:World):(do eqGuard .neq 67 x y (.agg #[.int .i64 a0,.int .i64 a1,.int .i64 a2]) (.agg #[.int .i64 b0,.int .i64 b1,.int .i64 b2]);binOp .neq 67 (.agg #[.int .i64 a0,.int .i64 a1,.int .i64 a2]) (.agg #[.int .i64 b0,.int .i64 b1,.int .i64 b2]):Sem Value).run Tryz.prog w=.ok (.bool (decide (¬(a0=b0∧a1=b1∧a2=b2)))) w:=by
 have h:=(eqS (P:=Tryz.prog) (T:=67) Kr Kr Kr Kr [a0,a1,a2] [b0,b1,b2] Kr Kr x y w).2
 rwa [show(!(decide ([a0,a1,a2]=[b0,b1,b2])))=decide (¬(a0=b0∧a1=b1∧a2=b2)) by simp] at h
theorem net_85(a0 a1 b0 b1:Int)(x y:Operand)(w:World):(do eqGuard .neq 85 x y (.agg #[.int .i64 a0,.int .i64 a1]) (.agg #[.int .i64 b0,.int .i64 b1]);binOp .neq 85 (.agg #[.int .i64 a0,.int .i64 a1]) (.agg #[.int .i64 b0,.int .i64 b1]):Sem Value).run Tryz.prog w=.ok (.bool (decide (¬(a0=b0∧a1=b1)))) w:=by
 have h:=(eqS (P:=Tryz.prog) (T:=85) Kr Kr Kr Kr [a0,a1] [b0,b1] Kr Kr x y w).2
 rwa [show(!(decide ([a0,a1]=[b0,b1])))=decide (¬(a0=b0∧a1=b1)) by simp] at h
end Go.Proofs.YtndcjmopebcdgaaGreat
