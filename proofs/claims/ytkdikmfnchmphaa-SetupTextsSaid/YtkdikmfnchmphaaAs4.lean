/- Contracts: the document's Check and Right; what a law makes of a configuration. -/
import Derived.Test.YtkdikmfnchmphaaAs3
namespace Go.Proofs.Ytkdikmfnchmphaa
set_option linter.unusedSimpArgs false
set_option linter.unusedVariables false
set_option maxHeartbeats 4000000
open Go Go.Am Go.RowKit Go.Setup
set_option maxRecDepth 100000
/- quidnunc/quidnuncref13.least -/
noncomputable def c70_1 : ACode := .region false [⟨some 2, .box 0, [.t 0], none⟩,
  ⟨some 4, .move, [.c (.val (.int .i64 0))], none⟩] [] [] [1, 2] true [] []
noncomputable def c70_4 : ACode := .region false [⟨some 5, .move, [.t 1], none⟩] [] [] [2, 5] false [] []
noncomputable def c70_7 : ACode := .region false [⟨some 7, .bin .eql, [.t 5, .c (.val (.int .i64 0))], none⟩,
  ⟨some 6, .move, [.t 7], none⟩] [] [] [2, 5, 6] false [] []
noncomputable def c70_10 : ACode := .region false [⟨some 4, .move, [.c (.val (.int .i64 2))], none⟩] [] [] [4] false [] []
noncomputable def c70_9 : ACode := .seq c70_10 .ret
noncomputable def c70_13 : ACode := .region false [⟨some 9, .bin .eql, [.t 5, .c (.val (.int .i64 3))], none⟩,
  ⟨some 8, .move, [.t 9], none⟩] [] [] [2, 5, 8] false [] []
noncomputable def c70_16 : ACode := .region false [⟨some 10, .bin .eql, [.t 5, .c (.val (.int .i64 8))], none⟩,
  ⟨some 8, .move, [.t 10], none⟩] [] [] [2, 5, 8] false [] []
noncomputable def c70_18 : ACode := .region false [⟨some 11, .bin .eql, [.t 5, .c (.val (.int .i64 16))], none⟩,
  ⟨some 8, .move, [.t 11], none⟩] [] [] [2, 5, 8] false [] []
noncomputable def c70_17 : ACode := .cond (.t 8) .skip c70_18
noncomputable def c70_15 : ACode := .seq c70_16 c70_17
noncomputable def c70_14 : ACode := .cond (.t 8) .skip c70_15
noncomputable def c70_12 : ACode := .seq c70_13 c70_14
noncomputable def c70_21 : ACode := .region false [⟨some 4, .move, [.c (.val (.int .i64 0))], none⟩] [] [] [4] false [] []
noncomputable def c70_20 : ACode := .seq c70_21 .ret
noncomputable def c70_23 : ACode := .region false [⟨some 13, .bin .eql, [.t 5, .c (.val (.int .i64 4))], none⟩,
  ⟨some 12, .move, [.t 13], none⟩] [] [] [2, 5, 12] false [] []
noncomputable def c70_26 : ACode := .region false [⟨some 14, .ixA 20 1, [.t 2, .c (.val (.int .i64 3))], none⟩,
  ⟨some 15, .load false 1, [.t 14], none⟩,
  ⟨some 4, .move, [.t 15], none⟩] [] [] [4] false [] []
noncomputable def c70_25 : ACode := .seq c70_26 .ret
noncomputable def c70_28 : ACode := .region false [⟨some 17, .bin .eql, [.t 5, .c (.val (.int .i64 11))], none⟩,
  ⟨some 16, .move, [.t 17], none⟩] [] [] [2, 16] false [] []
noncomputable def c70_31 : ACode := .region false [⟨some 18, .ixA 20 1, [.t 2, .c (.val (.int .i64 10))], none⟩,
  ⟨some 19, .load false 1, [.t 18], none⟩,
  ⟨some 4, .move, [.t 19], none⟩] [] [] [4] false [] []
noncomputable def c70_30 : ACode := .seq c70_31 .ret
noncomputable def c70_29 : ACode := .cond (.t 16) c70_30 .skip
noncomputable def c70_27 : ACode := .seq c70_28 c70_29
noncomputable def c70_24 : ACode := .cond (.t 12) c70_25 c70_27
noncomputable def c70_22 : ACode := .seq c70_23 c70_24
noncomputable def c70_19 : ACode := .cond (.t 8) c70_20 c70_22
noncomputable def c70_11 : ACode := .seq c70_12 c70_19
noncomputable def c70_8 : ACode := .cond (.t 6) c70_9 c70_11
noncomputable def c70_6 : ACode := .seq c70_7 c70_8
noncomputable def c70_5 : ACode := .block 0 c70_6
noncomputable def c70_3 : ACode := .seq c70_4 c70_5
noncomputable def c70_33 : ACode := .region false [⟨some 4, .move, [.c (.val (.int .i64 1))], none⟩] [] [] [4] false [] []
noncomputable def c70_32 : ACode := .seq c70_33 .ret
noncomputable def c70_2 : ACode := .seq c70_3 c70_32
noncomputable def c70_0 : ACode := .seq c70_1 c70_2
noncomputable def code70 : Code := (Try.f70.body).getD .skip
theorem c70_ok : compC Try.prog 20 code70 = some (strip c70_0) := by kernel_rfl
theorem res70_ok : Try.f70.results.toList.mapM (resC Try.prog) = some [(4, none)] := by kernel_rfl
/- quidnunc/quidnuncref13.most -/
noncomputable def c71_1 : ACode := .region false [⟨some 2, .box 0, [.t 0], none⟩,
  ⟨some 4, .move, [.c (.val (.int .i64 0))], none⟩] [] [] [1, 2] true [] []
noncomputable def c71_4 : ACode := .region false [⟨some 5, .move, [.t 1], none⟩] [] [] [2, 5] false [] []
noncomputable def c71_7 : ACode := .region false [⟨some 7, .bin .eql, [.t 5, .c (.val (.int .i64 0))], none⟩,
  ⟨some 6, .move, [.t 7], none⟩] [] [] [2, 5, 6] false [] []
noncomputable def c71_10 : ACode := .region false [⟨some 4, .move, [.c (.val (.int .i64 12))], none⟩] [] [] [4] false [] []
noncomputable def c71_9 : ACode := .seq c71_10 .ret
noncomputable def c71_12 : ACode := .region false [⟨some 9, .bin .eql, [.t 5, .c (.val (.int .i64 2))], none⟩,
  ⟨some 8, .move, [.t 9], none⟩] [] [] [2, 5, 8] false [] []
noncomputable def c71_15 : ACode := .region false [⟨some 10, .ixA 20 1, [.t 2, .c (.val (.int .i64 0))], none⟩,
  ⟨some 11, .load false 1, [.t 10], none⟩,
  ⟨some 4, .move, [.t 11], none⟩] [] [] [4] false [] []
noncomputable def c71_14 : ACode := .seq c71_15 .ret
noncomputable def c71_17 : ACode := .region false [⟨some 13, .bin .eql, [.t 5, .c (.val (.int .i64 3))], none⟩,
  ⟨some 12, .move, [.t 13], none⟩] [] [] [2, 5, 12] false [] []
noncomputable def c71_20 : ACode := .region false [⟨some 4, .move, [.c (.val (.int .i64 2147483647))], none⟩] [] [] [4] false [] []
noncomputable def c71_19 : ACode := .seq c71_20 .ret
noncomputable def c71_22 : ACode := .region false [⟨some 15, .bin .eql, [.t 5, .c (.val (.int .i64 4))], none⟩,
  ⟨some 14, .move, [.t 15], none⟩] [] [] [2, 5, 14] false [] []
noncomputable def c71_26 : ACode := .region false [⟨some 16, .ixA 20 1, [.t 2, .c (.val (.int .i64 3))], none⟩,
  ⟨some 17, .load false 1, [.t 16], none⟩,
  ⟨some 18, .bin .eql, [.t 17, .c (.val (.int .i64 0))], none⟩] [] [] [18] false [] []
noncomputable def c71_29 : ACode := .region false [⟨some 4, .move, [.c (.val (.int .i64 0))], none⟩] [] [] [4] false [] []
noncomputable def c71_28 : ACode := .seq c71_29 .ret
noncomputable def c71_27 : ACode := .cond (.t 18) c71_28 .skip
noncomputable def c71_25 : ACode := .seq c71_26 c71_27
noncomputable def c71_31 : ACode := .region false [⟨some 4, .move, [.c (.val (.int .i64 2147483647))], none⟩] [] [] [4] false [] []
noncomputable def c71_30 : ACode := .seq c71_31 .ret
noncomputable def c71_24 : ACode := .seq c71_25 c71_30
noncomputable def c71_33 : ACode := .region false [⟨some 20, .bin .eql, [.t 5, .c (.val (.int .i64 5))], none⟩,
  ⟨some 19, .move, [.t 20], none⟩] [] [] [2, 5, 19] false [] []
noncomputable def c71_36 : ACode := .region false [⟨some 4, .move, [.c (.val (.int .i64 6))], none⟩] [] [] [4] false [] []
noncomputable def c71_35 : ACode := .seq c71_36 .ret
noncomputable def c71_38 : ACode := .region false [⟨some 22, .bin .eql, [.t 5, .c (.val (.int .i64 6))], none⟩,
  ⟨some 21, .move, [.t 22], none⟩] [] [] [2, 5, 21] false [] []
noncomputable def c71_41 : ACode := .region false [⟨some 4, .move, [.c (.val (.int .i64 11))], none⟩] [] [] [4] false [] []
noncomputable def c71_40 : ACode := .seq c71_41 .ret
noncomputable def c71_43 : ACode := .region false [⟨some 24, .bin .eql, [.t 5, .c (.val (.int .i64 8))], none⟩,
  ⟨some 23, .move, [.t 24], none⟩] [] [] [2, 5, 23] false [] []
noncomputable def c71_46 : ACode := .region false [⟨some 25, .ixA 20 1, [.t 2, .c (.val (.int .i64 7))], none⟩,
  ⟨some 26, .load false 1, [.t 25], none⟩,
  ⟨some 4, .move, [.t 26], none⟩] [] [] [4] false [] []
noncomputable def c71_45 : ACode := .seq c71_46 .ret
noncomputable def c71_49 : ACode := .region false [⟨some 28, .bin .eql, [.t 5, .c (.val (.int .i64 7))], none⟩,
  ⟨some 27, .move, [.t 28], none⟩] [] [] [5, 27] false [] []
noncomputable def c71_52 : ACode := .region false [⟨some 29, .bin .eql, [.t 5, .c (.val (.int .i64 9))], none⟩,
  ⟨some 27, .move, [.t 29], none⟩] [] [] [5, 27] false [] []
noncomputable def c71_55 : ACode := .region false [⟨some 30, .bin .eql, [.t 5, .c (.val (.int .i64 15))], none⟩,
  ⟨some 27, .move, [.t 30], none⟩] [] [] [5, 27] false [] []
noncomputable def c71_58 : ACode := .region false [⟨some 31, .bin .eql, [.t 5, .c (.val (.int .i64 17))], none⟩,
  ⟨some 27, .move, [.t 31], none⟩] [] [] [5, 27] false [] []
noncomputable def c71_60 : ACode := .region false [⟨some 32, .bin .eql, [.t 5, .c (.val (.int .i64 18))], none⟩,
  ⟨some 27, .move, [.t 32], none⟩] [] [] [5, 27] false [] []
noncomputable def c71_59 : ACode := .cond (.t 27) .skip c71_60
noncomputable def c71_57 : ACode := .seq c71_58 c71_59
noncomputable def c71_56 : ACode := .cond (.t 27) .skip c71_57
noncomputable def c71_54 : ACode := .seq c71_55 c71_56
noncomputable def c71_53 : ACode := .cond (.t 27) .skip c71_54
noncomputable def c71_51 : ACode := .seq c71_52 c71_53
noncomputable def c71_50 : ACode := .cond (.t 27) .skip c71_51
noncomputable def c71_48 : ACode := .seq c71_49 c71_50
noncomputable def c71_63 : ACode := .region false [⟨some 4, .move, [.c (.val (.int .i64 8))], none⟩] [] [] [4] false [] []
noncomputable def c71_62 : ACode := .seq c71_63 .ret
noncomputable def c71_66 : ACode := .region false [⟨some 34, .bin .eql, [.t 5, .c (.val (.int .i64 11))], none⟩,
  ⟨some 33, .move, [.t 34], none⟩] [] [] [5, 33] false [] []
noncomputable def c71_68 : ACode := .region false [⟨some 35, .bin .eql, [.t 5, .c (.val (.int .i64 12))], none⟩,
  ⟨some 33, .move, [.t 35], none⟩] [] [] [5, 33] false [] []
noncomputable def c71_67 : ACode := .cond (.t 33) .skip c71_68
noncomputable def c71_65 : ACode := .seq c71_66 c71_67
noncomputable def c71_71 : ACode := .region false [⟨some 4, .move, [.c (.val (.int .i64 64))], none⟩] [] [] [4] false [] []
noncomputable def c71_70 : ACode := .seq c71_71 .ret
noncomputable def c71_73 : ACode := .region false [⟨some 37, .bin .eql, [.t 5, .c (.val (.int .i64 16))], none⟩,
  ⟨some 36, .move, [.t 37], none⟩] [] [] [5, 36] false [] []
noncomputable def c71_76 : ACode := .region false [⟨some 4, .move, [.c (.val (.int .i64 1))], none⟩] [] [] [4] false [] []
noncomputable def c71_75 : ACode := .seq c71_76 .ret
noncomputable def c71_78 : ACode := .region false [⟨some 39, .bin .eql, [.t 5, .c (.val (.int .i64 19))], none⟩,
  ⟨some 38, .move, [.t 39], none⟩] [] [] [38] false [] []
noncomputable def c71_81 : ACode := .region false [⟨some 4, .move, [.c (.val (.int .i64 512))], none⟩] [] [] [4] false [] []
noncomputable def c71_80 : ACode := .seq c71_81 .ret
noncomputable def c71_79 : ACode := .cond (.t 38) c71_80 .skip
noncomputable def c71_77 : ACode := .seq c71_78 c71_79
noncomputable def c71_74 : ACode := .cond (.t 36) c71_75 c71_77
noncomputable def c71_72 : ACode := .seq c71_73 c71_74
noncomputable def c71_69 : ACode := .cond (.t 33) c71_70 c71_72
noncomputable def c71_64 : ACode := .seq c71_65 c71_69
noncomputable def c71_61 : ACode := .cond (.t 27) c71_62 c71_64
noncomputable def c71_47 : ACode := .seq c71_48 c71_61
noncomputable def c71_44 : ACode := .cond (.t 23) c71_45 c71_47
noncomputable def c71_42 : ACode := .seq c71_43 c71_44
noncomputable def c71_39 : ACode := .cond (.t 21) c71_40 c71_42
noncomputable def c71_37 : ACode := .seq c71_38 c71_39
noncomputable def c71_34 : ACode := .cond (.t 19) c71_35 c71_37
noncomputable def c71_32 : ACode := .seq c71_33 c71_34
noncomputable def c71_23 : ACode := .cond (.t 14) c71_24 c71_32
noncomputable def c71_21 : ACode := .seq c71_22 c71_23
noncomputable def c71_18 : ACode := .cond (.t 12) c71_19 c71_21
noncomputable def c71_16 : ACode := .seq c71_17 c71_18
noncomputable def c71_13 : ACode := .cond (.t 8) c71_14 c71_16
noncomputable def c71_11 : ACode := .seq c71_12 c71_13
noncomputable def c71_8 : ACode := .cond (.t 6) c71_9 c71_11
noncomputable def c71_6 : ACode := .seq c71_7 c71_8
noncomputable def c71_5 : ACode := .block 0 c71_6
noncomputable def c71_3 : ACode := .seq c71_4 c71_5
noncomputable def c71_83 : ACode := .region false [⟨some 4, .move, [.c (.val (.int .i64 16))], none⟩] [] [] [4] false [] []
noncomputable def c71_82 : ACode := .seq c71_83 .ret
noncomputable def c71_2 : ACode := .seq c71_3 c71_82
noncomputable def c71_0 : ACode := .seq c71_1 c71_2
noncomputable def code71 : Code := (Try.f71.body).getD .skip
theorem c71_ok : compC Try.prog 40 code71 = some (strip c71_0) := by kernel_rfl
theorem res71_ok : Try.f71.results.toList.mapM (resC Try.prog) = some [(4, none)] := by kernel_rfl
/- quidnunc/quidnuncref13.Check -/
noncomputable def c36_1 : ACode := .region false [⟨some 1, .box 0, [.t 0], none⟩,
  ⟨some 2, .move, [.c (.val (.int .i64 0))], none⟩,
  ⟨some 3, .move, [.c (.val (.int .i64 0))], none⟩] [] [] [1] true [] []
noncomputable def c36_4 : ACode := .region false [⟨some 4, .move, [.c (.val (.int .i64 0))], none⟩] [] [] [1, 4] false [] []
noncomputable def c36_9 : ACode := .region false [⟨some 5, .move, [.t 4], none⟩,
  ⟨some 6, .bin .lss, [.t 5, .c (.val (.int .i64 20))], none⟩] [] [] [1, 4, 6] false [] []
noncomputable def c36_10 : ACode := .cond (.t 6) .skip (.exit 0)
noncomputable def c36_8 : ACode := .seq c36_9 c36_10
noncomputable def c36_14 : ACode := .region true [⟨some 9, .move, [.t 4], none⟩,
  ⟨some 10, .ixA 20 1, [.t 1, .t 9], none⟩,
  ⟨some 11, .load false 1, [.t 10], none⟩,
  ⟨some 12, .load true 20, [.t 1], none⟩,
  ⟨some 13, .move, [.t 4], none⟩,
  ⟨some 14, .call 70, [.t 12, .t 13], none⟩,
  ⟨some 15, .bin .lss, [.t 11, .t 14], none⟩,
  ⟨some 16, .move, [.t 15], none⟩,
  ⟨some 17, .move, [.t 4], some (some 16, false)⟩,
  ⟨some 18, .ixA 20 1, [.t 1, .t 17], some (some 16, false)⟩,
  ⟨some 19, .load false 1, [.t 18], some (some 16, false)⟩,
  ⟨some 20, .load true 20, [.t 1], some (some 16, false)⟩,
  ⟨some 21, .move, [.t 4], some (some 16, false)⟩,
  ⟨some 22, .call 71, [.t 20, .t 21], some (some 16, false)⟩,
  ⟨some 23, .bin .gtr, [.t 19, .t 22], some (some 16, false)⟩,
  ⟨some 24, .pick, [.t 16, .c (.val (.bool true)), .t 23], none⟩] [] [] [1, 4, 24] true [] []
noncomputable def c36_17 : ACode := .region false [⟨some 25, .move, [.t 4], none⟩,
  ⟨some 2, .move, [.t 25], none⟩,
  ⟨some 3, .move, [.c (.val (.int .i64 14))], none⟩] [] [] [2, 3] false [] []
noncomputable def c36_16 : ACode := .seq c36_17 .ret
noncomputable def c36_15 : ACode := .cond (.t 24) c36_16 .skip
noncomputable def c36_13 : ACode := .seq c36_14 c36_15
noncomputable def c36_12 : ACode := .block 1 c36_13
noncomputable def c36_18 : ACode := .region false [⟨some 7, .move, [.t 4], none⟩,
  ⟨some 8, .bin .add, [.t 7, .c (.val (.int .i64 1))], none⟩,
  ⟨some 4, .move, [.t 8], none⟩] [] [] [1, 4] false [] []
noncomputable def c36_11 : ACode := .seq c36_12 c36_18
noncomputable def c36_7 : ACode := .seq c36_8 c36_11
noncomputable def c36_6 : ACode := .loop c36_7
noncomputable def c36_5 : ACode := .block 0 c36_6
noncomputable def c36_3 : ACode := .seq c36_4 c36_5
noncomputable def c36_20 : ACode := .region false [⟨some 2, .move, [.c (.val (.int .i64 0))], none⟩,
  ⟨some 3, .move, [.c (.val (.int .i64 0))], none⟩] [] [] [2, 3] false [] []
noncomputable def c36_19 : ACode := .seq c36_20 .ret
noncomputable def c36_2 : ACode := .seq c36_3 c36_19
noncomputable def c36_0 : ACode := .seq c36_1 c36_2
noncomputable def code36 : Code := (Try.f36.body).getD .skip
theorem c36_ok : compC Try.prog 26 code36 = some (strip c36_0) := by kernel_rfl
theorem res36_ok : Try.f36.results.toList.mapM (resC Try.prog) = some [(2, none), (3, none)] := by kernel_rfl
/- quidnunc/quidnuncref13.Right -/
noncomputable def c29_1 : ACode := .region false [⟨some 1, .box 0, [.t 0], none⟩,
  ⟨some 2, .move, [.c (.val (.bool false))], none⟩] [] [] [1] true [] []
noncomputable def c29_3 : ACode := .region false [⟨some 6, .load true 20, [.t 1], none⟩,
  ⟨some 7, .call 36, [.t 6], none⟩,
  ⟨some 5, .move, [.t 7], none⟩,
  ⟨some 8, .ext 0, [.t 5], none⟩,
  ⟨some 9, .ext 1, [.t 5], none⟩,
  ⟨some 3, .move, [.t 8], none⟩,
  ⟨some 4, .move, [.t 9], none⟩] [] [] [4] true [] []
noncomputable def c29_5 : ACode := .region false [⟨some 10, .move, [.t 4], none⟩,
  ⟨some 11, .bin .eql, [.t 10, .c (.val (.int .i64 0))], none⟩,
  ⟨some 2, .move, [.t 11], none⟩] [] [] [2] false [] []
noncomputable def c29_4 : ACode := .seq c29_5 .ret
noncomputable def c29_2 : ACode := .seq c29_3 c29_4
noncomputable def c29_0 : ACode := .seq c29_1 c29_2
noncomputable def code29 : Code := (Try.f29.body).getD .skip
theorem c29_ok : compC Try.prog 12 code29 = some (strip c29_0) := by kernel_rfl
theorem res29_ok : Try.f29.results.toList.mapM (resC Try.prog) = some [(2, none)] := by kernel_rfl
/- quidnunc/quidnunclaw13.Of -/
noncomputable def c30_1 : ACode := .region false [⟨some 1, .box 0, [.t 0], none⟩,
  ⟨some 2, .alloc (List.replicate 20 (.int .i64 0)), [], none⟩] [] [] [1, 2] true [] []
noncomputable def c30_3 : ACode := .region false [⟨some 3, .ixA 20 1, [.t 1, .c (.val (.int .i64 0))], none⟩,
  ⟨some 4, .load false 1, [.t 3], none⟩,
  ⟨some 5, .ixA 20 1, [.t 1, .c (.val (.int .i64 1))], none⟩,
  ⟨some 6, .load false 1, [.t 5], none⟩,
  ⟨some 7, .ixA 20 1, [.t 1, .c (.val (.int .i64 2))], none⟩,
  ⟨some 8, .load false 1, [.t 7], none⟩,
  ⟨some 9, .ixA 20 1, [.t 1, .c (.val (.int .i64 3))], none⟩,
  ⟨some 10, .load false 1, [.t 9], none⟩,
  ⟨some 11, .ixA 20 1, [.t 1, .c (.val (.int .i64 4))], none⟩,
  ⟨some 12, .load false 1, [.t 11], none⟩,
  ⟨some 13, .ixA 20 1, [.t 1, .c (.val (.int .i64 5))], none⟩,
  ⟨some 14, .load false 1, [.t 13], none⟩,
  ⟨some 15, .ixA 20 1, [.t 1, .c (.val (.int .i64 6))], none⟩,
  ⟨some 16, .load false 1, [.t 15], none⟩,
  ⟨some 17, .ixA 20 1, [.t 1, .c (.val (.int .i64 7))], none⟩,
  ⟨some 18, .load false 1, [.t 17], none⟩,
  ⟨some 19, .ixA 20 1, [.t 1, .c (.val (.int .i64 8))], none⟩,
  ⟨some 20, .load false 1, [.t 19], none⟩,
  ⟨some 21, .ixA 20 1, [.t 1, .c (.val (.int .i64 9))], none⟩,
  ⟨some 22, .load false 1, [.t 21], none⟩,
  ⟨some 23, .ixA 20 1, [.t 1, .c (.val (.int .i64 10))], none⟩,
  ⟨some 24, .load false 1, [.t 23], none⟩,
  ⟨some 25, .ixA 20 1, [.t 1, .c (.val (.int .i64 11))], none⟩,
  ⟨some 26, .load false 1, [.t 25], none⟩,
  ⟨some 27, .ixA 20 1, [.t 1, .c (.val (.int .i64 12))], none⟩,
  ⟨some 28, .load false 1, [.t 27], none⟩,
  ⟨some 29, .ixA 20 1, [.t 1, .c (.val (.int .i64 13))], none⟩,
  ⟨some 30, .load false 1, [.t 29], none⟩,
  ⟨some 31, .ixA 20 1, [.t 1, .c (.val (.int .i64 14))], none⟩,
  ⟨some 32, .load false 1, [.t 31], none⟩,
  ⟨some 33, .ixA 20 1, [.t 1, .c (.val (.int .i64 15))], none⟩,
  ⟨some 34, .load false 1, [.t 33], none⟩,
  ⟨some 35, .ixA 20 1, [.t 1, .c (.val (.int .i64 16))], none⟩,
  ⟨some 36, .load false 1, [.t 35], none⟩,
  ⟨some 37, .ixA 20 1, [.t 1, .c (.val (.int .i64 17))], none⟩,
  ⟨some 38, .load false 1, [.t 37], none⟩,
  ⟨some 39, .ixA 20 1, [.t 1, .c (.val (.int .i64 18))], none⟩,
  ⟨some 40, .load false 1, [.t 39], none⟩,
  ⟨some 41, .ixA 20 1, [.t 1, .c (.val (.int .i64 19))], none⟩,
  ⟨some 42, .load false 1, [.t 41], none⟩,
  ⟨some 43, .build (List.replicate 20 (.int .i64 0)) [(0, 1), (1, 1), (2, 1), (3, 1), (4, 1), (5, 1), (6, 1), (7, 1), (8, 1), (9, 1), (10, 1), (11, 1), (12, 1), (13, 1), (14, 1), (15, 1), (16, 1), (17, 1), (18, 1), (19, 1)], [.t 4, .t 6, .t 8, .t 10, .t 12, .t 14, .t 16, .t 18, .t 20, .t 22, .t 24, .t 26, .t 28, .t 30, .t 32, .t 34, .t 36, .t 38, .t 40, .t 42], none⟩,
  ⟨none, .store 20, [.t 2, .t 43], none⟩] [] [] [2] true [] []
noncomputable def c30_2 : ACode := .seq c30_3 .ret
noncomputable def c30_0 : ACode := .seq c30_1 c30_2
noncomputable def code30 : Code := (Try.f30.body).getD .skip
theorem c30_ok : compC Try.prog 44 code30 = some (strip c30_0) := by kernel_rfl
theorem res30_ok : Try.f30.results.toList.mapM (resC Try.prog) = some [(2, some (true, 20))] := by kernel_rfl
theorem least_any (l : List Int) (hl : l.length = 20) : ∀ i : Nat, i < 20 → ACall Try.prog 70 [.agg (cI l), I i] [] (Det (I (lo l i)) []) := by
  have hc := cI_len l
  have g3 := cI_get (l := l) (k := 3) (by omega)
  have g10 := cI_get (l := l) (k := 10) (by omega)
  refine cases20 ?_
  simp only [lo]
  generalize l.getD 3 0 = x3 at *
  generalize l.getD 10 0 = x10 at *
  refine ⟨?_, ?_, ?_, ?_, ?_, ?_, ?_, ?_, ?_, ?_, ?_, ?_, ?_, ?_, ?_, ?_, ?_, ?_, ?_, ?_⟩ <;>
  (refine ACall.startA c70_ok Try.func70 rfl Try.ntmps70 (by kernel_rfl) res70_ok rfl rfl rfl ?_; simp (maxSteps := 9999999) (disch := omega) only [go_sem]
   (repeat' (first | refine AWpA.seq ?_ | refine AWpA.block ?_ | (with_reducible refine CondP.tt ?_) | (with_reducible refine CondP.ff ?_) | refine AWpA.condv (by simp (maxSteps := 9999999) (disch := omega) only [go_sem, cI_ren, hc, hl, g3, g10]; rfl) ?_ | ((first | (apply AWpA.region; (focus (simp (maxSteps := 9999999) (disch := omega) only [go_sem, cI_ren, hc, hl, g3, g10]; rfl))) | (apply AWpA.draw [] follows; (focus (simp (maxSteps := 9999999) (disch := omega) only [go_sem, cI_ren, hc, hl, g3, g10]; rfl)); (focus (simp (maxSteps := 9999999) (disch := omega) only [go_sem, cI_ren, hc, hl, g3, g10]; first | done | trivial)); (focus (simp (maxSteps := 9999999) (disch := omega) only [go_sem, cI_ren, hc, hl, g3, g10]; rfl))) | (apply TailK.go; (focus (simp (maxSteps := 9999999) (disch := omega) only [go_sem, cI_ren, hc, hl, g3, g10]; rfl))) | refine AWpA.skip ?_ | refine AWpA.exit ?_ | refine AWpA.ret ?_ | (with_reducible refine ARoundsA.succ ?_) | ((first | refine Runs.kt (by assumption) (fun h9 => ?_) | refine Runs.kf (by assumption) (fun h9 => ?_) | refine Runs.nt (by assumption) (fun h9 => ?_) | refine Runs.nf (by assumption) (fun h9 => ?_) | refine CondP.ht (by assumption) (fun h9 => ?_) | refine CondP.hf (by assumption) (fun h9 => ?_) | refine CondP.nt (by assumption) (fun h9 => ?_) | refine CondP.nf (by assumption) (fun h9 => ?_)); (try simp only [h9]); clear h9)); (try simp (maxSteps := 9999999) (disch := omega) only [go_sem, cI_ren, hc, hl, g3, g10]); (try (refine And.intro ?_ ?_; (focus (first | omega | (simp only [go_sem]; done) | (simp; done) | (simp; omega) | assumption))))) | ((first | refine CondP.split (fun hif => ?_) (fun hif => ?_) | refine Runs.part (fun hif => ?_) (fun hif => ?_)) <;> ((try simp only [hif]); (try simp only [decide_eq_true_eq, decide_eq_false_iff_not, Bool.not_eq_true, Bool.not_eq_false, Bool.not_eq_true', Bool.not_eq_false', beq_iff_eq, bne_iff_ne, bne_eq_false_iff_eq, beq_eq_false_iff_ne, ne_eq, Bool.and_eq_true, Bool.or_eq_true, Bool.or_eq_false_iff] at hif); (try (have h9 : _ = true := hif; simp only [h9])); (try (have h9 : _ = false := hif; simp only [h9])); (try simp (maxSteps := 9999999) (disch := omega) only [go_sem, cI_ren, hc, hl, g3, g10]); (try (refine And.intro ?_ ?_; (focus (first | omega | (simp only [go_sem]; done) | (simp; done) | (simp; omega) | assumption)))); (try (exfalso; omega; done))))))
   (apply Ret.det []; (focus (first | exact .inl rfl | exact .inr rfl)); (focus (simp (maxSteps := 9999999) (disch := omega) only [go_sem, cI_ren]; rfl)); (simp (maxSteps := 9999999) (disch := omega) only [go_sem, cI_ren]; (try (repeat' (first | done | trivial | rfl | exact leAs_rfl _ | decide | (refine And.intro ?_ ?_) | (simp; done) | omega | (simp; decide)))))))
theorem most_any (l : List Int) (hl : l.length = 20) : ∀ i : Nat, i < 20 → ACall Try.prog 71 [.agg (cI l), I i] [] (Det (I (hi l i)) []) := by
  have hc := cI_len l
  have g0 := cI_get (l := l) (k := 0) (by omega)
  have g3 := cI_get (l := l) (k := 3) (by omega)
  have g7 := cI_get (l := l) (k := 7) (by omega)
  refine cases20 ?_
  simp only [hi]
  generalize l.getD 0 0 = x0 at *
  generalize l.getD 3 0 = x3 at *
  generalize l.getD 7 0 = x7 at *
  by_cases h3 : x3 = 0
  · have g4 : (x3 == 0) = true := by simp [h3]
    rw [if_pos h3]
    refine ⟨?_, ?_, ?_, ?_, ?_, ?_, ?_, ?_, ?_, ?_, ?_, ?_, ?_, ?_, ?_, ?_, ?_, ?_, ?_, ?_⟩ <;>
    (refine ACall.startA c71_ok Try.func71 rfl Try.ntmps71 (by kernel_rfl) res71_ok rfl rfl rfl ?_; simp (maxSteps := 9999999) (disch := omega) only [go_sem]
     (repeat' (first | refine AWpA.seq ?_ | refine AWpA.block ?_ | (with_reducible refine CondP.tt ?_) | (with_reducible refine CondP.ff ?_) | refine AWpA.condv (by simp (maxSteps := 9999999) (disch := omega) only [go_sem, cI_ren, hc, hl, g0, g3, g7, g4]; rfl) ?_ | ((first | (apply AWpA.region; (focus (simp (maxSteps := 9999999) (disch := omega) only [go_sem, cI_ren, hc, hl, g0, g3, g7, g4]; rfl))) | (apply AWpA.draw [] follows; (focus (simp (maxSteps := 9999999) (disch := omega) only [go_sem, cI_ren, hc, hl, g0, g3, g7, g4]; rfl)); (focus (simp (maxSteps := 9999999) (disch := omega) only [go_sem, cI_ren, hc, hl, g0, g3, g7, g4]; first | done | trivial)); (focus (simp (maxSteps := 9999999) (disch := omega) only [go_sem, cI_ren, hc, hl, g0, g3, g7, g4]; rfl))) | (apply TailK.go; (focus (simp (maxSteps := 9999999) (disch := omega) only [go_sem, cI_ren, hc, hl, g0, g3, g7, g4]; rfl))) | refine AWpA.skip ?_ | refine AWpA.exit ?_ | refine AWpA.ret ?_ | (with_reducible refine ARoundsA.succ ?_) | ((first | refine Runs.kt (by assumption) (fun h9 => ?_) | refine Runs.kf (by assumption) (fun h9 => ?_) | refine Runs.nt (by assumption) (fun h9 => ?_) | refine Runs.nf (by assumption) (fun h9 => ?_) | refine CondP.ht (by assumption) (fun h9 => ?_) | refine CondP.hf (by assumption) (fun h9 => ?_) | refine CondP.nt (by assumption) (fun h9 => ?_) | refine CondP.nf (by assumption) (fun h9 => ?_)); (try simp only [h9]); clear h9)); (try simp (maxSteps := 9999999) (disch := omega) only [go_sem, cI_ren, hc, hl, g0, g3, g7, g4]); (try (refine And.intro ?_ ?_; (focus (first | omega | (simp only [go_sem]; done) | (simp; done) | (simp; omega) | assumption))))) | ((first | refine CondP.split (fun hif => ?_) (fun hif => ?_) | refine Runs.part (fun hif => ?_) (fun hif => ?_)) <;> ((try simp only [hif]); (try simp only [decide_eq_true_eq, decide_eq_false_iff_not, Bool.not_eq_true, Bool.not_eq_false, Bool.not_eq_true', Bool.not_eq_false', beq_iff_eq, bne_iff_ne, bne_eq_false_iff_eq, beq_eq_false_iff_ne, ne_eq, Bool.and_eq_true, Bool.or_eq_true, Bool.or_eq_false_iff] at hif); (try (have h9 : _ = true := hif; simp only [h9])); (try (have h9 : _ = false := hif; simp only [h9])); (try simp (maxSteps := 9999999) (disch := omega) only [go_sem, cI_ren, hc, hl, g0, g3, g7, g4]); (try (refine And.intro ?_ ?_; (focus (first | omega | (simp only [go_sem]; done) | (simp; done) | (simp; omega) | assumption)))); (try (exfalso; omega; done))))))
     (apply Ret.det []; (focus (first | exact .inl rfl | exact .inr rfl)); (focus (simp (maxSteps := 9999999) (disch := omega) only [go_sem, cI_ren]; rfl)); (simp (maxSteps := 9999999) (disch := omega) only [go_sem, cI_ren]; (try (repeat' (first | done | trivial | rfl | exact leAs_rfl _ | decide | (refine And.intro ?_ ?_) | (simp; done) | omega | (simp; decide)))))))
  · have g4 : (x3 == 0) = false := by simp [h3]
    rw [if_neg h3]
    refine ⟨?_, ?_, ?_, ?_, ?_, ?_, ?_, ?_, ?_, ?_, ?_, ?_, ?_, ?_, ?_, ?_, ?_, ?_, ?_, ?_⟩ <;>
    (refine ACall.startA c71_ok Try.func71 rfl Try.ntmps71 (by kernel_rfl) res71_ok rfl rfl rfl ?_; simp (maxSteps := 9999999) (disch := omega) only [go_sem]
     (repeat' (first | refine AWpA.seq ?_ | refine AWpA.block ?_ | (with_reducible refine CondP.tt ?_) | (with_reducible refine CondP.ff ?_) | refine AWpA.condv (by simp (maxSteps := 9999999) (disch := omega) only [go_sem, cI_ren, hc, hl, g0, g3, g7, g4]; rfl) ?_ | ((first | (apply AWpA.region; (focus (simp (maxSteps := 9999999) (disch := omega) only [go_sem, cI_ren, hc, hl, g0, g3, g7, g4]; rfl))) | (apply AWpA.draw [] follows; (focus (simp (maxSteps := 9999999) (disch := omega) only [go_sem, cI_ren, hc, hl, g0, g3, g7, g4]; rfl)); (focus (simp (maxSteps := 9999999) (disch := omega) only [go_sem, cI_ren, hc, hl, g0, g3, g7, g4]; first | done | trivial)); (focus (simp (maxSteps := 9999999) (disch := omega) only [go_sem, cI_ren, hc, hl, g0, g3, g7, g4]; rfl))) | (apply TailK.go; (focus (simp (maxSteps := 9999999) (disch := omega) only [go_sem, cI_ren, hc, hl, g0, g3, g7, g4]; rfl))) | refine AWpA.skip ?_ | refine AWpA.exit ?_ | refine AWpA.ret ?_ | (with_reducible refine ARoundsA.succ ?_) | ((first | refine Runs.kt (by assumption) (fun h9 => ?_) | refine Runs.kf (by assumption) (fun h9 => ?_) | refine Runs.nt (by assumption) (fun h9 => ?_) | refine Runs.nf (by assumption) (fun h9 => ?_) | refine CondP.ht (by assumption) (fun h9 => ?_) | refine CondP.hf (by assumption) (fun h9 => ?_) | refine CondP.nt (by assumption) (fun h9 => ?_) | refine CondP.nf (by assumption) (fun h9 => ?_)); (try simp only [h9]); clear h9)); (try simp (maxSteps := 9999999) (disch := omega) only [go_sem, cI_ren, hc, hl, g0, g3, g7, g4]); (try (refine And.intro ?_ ?_; (focus (first | omega | (simp only [go_sem]; done) | (simp; done) | (simp; omega) | assumption))))) | ((first | refine CondP.split (fun hif => ?_) (fun hif => ?_) | refine Runs.part (fun hif => ?_) (fun hif => ?_)) <;> ((try simp only [hif]); (try simp only [decide_eq_true_eq, decide_eq_false_iff_not, Bool.not_eq_true, Bool.not_eq_false, Bool.not_eq_true', Bool.not_eq_false', beq_iff_eq, bne_iff_ne, bne_eq_false_iff_eq, beq_eq_false_iff_ne, ne_eq, Bool.and_eq_true, Bool.or_eq_true, Bool.or_eq_false_iff] at hif); (try (have h9 : _ = true := hif; simp only [h9])); (try (have h9 : _ = false := hif; simp only [h9])); (try simp (maxSteps := 9999999) (disch := omega) only [go_sem, cI_ren, hc, hl, g0, g3, g7, g4]); (try (refine And.intro ?_ ?_; (focus (first | omega | (simp only [go_sem]; done) | (simp; done) | (simp; omega) | assumption)))); (try (exfalso; omega; done))))))
     (apply Ret.det []; (focus (first | exact .inl rfl | exact .inr rfl)); (focus (simp (maxSteps := 9999999) (disch := omega) only [go_sem, cI_ren]; rfl)); (simp (maxSteps := 9999999) (disch := omega) only [go_sem, cI_ren]; (try (repeat' (first | done | trivial | rfl | exact leAs_rfl _ | decide | (refine And.intro ?_ ?_) | (simp; done) | omega | (simp; decide)))))))
theorem rcheck_any (l : List Int) (hl : l.length = 20) : ACall Try.prog 36 [.agg (cI l)] [] (Det (.tup [I (ck l).1, I (ck l).2]) []) := by
  have hc := cI_len l
  have ht := cI_take hl
  refine ACall.startA c36_ok Try.func36 rfl Try.ntmps36 (by kernel_rfl) res36_ok rfl rfl rfl ?_; simp (maxSteps := 9999999) (disch := omega) only [go_sem]
  (repeat' (first | refine AWpA.seq ?_ | refine AWpA.block ?_ | (with_reducible refine CondP.tt ?_) | (with_reducible refine CondP.ff ?_) | refine AWpA.condv (by simp (maxSteps := 9999999) (disch := omega) only [go_sem, cI_ren, hc, hl, ht]; rfl) ?_ | ((first | (apply AWpA.region; (focus (simp (maxSteps := 9999999) (disch := omega) only [go_sem, cI_ren, hc, hl, ht]; rfl))) | (apply AWpA.draw [] follows; (focus (simp (maxSteps := 9999999) (disch := omega) only [go_sem, cI_ren, hc, hl, ht]; rfl)); (focus (simp (maxSteps := 9999999) (disch := omega) only [go_sem, cI_ren, hc, hl, ht]; first | done | trivial)); (focus (simp (maxSteps := 9999999) (disch := omega) only [go_sem, cI_ren, hc, hl, ht]; rfl))) | (apply TailK.go; (focus (simp (maxSteps := 9999999) (disch := omega) only [go_sem, cI_ren, hc, hl, ht]; rfl))) | refine AWpA.skip ?_ | refine AWpA.exit ?_ | refine AWpA.ret ?_ | (with_reducible refine ARoundsA.succ ?_) | ((first | refine Runs.kt (by assumption) (fun h9 => ?_) | refine Runs.kf (by assumption) (fun h9 => ?_) | refine Runs.nt (by assumption) (fun h9 => ?_) | refine Runs.nf (by assumption) (fun h9 => ?_) | refine CondP.ht (by assumption) (fun h9 => ?_) | refine CondP.hf (by assumption) (fun h9 => ?_) | refine CondP.nt (by assumption) (fun h9 => ?_) | refine CondP.nf (by assumption) (fun h9 => ?_)); (try simp only [h9]); clear h9)); (try simp (maxSteps := 9999999) (disch := omega) only [go_sem, cI_ren, hc, hl, ht]); (try (refine And.intro ?_ ?_; (focus (first | omega | (simp only [go_sem]; done) | (simp; done) | (simp; omega) | assumption))))) | ((first | refine CondP.split (fun hif => ?_) (fun hif => ?_) | refine Runs.part (fun hif => ?_) (fun hif => ?_)) <;> ((try simp only [hif]); (try simp only [decide_eq_true_eq, decide_eq_false_iff_not, Bool.not_eq_true, Bool.not_eq_false, Bool.not_eq_true', Bool.not_eq_false', beq_iff_eq, bne_iff_ne, bne_eq_false_iff_eq, beq_eq_false_iff_ne, ne_eq, Bool.and_eq_true, Bool.or_eq_true, Bool.or_eq_false_iff] at hif); (try (have h9 : _ = true := hif; simp only [h9])); (try (have h9 : _ = false := hif; simp only [h9])); (try simp (maxSteps := 9999999) (disch := omega) only [go_sem, cI_ren, hc, hl, ht]); (try (refine And.intro ?_ ?_; (focus (first | omega | (simp only [go_sem]; done) | (simp; done) | (simp; omega) | assumption)))); (try (exfalso; omega; done))))))
  (apply AWpA.loopL (fun i : Nat => [(1, .ptr 0 0), (4, I i)]) (fun i => [.cells false (cI l)]) (fun i => 20 - i) (fun i => i ≤ 20 ∧ ckAt l (20 - i) i = ck l) (0) [0]; rotate_left; (focus (simp (maxSteps := 9999999) (disch := omega) only [go_sem, cI_ren]; (try (repeat' (first | done | trivial | rfl | exact leAs_rfl _ | decide | (refine And.intro ?_ ?_) | (simp; done) | omega | (simp; decide)))))); rotate_right)
  · exact ⟨Nat.zero_le _, rfl⟩
  rintro i ⟨hi20, hk⟩
  (try simp only at hi20 hk)
  by_cases hin : i < 20
  · obtain ⟨k, hk1⟩ : ∃ k, 20 - i = k + 1 := ⟨19 - i, by omega⟩
    have hk2 : 20 - (i + 1) = k := by omega
    rw [hk1] at hk
    simp only [ckAt] at hk
    have g1 : ((i : Int) < 20) = True := eq_true (by omega)
    have g3 := cI_get (l := l) (k := i) (by omega)
    have q1 := least_any l hl i hin
    have q2 := most_any l hl i hin
    by_cases hb : bad l i
    · rw [if_pos hb] at hk
      rw [← hk]
      unfold bad at hb
      by_cases h1 : l.getD i 0 < lo l i
      · have g4 : (l.getD i 0 < lo l i) = True := eq_true h1
        (try simp (maxSteps := 9999999) (disch := omega) only [go_sem])
        (repeat' (first | refine AWpA.seq ?_ | refine AWpA.block ?_ | (with_reducible refine CondP.tt ?_) | (with_reducible refine CondP.ff ?_) | refine AWpA.condv (by simp (maxSteps := 9999999) (disch := omega) only [go_sem, g1, g3, g4, cI_ren, hc, hl, ht]; rfl) ?_ | ((first | (apply AWpA.region; (focus (simp (maxSteps := 9999999) (disch := omega) only [go_sem, g1, g3, g4, cI_ren, hc, hl, ht]; rfl))) | (apply AWpA.draw [] follows; (focus (simp (maxSteps := 9999999) (disch := omega) only [go_sem, g1, g3, g4, cI_ren, hc, hl, ht]; rfl)); (focus (simp (maxSteps := 9999999) (disch := omega) only [go_sem, g1, g3, g4, cI_ren, hc, hl, ht]; first | done | trivial)); (focus (simp (maxSteps := 9999999) (disch := omega) only [go_sem, g1, g3, g4, cI_ren, hc, hl, ht]; rfl))) | (apply TailK.go; (focus (simp (maxSteps := 9999999) (disch := omega) only [go_sem, g1, g3, g4, cI_ren, hc, hl, ht]; rfl))) | refine AWpA.skip ?_ | refine AWpA.exit ?_ | refine AWpA.ret ?_ | (with_reducible refine ARoundsA.succ ?_) | ((first | refine Runs.kt (by assumption) (fun h9 => ?_) | refine Runs.kf (by assumption) (fun h9 => ?_) | refine Runs.nt (by assumption) (fun h9 => ?_) | refine Runs.nf (by assumption) (fun h9 => ?_) | refine CondP.ht (by assumption) (fun h9 => ?_) | refine CondP.hf (by assumption) (fun h9 => ?_) | refine CondP.nt (by assumption) (fun h9 => ?_) | refine CondP.nf (by assumption) (fun h9 => ?_)); (try simp only [h9]); clear h9) | ((first | (with_reducible apply CallG.plain1 [] (q1)) | (with_reducible apply CallG.draw1 [] (q1))); (focus ((try refine And.intro (leAs_of_eq rfl) ?_); (try refine And.intro (leOL_of_eq rfl) ?_); simp (maxSteps := 9999999) (disch := omega) only [go_sem, g1, g3, g4, cI_ren, hc, hl, ht]; first | done | (repeat' (first | rfl | (refine And.intro ?_ ?_))))); (focus (simp (maxSteps := 9999999) (disch := omega) only [go_sem, g1, g3, g4, cI_ren, hc, hl, ht]; rfl))) | ((first | (with_reducible apply CallG.plain1 [] (q2)) | (with_reducible apply CallG.draw1 [] (q2))); (focus ((try refine And.intro (leAs_of_eq rfl) ?_); (try refine And.intro (leOL_of_eq rfl) ?_); simp (maxSteps := 9999999) (disch := omega) only [go_sem, g1, g3, g4, cI_ren, hc, hl, ht]; first | done | (repeat' (first | rfl | (refine And.intro ?_ ?_))))); (focus (simp (maxSteps := 9999999) (disch := omega) only [go_sem, g1, g3, g4, cI_ren, hc, hl, ht]; rfl)))); (try simp (maxSteps := 9999999) (disch := omega) only [go_sem, g1, g3, g4, cI_ren, hc, hl, ht]); (try (refine And.intro ?_ ?_; (focus (first | omega | (simp only [go_sem]; done) | (simp; done) | (simp; omega) | assumption))))) | ((first | refine CondP.split (fun hif => ?_) (fun hif => ?_) | refine Runs.part (fun hif => ?_) (fun hif => ?_)) <;> ((try simp only [hif]); (try simp only [decide_eq_true_eq, decide_eq_false_iff_not, Bool.not_eq_true, Bool.not_eq_false, Bool.not_eq_true', Bool.not_eq_false', beq_iff_eq, bne_iff_ne, bne_eq_false_iff_eq, beq_eq_false_iff_ne, ne_eq, Bool.and_eq_true, Bool.or_eq_true, Bool.or_eq_false_iff] at hif); (try (have h9 : _ = true := hif; simp only [h9])); (try (have h9 : _ = false := hif; simp only [h9])); (try simp (maxSteps := 9999999) (disch := omega) only [go_sem, g1, g3, g4, cI_ren, hc, hl, ht]); (try (refine And.intro ?_ ?_; (focus (first | omega | (simp only [go_sem]; done) | (simp; done) | (simp; omega) | assumption)))); (try (exfalso; omega; done))))))
        (apply Ret.det []; (focus (first | exact .inl rfl | exact .inr rfl)); (focus (simp (maxSteps := 9999999) (disch := omega) only [go_sem, cI_ren]; rfl)); (simp (maxSteps := 9999999) (disch := omega) only [go_sem, cI_ren]; (try (repeat' (first | done | trivial | rfl | exact leAs_rfl _ | decide | (refine And.intro ?_ ?_) | (simp; done) | omega | (simp; decide))))))
      · have g4 : (l.getD i 0 < lo l i) = False := eq_false h1
        have g5 : (hi l i < l.getD i 0) = True := eq_true (by omega)
        (try simp (maxSteps := 9999999) (disch := omega) only [go_sem])
        (repeat' (first | refine AWpA.seq ?_ | refine AWpA.block ?_ | (with_reducible refine CondP.tt ?_) | (with_reducible refine CondP.ff ?_) | refine AWpA.condv (by simp (maxSteps := 9999999) (disch := omega) only [go_sem, g1, g3, g4, g5, cI_ren, hc, hl, ht]; rfl) ?_ | ((first | (apply AWpA.region; (focus (simp (maxSteps := 9999999) (disch := omega) only [go_sem, g1, g3, g4, g5, cI_ren, hc, hl, ht]; rfl))) | (apply AWpA.draw [] follows; (focus (simp (maxSteps := 9999999) (disch := omega) only [go_sem, g1, g3, g4, g5, cI_ren, hc, hl, ht]; rfl)); (focus (simp (maxSteps := 9999999) (disch := omega) only [go_sem, g1, g3, g4, g5, cI_ren, hc, hl, ht]; first | done | trivial)); (focus (simp (maxSteps := 9999999) (disch := omega) only [go_sem, g1, g3, g4, g5, cI_ren, hc, hl, ht]; rfl))) | (apply TailK.go; (focus (simp (maxSteps := 9999999) (disch := omega) only [go_sem, g1, g3, g4, g5, cI_ren, hc, hl, ht]; rfl))) | refine AWpA.skip ?_ | refine AWpA.exit ?_ | refine AWpA.ret ?_ | (with_reducible refine ARoundsA.succ ?_) | ((first | refine Runs.kt (by assumption) (fun h9 => ?_) | refine Runs.kf (by assumption) (fun h9 => ?_) | refine Runs.nt (by assumption) (fun h9 => ?_) | refine Runs.nf (by assumption) (fun h9 => ?_) | refine CondP.ht (by assumption) (fun h9 => ?_) | refine CondP.hf (by assumption) (fun h9 => ?_) | refine CondP.nt (by assumption) (fun h9 => ?_) | refine CondP.nf (by assumption) (fun h9 => ?_)); (try simp only [h9]); clear h9) | ((first | (with_reducible apply CallG.plain1 [] (q1)) | (with_reducible apply CallG.draw1 [] (q1))); (focus ((try refine And.intro (leAs_of_eq rfl) ?_); (try refine And.intro (leOL_of_eq rfl) ?_); simp (maxSteps := 9999999) (disch := omega) only [go_sem, g1, g3, g4, g5, cI_ren, hc, hl, ht]; first | done | (repeat' (first | rfl | (refine And.intro ?_ ?_))))); (focus (simp (maxSteps := 9999999) (disch := omega) only [go_sem, g1, g3, g4, g5, cI_ren, hc, hl, ht]; rfl))) | ((first | (with_reducible apply CallG.plain1 [] (q2)) | (with_reducible apply CallG.draw1 [] (q2))); (focus ((try refine And.intro (leAs_of_eq rfl) ?_); (try refine And.intro (leOL_of_eq rfl) ?_); simp (maxSteps := 9999999) (disch := omega) only [go_sem, g1, g3, g4, g5, cI_ren, hc, hl, ht]; first | done | (repeat' (first | rfl | (refine And.intro ?_ ?_))))); (focus (simp (maxSteps := 9999999) (disch := omega) only [go_sem, g1, g3, g4, g5, cI_ren, hc, hl, ht]; rfl)))); (try simp (maxSteps := 9999999) (disch := omega) only [go_sem, g1, g3, g4, g5, cI_ren, hc, hl, ht]); (try (refine And.intro ?_ ?_; (focus (first | omega | (simp only [go_sem]; done) | (simp; done) | (simp; omega) | assumption))))) | ((first | refine CondP.split (fun hif => ?_) (fun hif => ?_) | refine Runs.part (fun hif => ?_) (fun hif => ?_)) <;> ((try simp only [hif]); (try simp only [decide_eq_true_eq, decide_eq_false_iff_not, Bool.not_eq_true, Bool.not_eq_false, Bool.not_eq_true', Bool.not_eq_false', beq_iff_eq, bne_iff_ne, bne_eq_false_iff_eq, beq_eq_false_iff_ne, ne_eq, Bool.and_eq_true, Bool.or_eq_true, Bool.or_eq_false_iff] at hif); (try (have h9 : _ = true := hif; simp only [h9])); (try (have h9 : _ = false := hif; simp only [h9])); (try simp (maxSteps := 9999999) (disch := omega) only [go_sem, g1, g3, g4, g5, cI_ren, hc, hl, ht]); (try (refine And.intro ?_ ?_; (focus (first | omega | (simp only [go_sem]; done) | (simp; done) | (simp; omega) | assumption)))); (try (exfalso; omega; done))))))
        (apply Ret.det []; (focus (first | exact .inl rfl | exact .inr rfl)); (focus (simp (maxSteps := 9999999) (disch := omega) only [go_sem, cI_ren]; rfl)); (simp (maxSteps := 9999999) (disch := omega) only [go_sem, cI_ren]; (try (repeat' (first | done | trivial | rfl | exact leAs_rfl _ | decide | (refine And.intro ?_ ?_) | (simp; done) | omega | (simp; decide))))))
    · rw [if_neg hb] at hk
      unfold bad at hb
      have g4 : (l.getD i 0 < lo l i) = False := eq_false (by omega)
      have g5 : (hi l i < l.getD i 0) = False := eq_false (by omega)
      (try simp (maxSteps := 9999999) (disch := omega) only [go_sem])
      (repeat' (first | refine AWpA.seq ?_ | refine AWpA.block ?_ | (with_reducible refine CondP.tt ?_) | (with_reducible refine CondP.ff ?_) | refine AWpA.condv (by simp (maxSteps := 9999999) (disch := omega) only [go_sem, g1, g3, g4, g5, cI_ren, hc, hl, ht]; rfl) ?_ | ((first | (apply AWpA.region; (focus (simp (maxSteps := 9999999) (disch := omega) only [go_sem, g1, g3, g4, g5, cI_ren, hc, hl, ht]; rfl))) | (apply AWpA.draw [] follows; (focus (simp (maxSteps := 9999999) (disch := omega) only [go_sem, g1, g3, g4, g5, cI_ren, hc, hl, ht]; rfl)); (focus (simp (maxSteps := 9999999) (disch := omega) only [go_sem, g1, g3, g4, g5, cI_ren, hc, hl, ht]; first | done | trivial)); (focus (simp (maxSteps := 9999999) (disch := omega) only [go_sem, g1, g3, g4, g5, cI_ren, hc, hl, ht]; rfl))) | (apply TailK.go; (focus (simp (maxSteps := 9999999) (disch := omega) only [go_sem, g1, g3, g4, g5, cI_ren, hc, hl, ht]; rfl))) | refine AWpA.skip ?_ | refine AWpA.exit ?_ | refine AWpA.ret ?_ | (with_reducible refine ARoundsA.succ ?_) | ((first | refine Runs.kt (by assumption) (fun h9 => ?_) | refine Runs.kf (by assumption) (fun h9 => ?_) | refine Runs.nt (by assumption) (fun h9 => ?_) | refine Runs.nf (by assumption) (fun h9 => ?_) | refine CondP.ht (by assumption) (fun h9 => ?_) | refine CondP.hf (by assumption) (fun h9 => ?_) | refine CondP.nt (by assumption) (fun h9 => ?_) | refine CondP.nf (by assumption) (fun h9 => ?_)); (try simp only [h9]); clear h9) | ((first | (with_reducible apply CallG.plain1 [] (q1)) | (with_reducible apply CallG.draw1 [] (q1))); (focus ((try refine And.intro (leAs_of_eq rfl) ?_); (try refine And.intro (leOL_of_eq rfl) ?_); simp (maxSteps := 9999999) (disch := omega) only [go_sem, g1, g3, g4, g5, cI_ren, hc, hl, ht]; first | done | (repeat' (first | rfl | (refine And.intro ?_ ?_))))); (focus (simp (maxSteps := 9999999) (disch := omega) only [go_sem, g1, g3, g4, g5, cI_ren, hc, hl, ht]; rfl))) | ((first | (with_reducible apply CallG.plain1 [] (q2)) | (with_reducible apply CallG.draw1 [] (q2))); (focus ((try refine And.intro (leAs_of_eq rfl) ?_); (try refine And.intro (leOL_of_eq rfl) ?_); simp (maxSteps := 9999999) (disch := omega) only [go_sem, g1, g3, g4, g5, cI_ren, hc, hl, ht]; first | done | (repeat' (first | rfl | (refine And.intro ?_ ?_))))); (focus (simp (maxSteps := 9999999) (disch := omega) only [go_sem, g1, g3, g4, g5, cI_ren, hc, hl, ht]; rfl)))); (try simp (maxSteps := 9999999) (disch := omega) only [go_sem, g1, g3, g4, g5, cI_ren, hc, hl, ht]); (try (refine And.intro ?_ ?_; (focus (first | omega | (simp only [go_sem]; done) | (simp; done) | (simp; omega) | assumption))))) | ((first | refine CondP.split (fun hif => ?_) (fun hif => ?_) | refine Runs.part (fun hif => ?_) (fun hif => ?_)) <;> ((try simp only [hif]); (try simp only [decide_eq_true_eq, decide_eq_false_iff_not, Bool.not_eq_true, Bool.not_eq_false, Bool.not_eq_true', Bool.not_eq_false', beq_iff_eq, bne_iff_ne, bne_eq_false_iff_eq, beq_eq_false_iff_ne, ne_eq, Bool.and_eq_true, Bool.or_eq_true, Bool.or_eq_false_iff] at hif); (try (have h9 : _ = true := hif; simp only [h9])); (try (have h9 : _ = false := hif; simp only [h9])); (try simp (maxSteps := 9999999) (disch := omega) only [go_sem, g1, g3, g4, g5, cI_ren, hc, hl, ht]); (try (refine And.intro ?_ ?_; (focus (first | omega | (simp only [go_sem]; done) | (simp; done) | (simp; omega) | assumption)))); (try (exfalso; omega; done))))))
      (apply Back.to (i + 1) [0]; (focus ((try simp (maxSteps := 9999999) (disch := omega) only [go_sem, cI_ren]); first | done | omega)); rotate_left; (focus (simp (maxSteps := 9999999) (disch := omega) only [go_sem, cI_ren]; (try (repeat' (first | done | trivial | rfl | exact leAs_rfl _ | decide | (refine And.intro ?_ ?_) | (simp; done) | omega | (simp; decide)))))))
      exact ⟨by omega, by rw [hk2]; exact hk⟩
  · obtain rfl : i = 20 := by omega
    rw [← hk]
    (try simp (maxSteps := 9999999) (disch := omega) only [go_sem])
    (repeat' (first | refine AWpA.seq ?_ | refine AWpA.block ?_ | (with_reducible refine CondP.tt ?_) | (with_reducible refine CondP.ff ?_) | refine AWpA.condv (by simp (maxSteps := 9999999) (disch := omega) only [go_sem, cI_ren]; rfl) ?_ | ((first | (apply AWpA.region; (focus (simp (maxSteps := 9999999) (disch := omega) only [go_sem, cI_ren]; rfl))) | (apply AWpA.draw [] follows; (focus (simp (maxSteps := 9999999) (disch := omega) only [go_sem, cI_ren]; rfl)); (focus (simp (maxSteps := 9999999) (disch := omega) only [go_sem, cI_ren]; first | done | trivial)); (focus (simp (maxSteps := 9999999) (disch := omega) only [go_sem, cI_ren]; rfl))) | (apply TailK.go; (focus (simp (maxSteps := 9999999) (disch := omega) only [go_sem, cI_ren]; rfl))) | refine AWpA.skip ?_ | refine AWpA.exit ?_ | refine AWpA.ret ?_ | (with_reducible refine ARoundsA.succ ?_) | ((first | refine Runs.kt (by assumption) (fun h9 => ?_) | refine Runs.kf (by assumption) (fun h9 => ?_) | refine Runs.nt (by assumption) (fun h9 => ?_) | refine Runs.nf (by assumption) (fun h9 => ?_) | refine CondP.ht (by assumption) (fun h9 => ?_) | refine CondP.hf (by assumption) (fun h9 => ?_) | refine CondP.nt (by assumption) (fun h9 => ?_) | refine CondP.nf (by assumption) (fun h9 => ?_)); (try simp only [h9]); clear h9)); (try simp (maxSteps := 9999999) (disch := omega) only [go_sem, cI_ren]); (try (refine And.intro ?_ ?_; (focus (first | omega | (simp only [go_sem]; done) | (simp; done) | (simp; omega) | assumption))))) | ((first | refine CondP.split (fun hif => ?_) (fun hif => ?_) | refine Runs.part (fun hif => ?_) (fun hif => ?_)) <;> ((try simp only [hif]); (try simp only [decide_eq_true_eq, decide_eq_false_iff_not, Bool.not_eq_true, Bool.not_eq_false, Bool.not_eq_true', Bool.not_eq_false', beq_iff_eq, bne_iff_ne, bne_eq_false_iff_eq, beq_eq_false_iff_ne, ne_eq, Bool.and_eq_true, Bool.or_eq_true, Bool.or_eq_false_iff] at hif); (try (have h9 : _ = true := hif; simp only [h9])); (try (have h9 : _ = false := hif; simp only [h9])); (try simp (maxSteps := 9999999) (disch := omega) only [go_sem, cI_ren]); (try (refine And.intro ?_ ?_; (focus (first | omega | (simp only [go_sem]; done) | (simp; done) | (simp; omega) | assumption)))); (try (exfalso; omega; done))))))
    (apply Ret.det []; (focus (first | exact .inl rfl | exact .inr rfl)); (focus (simp (maxSteps := 9999999) (disch := omega) only [go_sem, ckAt, cI_ren]; rfl)); (simp (maxSteps := 9999999) (disch := omega) only [go_sem, ckAt, cI_ren]; (try (repeat' (first | done | trivial | rfl | exact leAs_rfl _ | decide | (refine And.intro ?_ ?_) | (simp; done) | omega | (simp; decide))))))
theorem rright_any (l : List Int) (hl : l.length = 20) : ACall Try.prog 29 [.agg (cI l)] [] (Det (Bo (right l)) []) := by
  have hc := cI_len l
  have ht := cI_take hl
  refine ACall.startA c29_ok Try.func29 rfl Try.ntmps29 (by kernel_rfl) res29_ok rfl rfl rfl ?_; simp (maxSteps := 9999999) (disch := omega) only [go_sem]
  (repeat' (first | refine AWpA.seq ?_ | refine AWpA.block ?_ | (with_reducible refine CondP.tt ?_) | (with_reducible refine CondP.ff ?_) | refine AWpA.condv (by simp (maxSteps := 9999999) (disch := omega) only [go_sem, cI_ren, hc, hl, ht]; rfl) ?_ | ((first | (apply AWpA.region; (focus (simp (maxSteps := 9999999) (disch := omega) only [go_sem, cI_ren, hc, hl, ht]; rfl))) | (apply AWpA.draw [] follows; (focus (simp (maxSteps := 9999999) (disch := omega) only [go_sem, cI_ren, hc, hl, ht]; rfl)); (focus (simp (maxSteps := 9999999) (disch := omega) only [go_sem, cI_ren, hc, hl, ht]; first | done | trivial)); (focus (simp (maxSteps := 9999999) (disch := omega) only [go_sem, cI_ren, hc, hl, ht]; rfl))) | (apply TailK.go; (focus (simp (maxSteps := 9999999) (disch := omega) only [go_sem, cI_ren, hc, hl, ht]; rfl))) | refine AWpA.skip ?_ | refine AWpA.exit ?_ | refine AWpA.ret ?_ | (with_reducible refine ARoundsA.succ ?_) | ((first | refine Runs.kt (by assumption) (fun h9 => ?_) | refine Runs.kf (by assumption) (fun h9 => ?_) | refine Runs.nt (by assumption) (fun h9 => ?_) | refine Runs.nf (by assumption) (fun h9 => ?_) | refine CondP.ht (by assumption) (fun h9 => ?_) | refine CondP.hf (by assumption) (fun h9 => ?_) | refine CondP.nt (by assumption) (fun h9 => ?_) | refine CondP.nf (by assumption) (fun h9 => ?_)); (try simp only [h9]); clear h9) | ((first | (with_reducible apply CallG.plain1 [] (rcheck_any l hl)) | (with_reducible apply CallG.draw1 [] (rcheck_any l hl))); (focus ((try refine And.intro (leAs_of_eq rfl) ?_); (try refine And.intro (leOL_of_eq rfl) ?_); simp (maxSteps := 9999999) (disch := omega) only [go_sem, cI_ren, hc, hl, ht]; first | done | (repeat' (first | rfl | (refine And.intro ?_ ?_))))); (focus (simp (maxSteps := 9999999) (disch := omega) only [go_sem, cI_ren, hc, hl, ht]; rfl)))); (try simp (maxSteps := 9999999) (disch := omega) only [go_sem, cI_ren, hc, hl, ht]); (try (refine And.intro ?_ ?_; (focus (first | omega | (simp only [go_sem]; done) | (simp; done) | (simp; omega) | assumption))))) | ((first | refine CondP.split (fun hif => ?_) (fun hif => ?_) | refine Runs.part (fun hif => ?_) (fun hif => ?_)) <;> ((try simp only [hif]); (try simp only [decide_eq_true_eq, decide_eq_false_iff_not, Bool.not_eq_true, Bool.not_eq_false, Bool.not_eq_true', Bool.not_eq_false', beq_iff_eq, bne_iff_ne, bne_eq_false_iff_eq, beq_eq_false_iff_ne, ne_eq, Bool.and_eq_true, Bool.or_eq_true, Bool.or_eq_false_iff] at hif); (try (have h9 : _ = true := hif; simp only [h9])); (try (have h9 : _ = false := hif; simp only [h9])); (try simp (maxSteps := 9999999) (disch := omega) only [go_sem, cI_ren, hc, hl, ht]); (try (refine And.intro ?_ ?_; (focus (first | omega | (simp only [go_sem]; done) | (simp; done) | (simp; omega) | assumption)))); (try (exfalso; omega; done))))))
  (apply Ret.det []; (focus (first | exact .inl rfl | exact .inr rfl)); (focus (simp (maxSteps := 9999999) (disch := omega) only [go_sem, cI_ren, right]; rfl)); (simp (maxSteps := 9999999) (disch := omega) only [go_sem, cI_ren, right]; (try (repeat' (first | done | trivial | rfl | exact leAs_rfl _ | decide | (refine And.intro ?_ ?_) | (simp; done) | omega | (simp; decide))))))
theorem cI_lit {l : List Int} (hl : l.length = 20) : cI l = [I (l.getD 0 0), I (l.getD 1 0), I (l.getD 2 0), I (l.getD 3 0), I (l.getD 4 0), I (l.getD 5 0), I (l.getD 6 0), I (l.getD 7 0), I (l.getD 8 0), I (l.getD 9 0), I (l.getD 10 0), I (l.getD 11 0), I (l.getD 12 0), I (l.getD 13 0), I (l.getD 14 0), I (l.getD 15 0), I (l.getD 16 0), I (l.getD 17 0), I (l.getD 18 0), I (l.getD 19 0)] := by
  match l, hl with
  | [c0, c1, c2, c3, c4, c5, c6, c7, c8, c9, c10, c11, c12, c13, c14, c15, c16, c17, c18, c19], _ => unfold cI; rfl
theorem lawof_any (l : List Int) (hl : l.length = 20) : ACall Try.prog 30 [.agg (cI l)] [] (Det (.agg (cI l)) []) := by
  have hc := cI_len l
  have ht := cI_take hl
  have e := cI_lit hl
  refine ACall.startA c30_ok Try.func30 rfl Try.ntmps30 (by kernel_rfl) res30_ok rfl rfl rfl ?_; simp (maxSteps := 9999999) (disch := omega) only [go_sem]
  (repeat' (first | refine AWpA.seq ?_ | refine AWpA.block ?_ | (with_reducible refine CondP.tt ?_) | (with_reducible refine CondP.ff ?_) | refine AWpA.condv (by simp (maxSteps := 9999999) (disch := omega) only [go_sem, cI_ren, hc, hl, cI_get]; rfl) ?_ | ((first | (apply AWpA.region; (focus (simp (maxSteps := 9999999) (disch := omega) only [go_sem, cI_ren, hc, hl, cI_get]; rfl))) | (apply AWpA.draw [] follows; (focus (simp (maxSteps := 9999999) (disch := omega) only [go_sem, cI_ren, hc, hl, cI_get]; rfl)); (focus (simp (maxSteps := 9999999) (disch := omega) only [go_sem, cI_ren, hc, hl, cI_get]; first | done | trivial)); (focus (simp (maxSteps := 9999999) (disch := omega) only [go_sem, cI_ren, hc, hl, cI_get]; rfl))) | (apply TailK.go; (focus (simp (maxSteps := 9999999) (disch := omega) only [go_sem, cI_ren, hc, hl, cI_get]; rfl))) | refine AWpA.skip ?_ | refine AWpA.exit ?_ | refine AWpA.ret ?_ | (with_reducible refine ARoundsA.succ ?_) | ((first | refine Runs.kt (by assumption) (fun h9 => ?_) | refine Runs.kf (by assumption) (fun h9 => ?_) | refine Runs.nt (by assumption) (fun h9 => ?_) | refine Runs.nf (by assumption) (fun h9 => ?_) | refine CondP.ht (by assumption) (fun h9 => ?_) | refine CondP.hf (by assumption) (fun h9 => ?_) | refine CondP.nt (by assumption) (fun h9 => ?_) | refine CondP.nf (by assumption) (fun h9 => ?_)); (try simp only [h9]); clear h9)); (try simp (maxSteps := 9999999) (disch := omega) only [go_sem, cI_ren, hc, hl, cI_get]); (try (refine And.intro ?_ ?_; (focus (first | omega | (simp only [go_sem]; done) | (simp; done) | (simp; omega) | assumption))))) | ((first | refine CondP.split (fun hif => ?_) (fun hif => ?_) | refine Runs.part (fun hif => ?_) (fun hif => ?_)) <;> ((try simp only [hif]); (try simp only [decide_eq_true_eq, decide_eq_false_iff_not, Bool.not_eq_true, Bool.not_eq_false, Bool.not_eq_true', Bool.not_eq_false', beq_iff_eq, bne_iff_ne, bne_eq_false_iff_eq, beq_eq_false_iff_ne, ne_eq, Bool.and_eq_true, Bool.or_eq_true, Bool.or_eq_false_iff] at hif); (try (have h9 : _ = true := hif; simp only [h9])); (try (have h9 : _ = false := hif; simp only [h9])); (try simp (maxSteps := 9999999) (disch := omega) only [go_sem, cI_ren, hc, hl, cI_get]); (try (refine And.intro ?_ ?_; (focus (first | omega | (simp only [go_sem]; done) | (simp; done) | (simp; omega) | assumption)))); (try (exfalso; omega; done))))))
  rw [e]
  (apply Ret.det []; (focus (first | exact .inl rfl | exact .inr rfl)); (focus (simp (maxSteps := 9999999) (disch := omega) only [go_sem]; rfl)); (simp (maxSteps := 9999999) (disch := omega) only [go_sem]; (try (repeat' (first | done | trivial | rfl | exact leAs_rfl _ | decide | (refine And.intro ?_ ?_) | (simp; done) | omega | (simp; decide))))))
end Go.Proofs.Ytkdikmfnchmphaa
