/- Contract: a message's bytes, as the document says. -/
import Derived.Test.YtopidfkmligljaaGreatEg5
import Derived.Test.YtopidfkmligljaaGreatWt1
import Derived.Test.YtopidfkmligljaaGreatAe8
import Derived.Test.YtopidfkmligljaaGreatAb
namespace Go.Proofs.YtopidfkmligljaaGreat
noncomputable section
set_option linter.unusedSimpArgs false
set_option linter.unusedVariables false
set_option maxHeartbeats 4000000
open Go Go.Am Go.RowKit
set_option maxRecDepth 100000
set_option maxHeartbeats 8000000
/- quidnunc/quidnuncref16.number -/
def c57_1 : ACode := .region false [⟨some 4, .move, [.c (.val (.slice none 0 0))], none⟩] [] [] [0, 1] false [] []
def c57_3 : ACode := .region false [⟨some 8, .move, [.t 0], none⟩,
  ⟨some 9, .move, [.t 1], none⟩,
  ⟨some 10, .call 123, [.t 8, .t 9], none⟩,
  ⟨some 7, .move, [.t 10], none⟩,
  ⟨some 11, .ext 0, [.t 7], none⟩,
  ⟨some 12, .ext 1, [.t 7], none⟩,
  ⟨some 5, .move, [.t 11], none⟩,
  ⟨some 6, .move, [.t 12], none⟩] [] [] [5] true [] []
def c57_5 : ACode := .region false [⟨some 13, .move, [.t 5], none⟩,
  ⟨some 4, .move, [.t 13], none⟩] [] [] [4] false [] []
def c57_4 : ACode := .seq c57_5 .ret
def c57_2 : ACode := .seq c57_3 c57_4
def c57_0 : ACode := .seq c57_1 c57_2
def code57 : Code := (Tryz.f57.body).getD .skip
theorem c57_ok : compC Tryz.prog 14 code57 = some (strip c57_0) := by kernel_rfl
theorem res57_ok : Tryz.f57.results.toList.mapM (resC Tryz.prog) = some [(4, none)] := by kernel_rfl
/- quidnunc/quidnuncref16.markBytes -/
def c58_1 : ACode := .region false [⟨some 1, .box 0, [.t 0], none⟩,
  ⟨some 2, .move, [.c (.val (.slice none 0 0))], none⟩] [] [] [1] true [] []
def c58_3 : ACode := .region true [⟨some 4, .addr 0, [.t 1], none⟩,
  ⟨some 5, .addr 0, [.t 4], none⟩,
  ⟨some 6, .load false 1, [.t 5], none⟩,
  ⟨some 7, .conv .u64, [.t 6], none⟩,
  ⟨some 8, .call 57, [.t 7, .c (.val (.int .i64 4))], none⟩,
  ⟨some 9, .addr 0, [.t 1], none⟩,
  ⟨some 10, .addr 1, [.t 9], none⟩,
  ⟨some 11, .load false 1, [.t 10], none⟩,
  ⟨some 12, .conv .u8, [.t 11], none⟩,
  ⟨some 13, .addr 2, [.t 1], none⟩,
  ⟨some 14, .load false 1, [.t 13], none⟩,
  ⟨some 15, .lenStr, [.t 14], none⟩,
  ⟨some 16, .conv .u8, [.t 15], none⟩,
  ⟨some 17, .buildSl 1 2 [(.int .u8 0)] [(0, 1), (1, 1)], [.t 12, .t 16], none⟩,
  ⟨some 18, .append 1 1 false, [.t 8, .t 17], none⟩,
  ⟨some 3, .move, [.t 18], none⟩] [] [(4, 13)] [1, 3] true [] []
def c58_5 : ACode := .region false [⟨some 19, .move, [.t 3], none⟩,
  ⟨some 20, .addr 2, [.t 1], none⟩,
  ⟨some 21, .load false 1, [.t 20], none⟩,
  ⟨some 22, .toBytes, [.t 21], none⟩,
  ⟨some 23, .append 1 1 false, [.t 19, .t 22], none⟩,
  ⟨some 2, .move, [.t 23], none⟩] [] [] [2] true [] []
def c58_4 : ACode := .seq c58_5 .ret
def c58_2 : ACode := .seq c58_3 c58_4
def c58_0 : ACode := .seq c58_1 c58_2
def code58 : Code := (Tryz.f58.body).getD .skip
theorem c58_ok : compC Tryz.prog 24 code58 = some (strip c58_0) := by kernel_rfl
theorem res58_ok : Tryz.f58.results.toList.mapM (resC Tryz.prog) = some [(2, none)] := by kernel_rfl
/- quidnunc/quidnuncref16.Bytes -/
def c20_1 : ACode := .region false [⟨some 1, .box 0, [.t 0], none⟩,
  ⟨some 2, .move, [.c (.val (.slice none 0 0))], none⟩] [] [] [1] true [] []
def c20_3 : ACode := .region false [⟨some 7, .buildSl 1 0 [(.int .u8 0)] [], [], none⟩,
  ⟨some 3, .move, [.t 7], none⟩] [] [] [1, 3] true [] []
def c20_6 : ACode := .region false [⟨some 8, .addr 0, [.t 1], none⟩,
  ⟨some 9, .load false 1, [.t 8], none⟩,
  ⟨some 10, .call 28, [.t 9, .c (.val (.int .i64 0))], none⟩] [] [] [1, 3, 10] true [] []
def c20_8 : ACode := .region false [⟨some 11, .move, [.t 3], none⟩,
  ⟨some 12, .addr 1, [.t 1], none⟩,
  ⟨some 13, .load false 1, [.t 12], none⟩,
  ⟨some 14, .conv .u8, [.t 13], none⟩,
  ⟨some 15, .addr 2, [.t 1], none⟩,
  ⟨some 16, .load false 1, [.t 15], none⟩,
  ⟨some 17, .conv .u8, [.t 16], none⟩,
  ⟨some 18, .buildSl 1 2 [(.int .u8 0)] [(0, 1), (1, 1)], [.t 14, .t 17], none⟩,
  ⟨some 19, .append 1 1 false, [.t 11, .t 18], none⟩,
  ⟨some 3, .move, [.t 19], none⟩] [] [] [1, 3] true [] []
def c20_7 : ACode := .cond (.t 10) c20_8 .skip
def c20_5 : ACode := .seq c20_6 c20_7
def c20_11 : ACode := .region false [⟨some 20, .addr 0, [.t 1], none⟩,
  ⟨some 21, .load false 1, [.t 20], none⟩,
  ⟨some 22, .call 28, [.t 21, .c (.val (.int .i64 2))], none⟩,
  ⟨some 23, .move, [.t 22], none⟩,
  ⟨some 24, .addr 3, [.t 1], some (some 23, true)⟩,
  ⟨some 25, .load false 1, [.t 24], some (some 23, true)⟩,
  ⟨some 26, .pick, [.t 23, .t 25, .c (.val (.bool false))], none⟩] [] [] [1, 3, 26] true [] []
def c20_13 : ACode := .region false [⟨some 27, .move, [.t 3], none⟩,
  ⟨some 28, .buildSl 1 1 [(.int .u8 0)] [(0, 1)], [.c (.val (.int .u8 1))], none⟩,
  ⟨some 29, .append 1 1 false, [.t 27, .t 28], none⟩,
  ⟨some 3, .move, [.t 29], none⟩] [] [] [1, 3] true [] []
def c20_15 : ACode := .region false [⟨some 30, .addr 0, [.t 1], none⟩,
  ⟨some 31, .load false 1, [.t 30], none⟩,
  ⟨some 32, .call 28, [.t 31, .c (.val (.int .i64 2))], none⟩] [] [] [1, 3, 32] true [] []
def c20_17 : ACode := .region false [⟨some 33, .move, [.t 3], none⟩,
  ⟨some 34, .buildSl 1 1 [(.int .u8 0)] [(0, 1)], [.c (.val (.int .u8 0))], none⟩,
  ⟨some 35, .append 1 1 false, [.t 33, .t 34], none⟩,
  ⟨some 3, .move, [.t 35], none⟩] [] [] [1, 3] true [] []
def c20_16 : ACode := .cond (.t 32) c20_17 .skip
def c20_14 : ACode := .seq c20_15 c20_16
def c20_12 : ACode := .cond (.t 26) c20_13 c20_14
def c20_10 : ACode := .seq c20_11 c20_12
def c20_20 : ACode := .region false [⟨some 36, .addr 0, [.t 1], none⟩,
  ⟨some 37, .load false 1, [.t 36], none⟩,
  ⟨some 38, .call 28, [.t 37, .c (.val (.int .i64 3))], none⟩] [] [] [1, 3, 38] true [] []
def c20_23 : ACode := .region false [⟨some 39, .move, [.t 3], none⟩,
  ⟨some 40, .addr 4, [.t 1], none⟩,
  ⟨some 41, .load false 1, [.t 40], none⟩,
  ⟨some 42, .len, [.t 41], none⟩,
  ⟨some 43, .conv .u8, [.t 42], none⟩,
  ⟨some 44, .buildSl 1 1 [(.int .u8 0)] [(0, 1)], [.t 43], none⟩,
  ⟨some 45, .append 1 1 false, [.t 39, .t 44], none⟩,
  ⟨some 3, .move, [.t 45], none⟩] [] [] [1, 3] true [] []
def c20_25 : ACode := .region false [⟨some 4, .move, [.c (.val (.int .i64 0))], none⟩] [] [] [1, 3, 4] false [] []
def c20_30 : ACode := .region false [⟨some 46, .move, [.t 4], none⟩,
  ⟨some 47, .addr 4, [.t 1], none⟩,
  ⟨some 48, .load false 1, [.t 47], none⟩,
  ⟨some 49, .len, [.t 48], none⟩,
  ⟨some 50, .bin .lss, [.t 46, .t 49], none⟩] [] [] [1, 3, 4, 50] false [] []
def c20_31 : ACode := .cond (.t 50) .skip (.exit 0)
def c20_29 : ACode := .seq c20_30 c20_31
def c20_34 : ACode := .region false [⟨some 53, .move, [.t 3], none⟩,
  ⟨some 54, .addr 4, [.t 1], none⟩,
  ⟨some 55, .load false 1, [.t 54], none⟩,
  ⟨some 56, .move, [.t 4], none⟩,
  ⟨some 57, .ixS 1, [.t 55, .t 56], none⟩,
  ⟨some 58, .load false 1, [.t 57], none⟩,
  ⟨some 59, .conv .u8, [.t 58], none⟩,
  ⟨some 60, .buildSl 1 1 [(.int .u8 0)] [(0, 1)], [.t 59], none⟩,
  ⟨some 61, .append 1 1 false, [.t 53, .t 60], none⟩,
  ⟨some 3, .move, [.t 61], none⟩] [] [] [1, 3, 4] true [] []
def c20_33 : ACode := .block 1 c20_34
def c20_35 : ACode := .region false [⟨some 51, .move, [.t 4], none⟩,
  ⟨some 52, .bin .add, [.t 51, .c (.val (.int .i64 1))], none⟩,
  ⟨some 4, .move, [.t 52], none⟩] [] [] [1, 3, 4] false [] []
def c20_32 : ACode := .seq c20_33 c20_35
def c20_28 : ACode := .seq c20_29 c20_32
def c20_27 : ACode := .loop c20_28
def c20_26 : ACode := .block 0 c20_27
def c20_24 : ACode := .seq c20_25 c20_26
def c20_22 : ACode := .seq c20_23 c20_24
def c20_21 : ACode := .cond (.t 38) c20_22 .skip
def c20_19 : ACode := .seq c20_20 c20_21
def c20_38 : ACode := .region false [⟨some 62, .addr 0, [.t 1], none⟩,
  ⟨some 63, .load false 1, [.t 62], none⟩,
  ⟨some 64, .call 28, [.t 63, .c (.val (.int .i64 4))], none⟩] [] [] [1, 3, 64] true [] []
def c20_40 : ACode := .region false [⟨some 65, .move, [.t 3], none⟩,
  ⟨some 66, .addr 5, [.t 1], none⟩,
  ⟨some 67, .load false 1, [.t 66], none⟩,
  ⟨some 68, .conv .u64, [.t 67], none⟩,
  ⟨some 69, .call 57, [.t 68, .c (.val (.int .i64 4))], none⟩,
  ⟨some 70, .append 1 1 false, [.t 65, .t 69], none⟩,
  ⟨some 3, .move, [.t 70], none⟩] [] [] [1, 3] true [] []
def c20_39 : ACode := .cond (.t 64) c20_40 .skip
def c20_37 : ACode := .seq c20_38 c20_39
def c20_43 : ACode := .region false [⟨some 71, .addr 0, [.t 1], none⟩,
  ⟨some 72, .load false 1, [.t 71], none⟩,
  ⟨some 73, .call 28, [.t 72, .c (.val (.int .i64 5))], none⟩] [] [] [1, 3, 73] true [] []
def c20_45 : ACode := .region false [⟨some 74, .move, [.t 3], none⟩,
  ⟨some 75, .addr 6, [.t 1], none⟩,
  ⟨some 76, .load false 1, [.t 75], none⟩,
  ⟨some 77, .call 57, [.t 76, .c (.val (.int .i64 8))], none⟩,
  ⟨some 78, .append 1 1 false, [.t 74, .t 77], none⟩,
  ⟨some 3, .move, [.t 78], none⟩] [] [] [1, 3] true [] []
def c20_44 : ACode := .cond (.t 73) c20_45 .skip
def c20_42 : ACode := .seq c20_43 c20_44
def c20_48 : ACode := .region false [⟨some 79, .addr 0, [.t 1], none⟩,
  ⟨some 80, .load false 1, [.t 79], none⟩,
  ⟨some 81, .call 28, [.t 80, .c (.val (.int .i64 6))], none⟩] [] [] [1, 3, 81] true [] []
def c20_50 : ACode := .region false [⟨some 82, .move, [.t 3], none⟩,
  ⟨some 83, .addr 7, [.t 1], none⟩,
  ⟨some 84, .load true 3, [.t 83], none⟩,
  ⟨some 85, .call 58, [.t 84], none⟩,
  ⟨some 86, .append 1 1 false, [.t 82, .t 85], none⟩,
  ⟨some 3, .move, [.t 86], none⟩] [] [] [1, 3] true [] []
def c20_49 : ACode := .cond (.t 81) c20_50 .skip
def c20_47 : ACode := .seq c20_48 c20_49
def c20_53 : ACode := .region false [⟨some 87, .addr 0, [.t 1], none⟩,
  ⟨some 88, .load false 1, [.t 87], none⟩,
  ⟨some 89, .call 28, [.t 88, .c (.val (.int .i64 7))], none⟩] [] [] [1, 3, 89] true [] []
def c20_56 : ACode := .region false [⟨some 90, .move, [.t 3], none⟩,
  ⟨some 91, .addr 10, [.t 1], none⟩,
  ⟨some 92, .load false 1, [.t 91], none⟩,
  ⟨some 93, .len, [.t 92], none⟩,
  ⟨some 94, .conv .u8, [.t 93], none⟩,
  ⟨some 95, .buildSl 1 1 [(.int .u8 0)] [(0, 1)], [.t 94], none⟩,
  ⟨some 96, .append 1 1 false, [.t 90, .t 95], none⟩,
  ⟨some 3, .move, [.t 96], none⟩] [] [] [1, 3] true [] []
def c20_58 : ACode := .region false [⟨some 5, .move, [.c (.val (.int .i64 0))], none⟩] [] [] [1, 3, 5] false [] []
def c20_63 : ACode := .region false [⟨some 97, .move, [.t 5], none⟩,
  ⟨some 98, .addr 10, [.t 1], none⟩,
  ⟨some 99, .load false 1, [.t 98], none⟩,
  ⟨some 100, .len, [.t 99], none⟩,
  ⟨some 101, .bin .lss, [.t 97, .t 100], none⟩] [] [] [1, 3, 5, 101] false [] []
def c20_64 : ACode := .cond (.t 101) .skip (.exit 2)
def c20_62 : ACode := .seq c20_63 c20_64
def c20_67 : ACode := .region false [⟨some 104, .move, [.t 3], none⟩,
  ⟨some 105, .addr 10, [.t 1], none⟩,
  ⟨some 106, .load false 1, [.t 105], none⟩,
  ⟨some 107, .move, [.t 5], none⟩,
  ⟨some 108, .ixS 3, [.t 106, .t 107], none⟩,
  ⟨some 109, .load true 3, [.t 108], none⟩,
  ⟨some 110, .call 58, [.t 109], none⟩,
  ⟨some 111, .append 1 1 false, [.t 104, .t 110], none⟩,
  ⟨some 3, .move, [.t 111], none⟩] [] [] [1, 3, 5] true [] []
def c20_66 : ACode := .block 3 c20_67
def c20_68 : ACode := .region false [⟨some 102, .move, [.t 5], none⟩,
  ⟨some 103, .bin .add, [.t 102, .c (.val (.int .i64 1))], none⟩,
  ⟨some 5, .move, [.t 103], none⟩] [] [] [1, 3, 5] false [] []
def c20_65 : ACode := .seq c20_66 c20_68
def c20_61 : ACode := .seq c20_62 c20_65
def c20_60 : ACode := .loop c20_61
def c20_59 : ACode := .block 2 c20_60
def c20_57 : ACode := .seq c20_58 c20_59
def c20_55 : ACode := .seq c20_56 c20_57
def c20_54 : ACode := .cond (.t 89) c20_55 .skip
def c20_52 : ACode := .seq c20_53 c20_54
def c20_71 : ACode := .region false [⟨some 112, .addr 0, [.t 1], none⟩,
  ⟨some 113, .load false 1, [.t 112], none⟩,
  ⟨some 114, .call 28, [.t 113, .c (.val (.int .i64 8))], none⟩] [] [] [1, 3, 114] true [] []
def c20_74 : ACode := .region false [⟨some 115, .move, [.t 3], none⟩,
  ⟨some 116, .addr 11, [.t 1], none⟩,
  ⟨some 117, .load false 1, [.t 116], none⟩,
  ⟨some 118, .len, [.t 117], none⟩,
  ⟨some 119, .conv .u8, [.t 118], none⟩,
  ⟨some 120, .buildSl 1 1 [(.int .u8 0)] [(0, 1)], [.t 119], none⟩,
  ⟨some 121, .append 1 1 false, [.t 115, .t 120], none⟩,
  ⟨some 3, .move, [.t 121], none⟩] [] [] [1, 3] true [] []
def c20_76 : ACode := .region false [⟨some 6, .move, [.c (.val (.int .i64 0))], none⟩] [] [] [1, 3, 6] false [] []
def c20_81 : ACode := .region false [⟨some 122, .move, [.t 6], none⟩,
  ⟨some 123, .addr 11, [.t 1], none⟩,
  ⟨some 124, .load false 1, [.t 123], none⟩,
  ⟨some 125, .len, [.t 124], none⟩,
  ⟨some 126, .bin .lss, [.t 122, .t 125], none⟩] [] [] [1, 3, 6, 126] false [] []
def c20_82 : ACode := .cond (.t 126) .skip (.exit 4)
def c20_80 : ACode := .seq c20_81 c20_82
def c20_85 : ACode := .region false [⟨some 129, .move, [.t 3], none⟩,
  ⟨some 130, .addr 11, [.t 1], none⟩,
  ⟨some 131, .load false 1, [.t 130], none⟩,
  ⟨some 132, .move, [.t 6], none⟩,
  ⟨some 133, .ixS 9, [.t 131, .t 132], none⟩,
  ⟨some 134, .load true 9, [.t 133], none⟩,
  ⟨some 135, .call 59, [.t 134], none⟩,
  ⟨some 136, .append 1 1 false, [.t 129, .t 135], none⟩,
  ⟨some 3, .move, [.t 136], none⟩] [] [] [1, 3, 6] true [] []
def c20_84 : ACode := .block 5 c20_85
def c20_86 : ACode := .region false [⟨some 127, .move, [.t 6], none⟩,
  ⟨some 128, .bin .add, [.t 127, .c (.val (.int .i64 1))], none⟩,
  ⟨some 6, .move, [.t 128], none⟩] [] [] [1, 3, 6] false [] []
def c20_83 : ACode := .seq c20_84 c20_86
def c20_79 : ACode := .seq c20_80 c20_83
def c20_78 : ACode := .loop c20_79
def c20_77 : ACode := .block 4 c20_78
def c20_75 : ACode := .seq c20_76 c20_77
def c20_73 : ACode := .seq c20_74 c20_75
def c20_72 : ACode := .cond (.t 114) c20_73 .skip
def c20_70 : ACode := .seq c20_71 c20_72
def c20_88 : ACode := .region false [⟨some 137, .move, [.t 3], none⟩,
  ⟨some 2, .move, [.t 137], none⟩] [] [] [2] false [] []
def c20_87 : ACode := .seq c20_88 .ret
def c20_69 : ACode := .seq c20_70 c20_87
def c20_51 : ACode := .seq c20_52 c20_69
def c20_46 : ACode := .seq c20_47 c20_51
def c20_41 : ACode := .seq c20_42 c20_46
def c20_36 : ACode := .seq c20_37 c20_41
def c20_18 : ACode := .seq c20_19 c20_36
def c20_9 : ACode := .seq c20_10 c20_18
def c20_4 : ACode := .seq c20_5 c20_9
def c20_2 : ACode := .seq c20_3 c20_4
def c20_0 : ACode := .seq c20_1 c20_2
def code20 : Code := (Tryz.f20.body).getD .skip
theorem c20_ok : compC Tryz.prog 138 code20 = some (strip c20_0) := by kernel_rfl
theorem res20_ok : Tryz.f20.results.toList.mapM (resC Tryz.prog) = some [(2, none)] := by kernel_rfl
theorem num16_any (v : Int) (h0 : 0 ≤ v ∧ v < 18446744073709551616) (n : Nat) (hn : n ≤ 8) : ACall Tryz.prog 57 [.val (.int .u64 v), I (n : Int)] [] (Det (.sl 0 0 (leI v n).length 1 none) [.cells false (bA (leI v n))]) := by
  have hr := refnum_any v h0 n hn
  have hl := leI_len v n
  generalize leI v n = m at *
  generalize (v / 256 ^ n == 0) = q at *
  refine ACall.startA c57_ok Tryz.func57 rfl Tryz.ntmps57 (by kernel_rfl) res57_ok rfl rfl rfl ?_; simp (maxSteps := 9999999) (disch := omega) only [go_sem]
  (have k9 := k0; have a1 := Arm.mk [] hr; refine goK ?_; (try clear k9); (try clear a1))
  (have k9 := And.intro @hl (k0); exact Ret.dk [_])
theorem leI_1 {v : Int} (h : 0 ≤ v ∧ v < 256) : leI v 1 = [v] := by
  have h1 : byteI v 0 = v := by
    rw [show (0 : Nat) = 8 * 0 from rfl, byteI_eq v 0 (by decide)]
    simp
    omega
  simp [leI, h1]
theorem mkbytes_any (m : Mk) (hm : mkF m) : ACall Tryz.prog 58 [MkG m] [] (Det (.sl 0 0 (mkB m).length 1 none) [.cells false (bA (mkB m))]) := by
  obtain ⟨⟨m1, m2⟩, ⟨m3, m4⟩, m5⟩ := hm
  have b4 : m.act.c < 4294967296 := by
    rw [show (4 : Int) = ((4 : Nat) : Int) from rfl, fitsI_eq] at m1
    simp only [beq_iff_eq] at m1
    omega
  have b1 : m.act.s < 256 := by
    rw [show (1 : Int) = ((1 : Nat) : Int) from rfl, fitsI_eq] at m3
    simp only [beq_iff_eq] at m3
    omega
  have hB : mkB m = leI m.act.c 4 ++ [m.act.s, (m.key.size : Int)] ++ txI m.key := by
    unfold mkB
    rw [leI_1 ⟨m4, b1⟩, txB]
    simp only [List.append_assoc, List.cons_append, List.nil_append]
  rw [hB]
  have c1 := num16_any m.act.c (by omega) 4 (by decide)
  have w1 := wrap_u8 m4 (by omega)
  have w2 : IntKind.u8.wrap (m.key.size : Int) = (m.key.size : Int) := wrap_u8 (by omega) (by omega)
  have hx := txI_str m.key
  have hl := txI_len m.key
  have n4 := leI_len m.act.c 4
  have h4 : (txI m.key).take m.key.size = txI m.key := List.take_of_length_le (by omega)
  generalize leI m.act.c 4 = B at *
  obtain ⟨⟨ac, ax⟩, key⟩ := m
  simp only at *
  refine ACall.startA c58_ok Tryz.func58 rfl Tryz.ntmps58 (by kernel_rfl) res58_ok rfl rfl rfl ?_; simp (maxSteps := 9999999) (disch := omega) only [go_sem]
  (have k9 := And.intro @w1 (And.intro @w2 (And.intro @hx (And.intro @hl (And.intro @h4 (And.intro @n4 (k0)))))); have a1 := Arm.mk [] c1; (repeat' (first | refine goM ?_ | ((first | refine CondP.split (fun hif => ?_) (fun hif => ?_) | refine Runs.part (fun hif => ?_) (fun hif => ?_)) <;> ((try simp only [BL] at hif); first | (exfalso; omega; done) | refine goI ?_)))); (all_goals (try clear k9)); (all_goals (try clear a1)))
  have he : (List.take 4 B ++ [ax] ++ [(key.size : Int)]).take 6 ++ txI key = B ++ [ax, (key.size : Int)] ++ txI key := by
    rw [List.take_of_length_le (by omega : B.length ≤ 4), List.take_of_length_le (by simp; omega)]
    simp only [List.append_assoc, List.cons_append, List.nil_append]
  have hn : (B ++ [ax, (key.size : Int)] ++ txI key).length = 6 + key.size := by
    simp only [List.length_append, List.length_cons, List.length_nil, hl, n4]
  rw [he]
  (have k9 := And.intro @hl (And.intro @n4 (k0)); exact Ret.dk [352])
end
end Go.Proofs.YtopidfkmligljaaGreat
