/- The walk of JournalKeeps. -/
import Derived.Test.YthbpdmlbfnjoiaaJd0
namespace Go.Crc
set_option linter.unusedSimpArgs false
set_option linter.unusedVariables false
set_option maxHeartbeats 4000000
open Go Go.Am Go.RowKit
end Go.Crc
namespace Go.Proofs.Ythbpdmlbfnjoiaa
open Go Go.Am Go.RowKit Go.ChangeShapes Go.WideShapes Go.ChangeAt Go.Crc
set_option linter.unusedSimpArgs false
set_option maxHeartbeats 4000000
set_option maxRecDepth 100000
/- quidnunc/quidnunclaw07.JournalKeeps -/
noncomputable def c12_1 : ACode := .region false [⟨some 8, .move, [.c (.val (.bool false))], none⟩] [] [] [0, 1, 2, 3] false [] []
noncomputable def c12_4 : ACode := .region false [⟨some 22, .call 24, [], none⟩,
  ⟨some 23, .un .not, [.t 22], none⟩,
  ⟨some 24, .move, [.t 23], none⟩,
  ⟨some 25, .move, [.t 0], some (some 24, false)⟩,
  ⟨some 26, .call 31, [.t 25], some (some 24, false)⟩,
  ⟨some 27, .un .not, [.t 26], some (some 24, false)⟩,
  ⟨some 28, .pick, [.t 24, .c (.val (.bool true)), .t 27], none⟩,
  ⟨some 29, .move, [.t 28], none⟩,
  ⟨some 30, .move, [.t 3], some (some 29, false)⟩,
  ⟨some 31, .len, [.t 30], some (some 29, false)⟩,
  ⟨some 32, .bin .gtr, [.t 31, .c (.val (.int .i64 600))], some (some 29, false)⟩,
  ⟨some 33, .pick, [.t 29, .c (.val (.bool true)), .t 32], none⟩] [] [] [0, 1, 2, 3, 33] true [] []
noncomputable def c12_7 : ACode := .region false [⟨some 34, .call 24, [], none⟩,
  ⟨some 8, .move, [.t 34], none⟩] [] [] [8] true [] []
noncomputable def c12_6 : ACode := .seq c12_7 .ret
noncomputable def c12_5 : ACode := .cond (.t 33) c12_6 .skip
noncomputable def c12_3 : ACode := .seq c12_4 c12_5
noncomputable def c12_9 : ACode := .region false [⟨some 35, .call 32, [], none⟩,
  ⟨some 9, .move, [.t 35], none⟩] [] [] [0, 1, 2, 3, 9] true [] []
noncomputable def c12_11 : ACode := .region false [⟨some 37, .move, [.t 9], none⟩,
  ⟨some 38, .call 35, [.t 37], none⟩,
  ⟨some 36, .move, [.t 38], none⟩,
  ⟨some 39, .ext 0, [.t 36], none⟩,
  ⟨some 40, .ext 1, [.t 36], none⟩,
  ⟨some 41, .ext 2, [.t 36], none⟩,
  ⟨some 10, .move, [.t 39], none⟩,
  ⟨some 11, .move, [.t 40], none⟩,
  ⟨some 12, .move, [.t 41], none⟩] [] [] [0, 1, 2, 3, 9, 10, 11, 12] true [] []
noncomputable def c12_14 : ACode := .region false [⟨some 42, .move, [.t 12], none⟩,
  ⟨some 43, .bin .neq, [.t 42, .c (.val (.int .i64 0))], none⟩,
  ⟨some 44, .move, [.t 43], none⟩,
  ⟨some 45, .move, [.t 10], some (some 44, false)⟩,
  ⟨some 46, .eqP false, [.t 45, .c (.val (.pointer none))], some (some 44, false)⟩,
  ⟨some 47, .pick, [.t 44, .c (.val (.bool true)), .t 46], none⟩,
  ⟨some 48, .move, [.t 47], none⟩,
  ⟨some 49, .move, [.t 11], some (some 48, false)⟩,
  ⟨some 50, .len, [.t 49], some (some 48, false)⟩,
  ⟨some 51, .bin .neq, [.t 50, .c (.val (.int .i64 0))], some (some 48, false)⟩,
  ⟨some 52, .pick, [.t 48, .c (.val (.bool true)), .t 51], none⟩] [] [] [0, 1, 2, 3, 9, 10, 52] false [] []
noncomputable def c12_17 : ACode := .region false [⟨some 8, .move, [.c (.val (.bool false))], none⟩] [] [] [8] false [] []
noncomputable def c12_16 : ACode := .seq c12_17 .ret
noncomputable def c12_15 : ACode := .cond (.t 52) c12_16 .skip
noncomputable def c12_13 : ACode := .seq c12_14 c12_15
noncomputable def c12_19 : ACode := .region false [⟨some 53, .move, [.t 9], none⟩,
  ⟨some 54, .nilChk, [.t 53], none⟩,
  ⟨some 55, .addr 0, [.t 54], none⟩,
  ⟨some 56, .move, [.t 1], none⟩,
  ⟨some 57, .call 34, [.t 55, .t 56], none⟩] [] [] [0, 2, 3, 9, 10] true [] []
noncomputable def c12_21 : ACode := .region false [⟨some 13, .move, [.c (.val (.slice none 0 0))], none⟩] [] [] [0, 2, 3, 9, 10, 13] false [] []
noncomputable def c12_23 : ACode := .region false [⟨some 14, .move, [.c (.val (.slice none 0 0))], none⟩] [] [] [0, 2, 3, 9, 10, 13, 14] false [] []
noncomputable def c12_26 : ACode := .region false [⟨some 58, .move, [.t 0], none⟩,
  ⟨some 59, .len, [.t 58], none⟩,
  ⟨some 60, .move, [.c (.val (.int .i64 0))], none⟩] [] [] [2, 3, 9, 10, 13, 14, 58, 59, 60] false [] []
noncomputable def c12_30 : ACode := .region false [⟨some 61, .bin .lss, [.t 60, .t 59], none⟩] [] [] [2, 3, 9, 10, 13, 14, 58, 59, 60, 61] false [] []
noncomputable def c12_32 : ACode := .cond (.t 61) .skip (.exit 0)
noncomputable def c12_36 : ACode := .region false [⟨some 62, .ixS 1, [.t 58, .t 60], none⟩,
  ⟨some 63, .load false 1, [.t 62], none⟩,
  ⟨some 16, .move, [.t 63], none⟩] [] [] [2, 3, 9, 10, 13, 14, 16, 58, 59, 60] false [] []
noncomputable def c12_39 : ACode := .region false [⟨some 64, .move, [.t 10], none⟩,
  ⟨some 65, .move, [.t 16], none⟩,
  ⟨some 66, .call 40, [.t 64, .t 65], none⟩,
  ⟨some 17, .move, [.t 66], none⟩] [] [] [2, 3, 9, 10, 13, 14, 16, 17, 58, 59, 60] true [] []
noncomputable def c12_41 : ACode := .region false [⟨some 67, .move, [.t 17], none⟩] [] [] [2, 3, 9, 10, 13, 14, 16, 17, 58, 59, 60, 67] false [] []
noncomputable def c12_44 : ACode := .region false [⟨some 73, .bin .eql, [.t 67, .c (.val (.int .i64 0))], none⟩,
  ⟨some 72, .move, [.t 73], none⟩] [] [] [2, 3, 9, 10, 13, 14, 16, 17, 58, 59, 60, 67, 72] false [] []
noncomputable def c12_46 : ACode := .region false [⟨some 74, .move, [.t 13], none⟩,
  ⟨some 75, .move, [.t 16], none⟩,
  ⟨some 76, .buildSl 1 1 [(.slice none 0 0)] [(0, 1)], [.t 75], none⟩,
  ⟨some 77, .append 1 24 false, [.t 74, .t 76], none⟩,
  ⟨some 13, .move, [.t 77], none⟩] [] [] [2, 3, 9, 10, 13, 14, 58, 59, 60] true [] []
noncomputable def c12_48 : ACode := .region false [⟨some 79, .bin .eql, [.t 67, .c (.val (.int .i64 11))], none⟩,
  ⟨some 78, .move, [.t 79], none⟩] [] [] [2, 3, 9, 10, 13, 14, 16, 17, 58, 59, 60, 78] false [] []
noncomputable def c12_50 : ACode := .region false [⟨some 80, .move, [.t 16], none⟩,
  ⟨some 14, .move, [.t 80], none⟩] [] [] [2, 3, 9, 10, 13, 14, 58, 59, 60] false [] []
noncomputable def c12_52 : ACode := .region false [⟨some 68, .move, [.t 17], none⟩,
  ⟨some 69, .move, [.t 16], none⟩,
  ⟨some 70, .call 26, [.t 69], none⟩,
  ⟨some 71, .bin .neq, [.t 68, .t 70], none⟩] [] [] [2, 3, 9, 10, 13, 14, 58, 59, 60, 71] true [] []
noncomputable def c12_55 : ACode := .region false [⟨some 8, .move, [.c (.val (.bool false))], none⟩] [] [] [8] false [] []
noncomputable def c12_54 : ACode := .seq c12_55 .ret
noncomputable def c12_53 : ACode := .cond (.t 71) c12_54 .skip
noncomputable def c12_51 : ACode := .seq c12_52 c12_53
noncomputable def c12_49 : ACode := .cond (.t 78) c12_50 c12_51
noncomputable def c12_47 : ACode := .seq c12_48 c12_49
noncomputable def c12_45 : ACode := .cond (.t 72) c12_46 c12_47
noncomputable def c12_43 : ACode := .seq c12_44 c12_45
noncomputable def c12_42 : ACode := .block 2 c12_43
noncomputable def c12_40 : ACode := .seq c12_41 c12_42
noncomputable def c12_38 : ACode := .seq c12_39 c12_40
noncomputable def c12_57 : ACode := .region false [⟨some 81, .move, [.t 9], none⟩,
  ⟨some 82, .nilChk, [.t 81], none⟩,
  ⟨some 83, .addr 0, [.t 82], none⟩,
  ⟨some 84, .call 36, [.t 83], none⟩,
  ⟨some 85, .un .not, [.t 84], none⟩] [] [] [2, 3, 9, 10, 13, 14, 58, 59, 60, 85] true [] []
noncomputable def c12_58 : ACode := .cond (.t 85) (.exit 0) .skip
noncomputable def c12_56 : ACode := .seq c12_57 c12_58
noncomputable def c12_37 : ACode := .seq c12_38 c12_56
noncomputable def c12_35 : ACode := .seq c12_36 c12_37
noncomputable def c12_34 : ACode := .block 1 c12_35
noncomputable def c12_59 : ACode := .region false [⟨some 86, .bin .add, [.t 60, .c (.val (.int .i64 1))], none⟩,
  ⟨some 60, .move, [.t 86], none⟩] [] [] [2, 3, 9, 10, 13, 14, 58, 59, 60] false [] []
noncomputable def c12_33 : ACode := .seq c12_34 c12_59
noncomputable def c12_31 : ACode := .seq c12_32 c12_33
noncomputable def c12_29 : ACode := .seq c12_30 c12_31
noncomputable def c12_28 : ACode := .loop c12_29
noncomputable def c12_27 : ACode := .block 0 c12_28
noncomputable def c12_25 : ACode := .seq c12_26 c12_27
noncomputable def c12_61 : ACode := .region false [⟨some 87, .move, [.t 9], none⟩,
  ⟨some 88, .move, [.t 2], none⟩,
  ⟨some 89, .call 43, [.t 87, .t 88], none⟩] [] [] [3, 9, 13, 14] true [] []
noncomputable def c12_63 : ACode := .region false [⟨some 91, .move, [.t 9], none⟩,
  ⟨some 92, .call 35, [.t 91], none⟩,
  ⟨some 90, .move, [.t 92], none⟩,
  ⟨some 93, .ext 0, [.t 90], none⟩,
  ⟨some 94, .ext 1, [.t 90], none⟩,
  ⟨some 95, .ext 2, [.t 90], none⟩,
  ⟨some 10, .move, [.t 93], none⟩,
  ⟨some 18, .move, [.t 94], none⟩,
  ⟨some 12, .move, [.t 95], none⟩] [] [] [3, 9, 10, 12, 13, 14, 18] true [] []
noncomputable def c12_66 : ACode := .region false [⟨some 96, .move, [.t 12], none⟩,
  ⟨some 97, .bin .neq, [.t 96, .c (.val (.int .i64 0))], none⟩,
  ⟨some 98, .move, [.t 97], none⟩,
  ⟨some 99, .move, [.t 10], some (some 98, false)⟩,
  ⟨some 100, .eqP false, [.t 99, .c (.val (.pointer none))], some (some 98, false)⟩,
  ⟨some 101, .pick, [.t 98, .c (.val (.bool true)), .t 100], none⟩,
  ⟨some 102, .move, [.t 101], none⟩,
  ⟨some 103, .move, [.t 10], some (some 102, false)⟩,
  ⟨some 104, .call 39, [.t 103], some (some 102, false)⟩,
  ⟨some 105, .move, [.t 18], some (some 102, false)⟩,
  ⟨some 106, .len, [.t 105], some (some 102, false)⟩,
  ⟨some 107, .bin .neq, [.t 104, .t 106], some (some 102, false)⟩,
  ⟨some 108, .pick, [.t 102, .c (.val (.bool true)), .t 107], none⟩,
  ⟨some 109, .move, [.t 108], none⟩,
  ⟨some 110, .move, [.t 18], some (some 109, false)⟩,
  ⟨some 111, .len, [.t 110], some (some 109, false)⟩,
  ⟨some 112, .move, [.t 13], some (some 109, false)⟩,
  ⟨some 113, .len, [.t 112], some (some 109, false)⟩,
  ⟨some 114, .bin .lss, [.t 111, .t 113], some (some 109, false)⟩,
  ⟨some 115, .pick, [.t 109, .c (.val (.bool true)), .t 114], none⟩,
  ⟨some 116, .move, [.t 115], none⟩,
  ⟨some 117, .move, [.t 18], some (some 116, false)⟩,
  ⟨some 118, .len, [.t 117], some (some 116, false)⟩,
  ⟨some 119, .move, [.t 13], some (some 116, false)⟩,
  ⟨some 120, .len, [.t 119], some (some 116, false)⟩,
  ⟨some 121, .bin .add, [.t 120, .c (.val (.int .i64 1))], some (some 116, false)⟩,
  ⟨some 122, .bin .gtr, [.t 118, .t 121], some (some 116, false)⟩,
  ⟨some 123, .pick, [.t 116, .c (.val (.bool true)), .t 122], none⟩,
  ⟨some 124, .move, [.t 123], none⟩,
  ⟨some 125, .move, [.t 18], some (some 124, false)⟩,
  ⟨some 126, .move, [.t 13], some (some 124, false)⟩,
  ⟨some 127, .len, [.t 126], some (some 124, false)⟩,
  ⟨some 128, .slS 1 false true false, [.t 125, .t 127], some (some 124, false)⟩,
  ⟨some 129, .move, [.t 13], some (some 124, false)⟩,
  ⟨some 130, .call 30, [.t 128, .t 129], some (some 124, false)⟩,
  ⟨some 131, .un .not, [.t 130], some (some 124, false)⟩,
  ⟨some 132, .pick, [.t 124, .c (.val (.bool true)), .t 131], none⟩] [] [] [3, 9, 10, 13, 14, 18, 132] true [] []
noncomputable def c12_69 : ACode := .region false [⟨some 8, .move, [.c (.val (.bool false))], none⟩] [] [] [8] false [] []
noncomputable def c12_68 : ACode := .seq c12_69 .ret
noncomputable def c12_67 : ACode := .cond (.t 132) c12_68 .skip
noncomputable def c12_65 : ACode := .seq c12_66 c12_67
noncomputable def c12_72 : ACode := .region true [⟨some 133, .move, [.t 18], none⟩,
  ⟨some 134, .len, [.t 133], none⟩,
  ⟨some 135, .move, [.t 13], none⟩,
  ⟨some 136, .len, [.t 135], none⟩,
  ⟨some 137, .bin .gtr, [.t 134, .t 136], none⟩,
  ⟨some 138, .move, [.t 137], none⟩,
  ⟨some 139, .move, [.t 14], some (some 138, true)⟩,
  ⟨some 140, .len, [.t 139], some (some 138, true)⟩,
  ⟨some 141, .bin .eql, [.t 140, .c (.val (.int .i64 0))], some (some 138, true)⟩,
  ⟨some 142, .move, [.t 141], some (some 138, true)⟩,
  ⟨some 143, .move, [.t 18], some (some 142, false)⟩,
  ⟨some 144, .move, [.t 13], some (some 142, false)⟩,
  ⟨some 145, .len, [.t 144], some (some 142, false)⟩,
  ⟨some 146, .ixS 1, [.t 143, .t 145], some (some 142, false)⟩,
  ⟨some 147, .load false 1, [.t 146], some (some 142, false)⟩,
  ⟨some 148, .toStr, [.t 147], some (some 142, false)⟩,
  ⟨some 149, .move, [.t 14], some (some 142, false)⟩,
  ⟨some 150, .toStr, [.t 149], some (some 142, false)⟩,
  ⟨some 151, .bin .neq, [.t 148, .t 150], some (some 142, false)⟩,
  ⟨some 152, .pick, [.t 142, .c (.val (.bool true)), .t 151], some (some 138, true)⟩,
  ⟨some 153, .pick, [.t 138, .t 152, .c (.val (.bool false))], none⟩] [] [] [3, 9, 10, 18, 153] false [] []
noncomputable def c12_75 : ACode := .region false [⟨some 8, .move, [.c (.val (.bool false))], none⟩] [] [] [8] false [] []
noncomputable def c12_74 : ACode := .seq c12_75 .ret
noncomputable def c12_73 : ACode := .cond (.t 153) c12_74 .skip
noncomputable def c12_71 : ACode := .seq c12_72 c12_73
noncomputable def c12_78 : ACode := .region false [⟨some 154, .move, [.t 3], none⟩,
  ⟨some 155, .call 26, [.t 154], none⟩,
  ⟨some 156, .bin .neq, [.t 155, .c (.val (.int .i64 0))], none⟩] [] [] [3, 9, 10, 18, 156] true [] []
noncomputable def c12_81 : ACode := .region false [⟨some 157, .move, [.t 10], none⟩,
  ⟨some 158, .move, [.t 3], none⟩,
  ⟨some 159, .call 40, [.t 157, .t 158], none⟩,
  ⟨some 160, .move, [.t 3], none⟩,
  ⟨some 161, .call 26, [.t 160], none⟩,
  ⟨some 162, .bin .eql, [.t 159, .t 161], none⟩,
  ⟨some 8, .move, [.t 162], none⟩] [] [] [8] true [] []
noncomputable def c12_80 : ACode := .seq c12_81 .ret
noncomputable def c12_79 : ACode := .cond (.t 156) c12_80 .skip
noncomputable def c12_77 : ACode := .seq c12_78 c12_79
noncomputable def c12_84 : ACode := .region false [⟨some 163, .move, [.t 10], none⟩,
  ⟨some 164, .move, [.t 3], none⟩,
  ⟨some 165, .call 40, [.t 163, .t 164], none⟩,
  ⟨some 166, .bin .neq, [.t 165, .c (.val (.int .i64 0))], none⟩] [] [] [3, 9, 18, 166] true [] []
noncomputable def c12_87 : ACode := .region false [⟨some 8, .move, [.c (.val (.bool false))], none⟩] [] [] [8] false [] []
noncomputable def c12_86 : ACode := .seq c12_87 .ret
noncomputable def c12_85 : ACode := .cond (.t 166) c12_86 .skip
noncomputable def c12_83 : ACode := .seq c12_84 c12_85
noncomputable def c12_89 : ACode := .region false [⟨some 167, .move, [.t 9], none⟩,
  ⟨some 168, .call 43, [.t 167, .c (.val (.int .i64 0))], none⟩] [] [] [3, 9, 18] true [] []
noncomputable def c12_91 : ACode := .region false [⟨some 170, .move, [.t 9], none⟩,
  ⟨some 171, .call 35, [.t 170], none⟩,
  ⟨some 169, .move, [.t 171], none⟩,
  ⟨some 172, .ext 0, [.t 169], none⟩,
  ⟨some 173, .ext 1, [.t 169], none⟩,
  ⟨some 174, .ext 2, [.t 169], none⟩,
  ⟨some 19, .move, [.t 172], none⟩,
  ⟨some 20, .move, [.t 173], none⟩,
  ⟨some 21, .move, [.t 174], none⟩] [] [] [3, 18, 20, 21] true [] []
noncomputable def c12_93 : ACode := .region false [⟨some 175, .move, [.t 21], none⟩,
  ⟨some 176, .bin .eql, [.t 175, .c (.val (.int .i64 0))], none⟩,
  ⟨some 177, .move, [.t 176], none⟩,
  ⟨some 178, .move, [.t 20], some (some 177, true)⟩,
  ⟨some 179, .buildSl 1 0 [(.slice none 0 0)] [], [], some (some 177, true)⟩,
  ⟨some 180, .move, [.t 18], some (some 177, true)⟩,
  ⟨some 181, .append 1 24 false, [.t 179, .t 180], some (some 177, true)⟩,
  ⟨some 182, .move, [.t 3], some (some 177, true)⟩,
  ⟨some 183, .buildSl 1 1 [(.slice none 0 0)] [(0, 1)], [.t 182], some (some 177, true)⟩,
  ⟨some 184, .append 1 24 false, [.t 181, .t 183], some (some 177, true)⟩,
  ⟨some 185, .call 30, [.t 178, .t 184], some (some 177, true)⟩,
  ⟨some 186, .pick, [.t 177, .t 185, .c (.val (.bool false))], none⟩,
  ⟨some 8, .move, [.t 186], none⟩] [] [] [8] true [] []
noncomputable def c12_92 : ACode := .seq c12_93 .ret
noncomputable def c12_90 : ACode := .seq c12_91 c12_92
noncomputable def c12_88 : ACode := .seq c12_89 c12_90
noncomputable def c12_82 : ACode := .seq c12_83 c12_88
noncomputable def c12_76 : ACode := .seq c12_77 c12_82
noncomputable def c12_70 : ACode := .seq c12_71 c12_76
noncomputable def c12_64 : ACode := .seq c12_65 c12_70
noncomputable def c12_62 : ACode := .seq c12_63 c12_64
noncomputable def c12_60 : ACode := .seq c12_61 c12_62
noncomputable def c12_24 : ACode := .seq c12_25 c12_60
noncomputable def c12_22 : ACode := .seq c12_23 c12_24
noncomputable def c12_20 : ACode := .seq c12_21 c12_22
noncomputable def c12_18 : ACode := .seq c12_19 c12_20
noncomputable def c12_12 : ACode := .seq c12_13 c12_18
noncomputable def c12_10 : ACode := .seq c12_11 c12_12
noncomputable def c12_8 : ACode := .seq c12_9 c12_10
noncomputable def c12_2 : ACode := .seq c12_3 c12_8
noncomputable def c12_0 : ACode := .seq c12_1 c12_2
noncomputable def code12 : Code := (Try.f12.body).getD .skip
theorem c12_ok : compC Try.prog 187 code12 = some (strip c12_0) := by kernel_rfl
theorem res12_ok : Try.f12.results.toList.mapM (resC Try.prog) = some [(8, none)] := by kernel_rfl
/-- What a disk keeps of the records, and of the one that was being added. -/
structure Kp (g : List (List Int)) (b : List Int) (d : Dk) : Prop where
  ok : d.ok
  s : d.s = (catR g).length
  l : d.l = catR g ∨ (d.l = catR g ++ recB b ∧ goodR b)
theorem Kp.crash {g : List (List Int)} {b : List Int} {d : Dk} (h : Kp g b d) (hg : ∀ l ∈ g, goodR l) (keep : Int) : ∃ G, (G = g ∨ (G = g ++ [b] ∧ goodR b)) ∧ opE (crashF d keep) = 0 ∧ opD (crashF d keep) = DG G ∧ (jread (crashF d keep).l).1 = G ∧ (∀ x ∈ (crashF d keep).l, 0 ≤ x ∧ x ≤ 255) ∧ (crashF d keep).l.length ≤ d.l.length := by
  have hge : ∀ l ∈ g, recE l = 0 := fun l hl => (hg l hl).1
  have fin : ∀ (e : crashF d keep = DG g), ∃ G, (G = g ∨ (G = g ++ [b] ∧ goodR b)) ∧ opE (crashF d keep) = 0 ∧ opD (crashF d keep) = DG G ∧ (jread (crashF d keep).l).1 = G ∧ (∀ x ∈ (crashF d keep).l, 0 ≤ x ∧ x ≤ 255) ∧ (crashF d keep).l.length ≤ d.l.length := fun e => by
    obtain ⟨h1, h2, h3⟩ := open_good hge
    rw [e]
    refine ⟨g, .inl rfl, h1, h2, h3, catR_bytes hg, ?_⟩
    have := h.ok.s
    rw [h.s] at this
    exact this
  have hs := h.s
  rcases h.l with hl | ⟨hl, hb⟩
  · apply fin
    have hn : crashN d keep = 0 := by unfold crashN; rw [hl, hs]; omega
    unfold crashF
    rw [hn, hl, hs]
    simp
  · have hlen : d.l.length = (catR g).length + (b.length + 10) := by rw [hl, List.length_append, recB_len]
    have hn : crashN d keep ≤ b.length + 10 := by unfold crashN; rw [hlen, hs]; omega
    have hcl : (crashF d keep).l = catR g ++ (recB b).take (crashN d keep) := by
      unfold crashF
      simp only
      rw [hl, hs, List.take_append, List.take_of_length_le (by omega), Nat.add_sub_cancel_left]
    rcases Nat.lt_or_ge (crashN d keep) (b.length + 10) with hlt | hgt
    · by_cases h0 : crashN d keep = 0
      · apply fin
        have e0 : (catR g ++ (recB b).take (crashN d keep)) = catR g := by rw [h0]; simp
        have e1 : crashF d keep = ⟨(crashF d keep).l, d.s + crashN d keep, false, -1⟩ := rfl
        rw [e1, hcl, e0, hs, h0]
        rfl
      · have hj := (jread_cat hge ((recB b).take (crashN d keep))).1 (jst_pre hb.1 (by rw [recB_len]; exact hlt))
        have e1 : (crashF d keep).left = -1 := rfl
        have e2 : (crashF d keep).off = false := rfl
        have e3 : (crashF d keep).s = (catR g).length + crashN d keep := by unfold crashF; simp only; rw [hs]
        have hll : (catR g).length < (crashF d keep).l.length := by rw [hcl, List.length_append, List.length_take, recB_len]; omega
        refine ⟨g, .inl rfl, ?_, ?_, ?_, ?_, ?_⟩
        · unfold opE
          rw [hcl, hj]
          simp only [Bool.false_eq_true, if_false]
          rw [← hcl, if_pos hll, e1, if_neg (by decide)]
        · unfold opD
          rw [hcl, hj]
          simp only [Bool.false_eq_true, if_false]
          rw [← hcl, if_pos hll, e1, if_neg (by decide)]
          unfold trimF leftU
          simp only [e2, e3, hcl]
          rw [List.take_left, Nat.min_eq_right (by omega), if_neg (by decide)]
        · rw [hcl, hj]
        · rw [hcl]
          intro x hx
          rcases List.mem_append.1 hx with hx | hx
          · exact catR_bytes hg x hx
          · have := (recE_0 hb.1).2
            exact recB_bytes (by omega) hb.2 x (List.mem_of_mem_take hx)
        · rw [hcl, hlen, List.length_append, List.length_take, recB_len]; omega
    · have hgG : ∀ l ∈ g ++ [b], goodR l := fun l hl => by
        rcases List.mem_append.1 hl with hl | hl
        · exact hg l hl
        · simp only [List.mem_singleton] at hl; subst hl; exact hb
      have hgE : ∀ l ∈ g ++ [b], recE l = 0 := fun l hl => (hgG l hl).1
      have e0 : (catR g ++ (recB b).take (crashN d keep)) = catR (g ++ [b]) := by rw [catR_app, catR_one, List.take_of_length_le (by rw [recB_len]; omega)]
      have e1 : crashF d keep = ⟨(crashF d keep).l, d.s + crashN d keep, false, -1⟩ := rfl
      have e2 : d.s + crashN d keep = (catR (g ++ [b])).length := by rw [hs, catR_app, catR_one, List.length_append, recB_len]; omega
      have e3 : crashF d keep = DG (g ++ [b]) := by rw [e1, hcl, e0, e2]
      obtain ⟨h1, h2, h3⟩ := open_good hgE
      rw [e3]
      refine ⟨g ++ [b], .inr ⟨rfl, hb⟩, h1, h2, h3, catR_bytes hgG, ?_⟩
      rw [hlen]
      simp only [catR_app, catR_one, List.length_append, recB_len]
      omega
/-- A record is added as far as the fuse lets it be. -/
theorem add_fuse {g : List (List Int)} {F : Int} (hF : -1 ≤ F ∧ F ≤ 9223372036854775807) {b : List Int} (h : (catR g).length + b.length + 10 ≤ 1048576) (hb : recE b = 0) (hg : goodR b) :
    (F = 0 ∧ adE ⟨catR g, (catR g).length, false, F⟩ b = 11 ∧ (adD ⟨catR g, (catR g).length, false, F⟩ b).off = true ∧ Kp g b (adD ⟨catR g, (catR g).length, false, F⟩ b)) ∨
    (leftU F = 0 ∧ adE ⟨catR g, (catR g).length, false, F⟩ b = 11 ∧ (adD ⟨catR g, (catR g).length, false, F⟩ b).off = true ∧ Kp g b (adD ⟨catR g, (catR g).length, false, F⟩ b)) ∨
    (∃ F', (-1 ≤ F' ∧ F' ≤ 9223372036854775807) ∧ adE ⟨catR g, (catR g).length, false, F⟩ b = 0 ∧ adD ⟨catR g, (catR g).length, false, F⟩ b = ⟨catR (g ++ [b]), (catR (g ++ [b])).length, false, F'⟩) := by
  have hw : appW ⟨catR g, (catR g).length, false, F⟩ (b.length + 10) = 0 := by unfold appW; rw [if_pos (by simp only; omega)]
  have hu := leftU_ok hF.1 hF.2
  have e3 : catR g ++ recB b = catR (g ++ [b]) := by rw [catR_app, catR_one]
  have e4 : (catR (g ++ [b])).length = (catR g).length + (b.length + 10) := by rw [← e3, List.length_append, recB_len]
  by_cases h0 : F = 0
  · subst h0
    have e1 : adE1 ⟨catR g, (catR g).length, false, 0⟩ b = 11 := by unfold adE1; rw [hw]; rfl
    have e2 : adD1 ⟨catR g, (catR g).length, false, 0⟩ b = ⟨catR g, (catR g).length, true, 0⟩ := by unfold adD1; rw [hw]; rfl
    refine .inl ⟨rfl, ?_, ?_, ?_⟩
    · unfold adE; rw [if_neg (by simpa using hb), if_pos (by rw [e1]; decide), e1]
    · unfold adD; rw [if_neg (by simpa using hb), if_pos (by rw [e1]; decide), e2]
    · unfold adD; rw [if_neg (by simpa using hb), if_pos (by rw [e1]; decide), e2]
      exact ⟨⟨Nat.le_refl _, by simp only; omega, by simp only; omega, by simp only; omega⟩, rfl, .inl rfl⟩
  · have e1 : adE1 ⟨catR g, (catR g).length, false, F⟩ b = 0 := by unfold adE1; rw [hw]; unfold doE; simp [h0]
    have e2 : adD1 ⟨catR g, (catR g).length, false, F⟩ b = ⟨catR g ++ recB b, (catR g).length, false, leftU F⟩ := by unfold adD1; rw [hw]; unfold doD appF; simp [h0]
    have eE : adE ⟨catR g, (catR g).length, false, F⟩ b = doE ⟨catR g ++ recB b, (catR g).length, false, leftU F⟩ 0 := by unfold adE; rw [if_neg (by simpa using hb), if_neg (by simpa using e1), e2]
    have eD : adD ⟨catR g, (catR g).length, false, F⟩ b = doD ⟨catR g ++ recB b, (catR g).length, false, leftU F⟩ 0 syncF := by unfold adD; rw [if_neg (by simpa using hb), if_neg (by simpa using e1), e2]
    by_cases h1 : leftU F = 0
    · have e5 : doD ⟨catR g ++ recB b, (catR g).length, false, leftU F⟩ 0 syncF = ⟨catR g ++ recB b, (catR g).length, true, leftU F⟩ := by unfold doD; simp [h1]
      refine .inr (.inl ⟨h1, ?_, ?_, ?_⟩)
      · rw [eE]; unfold doE; simp [h1]
      · rw [eD, e5]
      · rw [eD, e5]
        exact ⟨⟨by simp only; rw [e3]; omega, by simp only; rw [e3]; omega, hu.1, hu.2⟩, rfl, .inr ⟨rfl, hg⟩⟩
    · refine .inr (.inr ⟨leftU (leftU F), leftU_ok hu.1 hu.2, ?_, ?_⟩)
      · rw [eE]; unfold doE; simp [h1]
      · rw [eD]; unfold doD syncF; simp [h1, e3]
end Go.Proofs.Ythbpdmlbfnjoiaa
