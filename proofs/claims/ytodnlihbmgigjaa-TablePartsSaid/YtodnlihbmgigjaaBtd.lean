/- The walk of TableParts. -/
import Derived.Test.YtodnlihbmgigjaaBtc
namespace Go.Proofs.Ytodnlihbmgigjaa
set_option linter.unusedSimpArgs false
set_option linter.unusedVariables false
set_option maxHeartbeats 4000000
open Go Go.Am Go.RowKit Go.ChangeShapes Go.WideShapes Go.ChangeAt
set_option maxRecDepth 100000
abbrev KyL (s : ByteArray) : List AV := [.val (.string s)]
/- quidnunc/quidnunclaw08.TableParts -/
noncomputable def c4_1 : ACode := .region false [⟨some 6, .move, [.c (.val (.bool false))], none⟩] [] [] [0, 1, 2] false [] []
noncomputable def c4_4 : ACode := .region false [⟨some 19, .call 7, [], none⟩,
  ⟨some 20, .un .not, [.t 19], none⟩,
  ⟨some 21, .move, [.t 20], none⟩,
  ⟨some 22, .move, [.t 0], some (some 21, false)⟩,
  ⟨some 23, .len, [.t 22], some (some 21, false)⟩,
  ⟨some 24, .bin .gtr, [.t 23, .c (.val (.int .i64 40))], some (some 21, false)⟩,
  ⟨some 25, .pick, [.t 21, .c (.val (.bool true)), .t 24], none⟩,
  ⟨some 26, .move, [.t 25], none⟩,
  ⟨some 27, .move, [.t 1], some (some 26, false)⟩,
  ⟨some 28, .lenStr, [.t 27], some (some 26, false)⟩,
  ⟨some 29, .bin .gtr, [.t 28, .c (.val (.int .i64 40))], some (some 26, false)⟩,
  ⟨some 30, .pick, [.t 26, .c (.val (.bool true)), .t 29], none⟩] [] [] [0, 1, 2, 30] true [] []
noncomputable def c4_7 : ACode := .region false [⟨some 31, .call 7, [], none⟩,
  ⟨some 6, .move, [.t 31], none⟩] [] [] [6] true [] []
noncomputable def c4_6 : ACode := .seq c4_7 .ret
noncomputable def c4_5 : ACode := .cond (.t 30) c4_6 .skip
noncomputable def c4_3 : ACode := .seq c4_4 c4_5
noncomputable def c4_9 : ACode := .region false [⟨some 33, .call 14, [.c (.val (.int .i64 64))], none⟩,
  ⟨some 32, .move, [.t 33], none⟩,
  ⟨some 34, .ext 0, [.t 32], none⟩,
  ⟨some 35, .ext 1, [.t 32], none⟩,
  ⟨some 7, .move, [.t 34], none⟩,
  ⟨some 8, .move, [.t 35], none⟩] [] [] [0, 1, 2, 7, 8] true [] []
noncomputable def c4_12 : ACode := .region false [⟨some 36, .move, [.t 8], none⟩,
  ⟨some 37, .bin .neq, [.t 36, .c (.val (.int .i64 0))], none⟩,
  ⟨some 38, .move, [.t 37], none⟩,
  ⟨some 39, .move, [.t 7], some (some 38, false)⟩,
  ⟨some 40, .eqP false, [.t 39, .c (.val (.pointer none))], some (some 38, false)⟩,
  ⟨some 41, .pick, [.t 38, .c (.val (.bool true)), .t 40], none⟩] [] [] [0, 1, 2, 7, 41] false [] []
noncomputable def c4_15 : ACode := .region false [⟨some 6, .move, [.c (.val (.bool false))], none⟩] [] [] [6] false [] []
noncomputable def c4_14 : ACode := .seq c4_15 .ret
noncomputable def c4_13 : ACode := .cond (.t 41) c4_14 .skip
noncomputable def c4_11 : ACode := .seq c4_12 c4_13
noncomputable def c4_18 : ACode := .region false [⟨some 42, .move, [.t 0], none⟩,
  ⟨some 43, .len, [.t 42], none⟩,
  ⟨some 44, .move, [.c (.val (.int .i64 0))], none⟩] [] [] [1, 2, 7, 42, 43, 44] false [] []
noncomputable def c4_22 : ACode := .region false [⟨some 45, .bin .lss, [.t 44, .t 43], none⟩] [] [] [1, 2, 7, 42, 43, 44, 45] false [] []
noncomputable def c4_24 : ACode := .cond (.t 45) .skip (.exit 0)
noncomputable def c4_28 : ACode := .region false [⟨some 46, .move, [.t 44], none⟩,
  ⟨some 47, .ixS 1, [.t 42, .t 44], none⟩,
  ⟨some 48, .load false 1, [.t 47], none⟩,
  ⟨some 9, .move, [.t 46], none⟩,
  ⟨some 10, .move, [.t 48], none⟩] [] [] [1, 2, 7, 9, 10, 42, 43, 44] false [] []
noncomputable def c4_31 : ACode := .region false [⟨some 49, .move, [.t 10], none⟩,
  ⟨some 50, .lenStr, [.t 49], none⟩,
  ⟨some 51, .bin .gtr, [.t 50, .c (.val (.int .i64 40))], none⟩] [] [] [1, 2, 7, 9, 10, 42, 43, 44, 51] false [] []
noncomputable def c4_34 : ACode := .region false [⟨some 6, .move, [.c (.val (.bool true))], none⟩] [] [] [6] false [] []
noncomputable def c4_33 : ACode := .seq c4_34 .ret
noncomputable def c4_32 : ACode := .cond (.t 51) c4_33 .skip
noncomputable def c4_30 : ACode := .seq c4_31 c4_32
noncomputable def c4_35 : ACode := .region false [⟨some 52, .move, [.t 7], none⟩,
  ⟨some 53, .move, [.t 10], none⟩,
  ⟨some 54, .move, [.t 9], none⟩,
  ⟨some 55, .call 15, [.t 52, .t 53, .t 54], none⟩] [] [] [1, 2, 7, 42, 43, 44] true [] []
noncomputable def c4_29 : ACode := .seq c4_30 c4_35
noncomputable def c4_27 : ACode := .seq c4_28 c4_29
noncomputable def c4_26 : ACode := .block 1 c4_27
noncomputable def c4_36 : ACode := .region false [⟨some 56, .bin .add, [.t 44, .c (.val (.int .i64 1))], none⟩,
  ⟨some 44, .move, [.t 56], none⟩] [] [] [1, 2, 7, 42, 43, 44] false [] []
noncomputable def c4_25 : ACode := .seq c4_26 c4_36
noncomputable def c4_23 : ACode := .seq c4_24 c4_25
noncomputable def c4_21 : ACode := .seq c4_22 c4_23
noncomputable def c4_20 : ACode := .loop c4_21
noncomputable def c4_19 : ACode := .block 0 c4_20
noncomputable def c4_17 : ACode := .seq c4_18 c4_19
noncomputable def c4_38 : ACode := .region false [⟨some 57, .move, [.t 7], none⟩,
  ⟨some 58, .call 16, [.t 57, .c (.val (.string ⟨#[]⟩)), .c (.val (.int .i64 64))], none⟩,
  ⟨some 11, .move, [.t 58], none⟩] [] [] [1, 2, 7, 11] true [] []
noncomputable def c4_40 : ACode := .region false [⟨some 59, .move, [.t 7], none⟩,
  ⟨some 60, .move, [.t 1], none⟩,
  ⟨some 61, .call 17, [.t 59, .t 60], none⟩,
  ⟨some 12, .move, [.t 61], none⟩] [] [] [1, 2, 7, 11, 12] true [] []
noncomputable def c4_42 : ACode := .region false [⟨some 62, .move, [.t 7], none⟩,
  ⟨some 63, .move, [.t 1], none⟩,
  ⟨some 64, .move, [.t 2], none⟩,
  ⟨some 65, .call 16, [.t 62, .t 63, .t 64], none⟩,
  ⟨some 13, .move, [.t 65], none⟩] [] [] [1, 2, 7, 11, 12, 13] true [] []
noncomputable def c4_45 : ACode := .region false [⟨some 66, .move, [.t 12], none⟩,
  ⟨some 67, .bin .lss, [.t 66, .c (.val (.int .i64 0))], none⟩,
  ⟨some 68, .move, [.t 67], none⟩,
  ⟨some 69, .move, [.t 12], some (some 68, false)⟩,
  ⟨some 70, .move, [.t 11], some (some 68, false)⟩,
  ⟨some 71, .len, [.t 70], some (some 68, false)⟩,
  ⟨some 72, .bin .gtr, [.t 69, .t 71], some (some 68, false)⟩,
  ⟨some 73, .pick, [.t 68, .c (.val (.bool true)), .t 72], none⟩,
  ⟨some 74, .move, [.t 73], none⟩,
  ⟨some 75, .move, [.t 13], some (some 74, false)⟩,
  ⟨some 76, .len, [.t 75], some (some 74, false)⟩,
  ⟨some 77, .move, [.t 2], some (some 74, false)⟩,
  ⟨some 78, .max, [.t 77, .c (.val (.int .i64 0))], some (some 74, false)⟩,
  ⟨some 79, .move, [.t 11], some (some 74, false)⟩,
  ⟨some 80, .len, [.t 79], some (some 74, false)⟩,
  ⟨some 81, .move, [.t 12], some (some 74, false)⟩,
  ⟨some 82, .bin .sub, [.t 80, .t 81], some (some 74, false)⟩,
  ⟨some 83, .min, [.t 78, .t 82], some (some 74, false)⟩,
  ⟨some 84, .bin .neq, [.t 76, .t 83], some (some 74, false)⟩,
  ⟨some 85, .pick, [.t 74, .c (.val (.bool true)), .t 84], none⟩] [] [] [1, 7, 11, 12, 13, 85] false [] []
noncomputable def c4_48 : ACode := .region false [⟨some 6, .move, [.c (.val (.bool false))], none⟩] [] [] [6] false [] []
noncomputable def c4_47 : ACode := .seq c4_48 .ret
noncomputable def c4_46 : ACode := .cond (.t 85) c4_47 .skip
noncomputable def c4_44 : ACode := .seq c4_45 c4_46
noncomputable def c4_51 : ACode := .region false [⟨some 86, .move, [.t 13], none⟩,
  ⟨some 87, .len, [.t 86], none⟩,
  ⟨some 88, .move, [.c (.val (.int .i64 0))], none⟩] [] [] [1, 7, 11, 12, 13, 87, 88] false [] []
noncomputable def c4_55 : ACode := .region false [⟨some 89, .bin .lss, [.t 88, .t 87], none⟩] [] [] [1, 7, 11, 12, 13, 87, 88, 89] false [] []
noncomputable def c4_57 : ACode := .cond (.t 89) .skip (.exit 2)
noncomputable def c4_61 : ACode := .region false [⟨some 90, .move, [.t 88], none⟩,
  ⟨some 14, .move, [.t 90], none⟩] [] [] [1, 7, 11, 12, 13, 14, 87, 88] false [] []
noncomputable def c4_63 : ACode := .region true [⟨some 91, .move, [.t 13], none⟩,
  ⟨some 92, .move, [.t 14], none⟩,
  ⟨some 93, .ixS 2, [.t 91, .t 92], none⟩,
  ⟨some 94, .load true 2, [.t 93], none⟩,
  ⟨some 95, .move, [.t 11], none⟩,
  ⟨some 96, .move, [.t 12], none⟩,
  ⟨some 97, .move, [.t 14], none⟩,
  ⟨some 98, .bin .add, [.t 96, .t 97], none⟩,
  ⟨some 99, .ixS 2, [.t 95, .t 98], none⟩,
  ⟨some 100, .load true 2, [.t 99], none⟩,
  ⟨some 101, .eqA true [(0, 1), (1, 0)], [.t 94, .t 100], none⟩,
  ⟨some 102, .move, [.t 101], none⟩,
  ⟨some 103, .move, [.t 13], some (some 102, false)⟩,
  ⟨some 104, .move, [.t 14], some (some 102, false)⟩,
  ⟨some 105, .ixS 2, [.t 103, .t 104], some (some 102, false)⟩,
  ⟨some 106, .addr 0, [.t 105], some (some 102, false)⟩,
  ⟨some 107, .load false 1, [.t 106], some (some 102, false)⟩,
  ⟨some 108, .move, [.t 1], some (some 102, false)⟩,
  ⟨some 109, .bin .lss, [.t 107, .t 108], some (some 102, false)⟩,
  ⟨some 110, .pick, [.t 102, .c (.val (.bool true)), .t 109], none⟩] [] [] [1, 7, 11, 12, 13, 87, 88, 110] false [] []
noncomputable def c4_66 : ACode := .region false [⟨some 6, .move, [.c (.val (.bool false))], none⟩] [] [] [6] false [] []
noncomputable def c4_65 : ACode := .seq c4_66 .ret
noncomputable def c4_64 : ACode := .cond (.t 110) c4_65 .skip
noncomputable def c4_62 : ACode := .seq c4_63 c4_64
noncomputable def c4_60 : ACode := .seq c4_61 c4_62
noncomputable def c4_59 : ACode := .block 3 c4_60
noncomputable def c4_67 : ACode := .region false [⟨some 111, .bin .add, [.t 88, .c (.val (.int .i64 1))], none⟩,
  ⟨some 88, .move, [.t 111], none⟩] [] [] [1, 7, 11, 12, 13, 87, 88] false [] []
noncomputable def c4_58 : ACode := .seq c4_59 c4_67
noncomputable def c4_56 : ACode := .seq c4_57 c4_58
noncomputable def c4_54 : ACode := .seq c4_55 c4_56
noncomputable def c4_53 : ACode := .loop c4_54
noncomputable def c4_52 : ACode := .block 2 c4_53
noncomputable def c4_50 : ACode := .seq c4_51 c4_52
noncomputable def c4_70 : ACode := .region false [⟨some 112, .move, [.t 12], none⟩,
  ⟨some 113, .bin .gtr, [.t 112, .c (.val (.int .i64 0))], none⟩,
  ⟨some 114, .move, [.t 113], none⟩,
  ⟨some 115, .move, [.t 11], some (some 114, true)⟩,
  ⟨some 116, .move, [.t 12], some (some 114, true)⟩,
  ⟨some 117, .bin .sub, [.t 116, .c (.val (.int .i64 1))], some (some 114, true)⟩,
  ⟨some 118, .ixS 2, [.t 115, .t 117], some (some 114, true)⟩,
  ⟨some 119, .addr 0, [.t 118], some (some 114, true)⟩,
  ⟨some 120, .load false 1, [.t 119], some (some 114, true)⟩,
  ⟨some 121, .move, [.t 1], some (some 114, true)⟩,
  ⟨some 122, .bin .geq, [.t 120, .t 121], some (some 114, true)⟩,
  ⟨some 123, .pick, [.t 114, .t 122, .c (.val (.bool false))], none⟩] [] [] [7, 11, 123] false [] []
noncomputable def c4_73 : ACode := .region false [⟨some 6, .move, [.c (.val (.bool false))], none⟩] [] [] [6] false [] []
noncomputable def c4_72 : ACode := .seq c4_73 .ret
noncomputable def c4_71 : ACode := .cond (.t 123) c4_72 .skip
noncomputable def c4_69 : ACode := .seq c4_70 c4_71
noncomputable def c4_76 : ACode := .region false [⟨some 124, .move, [.t 11], none⟩,
  ⟨some 125, .len, [.t 124], none⟩,
  ⟨some 126, .move, [.c (.val (.int .i64 0))], none⟩] [] [] [7, 11, 124, 125, 126] false [] []
noncomputable def c4_80 : ACode := .region false [⟨some 127, .bin .lss, [.t 126, .t 125], none⟩] [] [] [7, 11, 124, 125, 126, 127] false [] []
noncomputable def c4_82 : ACode := .cond (.t 127) .skip (.exit 4)
noncomputable def c4_86 : ACode := .region false [⟨some 128, .ixS 2, [.t 124, .t 126], none⟩,
  ⟨some 129, .load true 2, [.t 128], none⟩,
  ⟨some 16, .alloc [(.string ⟨#[]⟩), (.int .i64 0)], [], none⟩,
  ⟨none, .store 2, [.t 16, .t 129], none⟩] [] [] [7, 11, 16, 124, 125, 126] true [] []
noncomputable def c4_88 : ACode := .region false [⟨some 130, .move, [.t 7], none⟩,
  ⟨some 131, .addr 0, [.t 16], none⟩,
  ⟨some 132, .load false 1, [.t 131], none⟩,
  ⟨some 133, .call 18, [.t 130, .t 132], none⟩,
  ⟨some 134, .un .not, [.t 133], none⟩,
  ⟨some 135, .move, [.t 134], none⟩,
  ⟨some 136, .move, [.t 7], some (some 135, false)⟩,
  ⟨some 137, .addr 0, [.t 16], some (some 135, false)⟩,
  ⟨some 138, .load false 1, [.t 137], some (some 135, false)⟩,
  ⟨some 139, .addr 1, [.t 16], some (some 135, false)⟩,
  ⟨some 140, .load false 1, [.t 139], some (some 135, false)⟩,
  ⟨some 141, .call 15, [.t 136, .t 138, .t 140], some (some 135, false)⟩,
  ⟨some 142, .bin .neq, [.t 141, .c (.val (.int .i64 0))], some (some 135, false)⟩,
  ⟨some 143, .pick, [.t 135, .c (.val (.bool true)), .t 142], none⟩] [] [] [7, 11, 124, 125, 126, 143] true [] []
noncomputable def c4_91 : ACode := .region false [⟨some 6, .move, [.c (.val (.bool false))], none⟩] [] [] [6] false [] []
noncomputable def c4_90 : ACode := .seq c4_91 .ret
noncomputable def c4_89 : ACode := .cond (.t 143) c4_90 .skip
noncomputable def c4_87 : ACode := .seq c4_88 c4_89
noncomputable def c4_85 : ACode := .seq c4_86 c4_87
noncomputable def c4_84 : ACode := .block 5 c4_85
noncomputable def c4_92 : ACode := .region false [⟨some 144, .bin .add, [.t 126, .c (.val (.int .i64 1))], none⟩,
  ⟨some 126, .move, [.t 144], none⟩] [] [] [7, 11, 124, 125, 126] false [] []
noncomputable def c4_83 : ACode := .seq c4_84 c4_92
noncomputable def c4_81 : ACode := .seq c4_82 c4_83
noncomputable def c4_79 : ACode := .seq c4_80 c4_81
noncomputable def c4_78 : ACode := .loop c4_79
noncomputable def c4_77 : ACode := .block 4 c4_78
noncomputable def c4_75 : ACode := .seq c4_76 c4_77
noncomputable def c4_94 : ACode := .region false [⟨some 145, .move, [.t 7], none⟩,
  ⟨some 146, .call 16, [.t 145, .c (.val (.string ⟨#[]⟩)), .c (.val (.int .i64 64))], none⟩,
  ⟨some 17, .move, [.t 146], none⟩] [] [] [11, 17] true [] []
noncomputable def c4_97 : ACode := .region false [⟨some 147, .move, [.t 11], none⟩,
  ⟨some 148, .len, [.t 147], none⟩,
  ⟨some 149, .move, [.c (.val (.int .i64 0))], none⟩] [] [] [11, 17, 148, 149] false [] []
noncomputable def c4_101 : ACode := .region false [⟨some 150, .bin .lss, [.t 149, .t 148], none⟩] [] [] [11, 17, 148, 149, 150] false [] []
noncomputable def c4_103 : ACode := .cond (.t 150) .skip (.exit 6)
noncomputable def c4_107 : ACode := .region false [⟨some 151, .move, [.t 149], none⟩,
  ⟨some 18, .move, [.t 151], none⟩] [] [] [11, 17, 18, 148, 149] false [] []
noncomputable def c4_109 : ACode := .region true [⟨some 152, .move, [.t 17], none⟩,
  ⟨some 153, .len, [.t 152], none⟩,
  ⟨some 154, .move, [.t 11], none⟩,
  ⟨some 155, .len, [.t 154], none⟩,
  ⟨some 156, .bin .neq, [.t 153, .t 155], none⟩,
  ⟨some 157, .move, [.t 156], none⟩,
  ⟨some 158, .move, [.t 17], some (some 157, false)⟩,
  ⟨some 159, .move, [.t 18], some (some 157, false)⟩,
  ⟨some 160, .ixS 2, [.t 158, .t 159], some (some 157, false)⟩,
  ⟨some 161, .load true 2, [.t 160], some (some 157, false)⟩,
  ⟨some 162, .move, [.t 11], some (some 157, false)⟩,
  ⟨some 163, .move, [.t 18], some (some 157, false)⟩,
  ⟨some 164, .ixS 2, [.t 162, .t 163], some (some 157, false)⟩,
  ⟨some 165, .load true 2, [.t 164], some (some 157, false)⟩,
  ⟨some 166, .eqA true [(0, 1), (1, 0)], [.t 161, .t 165], some (some 157, false)⟩,
  ⟨some 167, .pick, [.t 157, .c (.val (.bool true)), .t 166], none⟩] [] [] [11, 17, 148, 149, 167] false [] []
noncomputable def c4_112 : ACode := .region false [⟨some 6, .move, [.c (.val (.bool false))], none⟩] [] [] [6] false [] []
noncomputable def c4_111 : ACode := .seq c4_112 .ret
noncomputable def c4_110 : ACode := .cond (.t 167) c4_111 .skip
noncomputable def c4_108 : ACode := .seq c4_109 c4_110
noncomputable def c4_106 : ACode := .seq c4_107 c4_108
noncomputable def c4_105 : ACode := .block 7 c4_106
noncomputable def c4_113 : ACode := .region false [⟨some 168, .bin .add, [.t 149, .c (.val (.int .i64 1))], none⟩,
  ⟨some 149, .move, [.t 168], none⟩] [] [] [11, 17, 148, 149] false [] []
noncomputable def c4_104 : ACode := .seq c4_105 c4_113
noncomputable def c4_102 : ACode := .seq c4_103 c4_104
noncomputable def c4_100 : ACode := .seq c4_101 c4_102
noncomputable def c4_99 : ACode := .loop c4_100
noncomputable def c4_98 : ACode := .block 6 c4_99
noncomputable def c4_96 : ACode := .seq c4_97 c4_98
noncomputable def c4_115 : ACode := .region false [⟨some 6, .move, [.c (.val (.bool true))], none⟩] [] [] [6] false [] []
noncomputable def c4_114 : ACode := .seq c4_115 .ret
noncomputable def c4_95 : ACode := .seq c4_96 c4_114
noncomputable def c4_93 : ACode := .seq c4_94 c4_95
noncomputable def c4_74 : ACode := .seq c4_75 c4_93
noncomputable def c4_68 : ACode := .seq c4_69 c4_74
noncomputable def c4_49 : ACode := .seq c4_50 c4_68
noncomputable def c4_43 : ACode := .seq c4_44 c4_49
noncomputable def c4_41 : ACode := .seq c4_42 c4_43
noncomputable def c4_39 : ACode := .seq c4_40 c4_41
noncomputable def c4_37 : ACode := .seq c4_38 c4_39
noncomputable def c4_16 : ACode := .seq c4_17 c4_37
noncomputable def c4_10 : ACode := .seq c4_11 c4_16
noncomputable def c4_8 : ACode := .seq c4_9 c4_10
noncomputable def c4_2 : ACode := .seq c4_3 c4_8
noncomputable def c4_0 : ACode := .seq c4_1 c4_2
noncomputable def code4 : Code := (Try.f4.body).getD .skip
theorem c4_ok : compC Try.prog 169 code4 = some (strip c4_0) := by kernel_rfl
theorem res4_ok : Try.f4.results.toList.mapM (resC Try.prog) = some [(6, none)] := by kernel_rfl
theorem tableParts_walk (W : World) (sl : Sl ByteArray) (from' : ByteArray) (n : Int) (hz : Sl.ok W 1 (fun s : ByteArray => [.string s]) (fun s : ByteArray => s.size ≤ maxLen) sl) :
    Calls Try.prog 4 #[.slice sl.ad sl.l.length sl.cap, .string from', .int .i64 n] W fun e W' => e = .returned (.bool true) ∧ Below W.heap.size W W' := by
  obtain ⟨ad, off, cap, l⟩ := sl
  obtain ⟨hz, -, hl⟩ := hz
  have hl : l.length ≤ 9223372036854775807 := by simpa [maxLen] using hl
  simp only at hz
  have hr : ∀ ρ, renL ρ (rowsC off KyL l) = rowsC off KyL l := fun ρ => rowsC_ren (fun ρ x => by simp [renL, ren]) ρ l
  have hL : (rowsC off KyL l).length = off + l.length * 1 := rowsC_len (f := KyL) (k := 1) (fun _ => rfl) l
  by_cases h1 : (40 : Int) < (l.length : Int)
  · have g1 : ((40 : Int) < (l.length : Int)) = True := eq_true h1
    refine top_call c4_ok Try.func4 rfl Try.ntmps4 res4_ok [ .val (.slice ad l.length cap), .val (.string from'), .val (.int .i64 n)] (by simp) (by (repeat' (first | exact VRs_nil' _ | exact VR_val' _ _ | (refine VRs_cons' ?_ ?_) | (refine VR_agg' (by first | rfl | assumption) ?_; first | assumption | simp [Value.oneCell'])))) ?_; try simp (maxSteps := 9999999) (disch := omega) only [go_sem]
    refine AWpA.thawT 0 KyL hz (fun x => by simp) rfl ?_
    (repeat' (first | refine AWpA.seq ?_ | refine AWpA.block ?_ | (with_reducible refine CondP.tt ?_) | (with_reducible refine CondP.ff ?_) | refine AWpA.condv (by simp (maxSteps := 9999999) (disch := omega) only [go_sem, hr, g1]; rfl) ?_ | ((first | (apply AWpA.region; (focus (simp (maxSteps := 9999999) (disch := omega) only [go_sem, hr, g1]; rfl))) | (apply AWpA.draw [] [] follows; (focus (first | rfl | decide)); (focus (simp (maxSteps := 9999999) (disch := omega) only [go_sem, hr, g1]; rfl)); (focus (simp (maxSteps := 9999999) (disch := omega) only [go_sem, hr, g1]; first | done | trivial)); (focus (simp (maxSteps := 9999999) (disch := omega) only [go_sem, hr, g1]; rfl))) | (apply TailK.go; (focus (simp (maxSteps := 9999999) (disch := omega) only [go_sem, hr, g1]; rfl))) | refine AWpA.skip ?_ | refine AWpA.exit ?_ | refine AWpA.ret ?_ | (with_reducible refine ARoundsA.succ ?_) | ((first | refine Runs.kt (by assumption) (fun h9 => ?_) | refine Runs.kf (by assumption) (fun h9 => ?_) | refine Runs.nt (by assumption) (fun h9 => ?_) | refine Runs.nf (by assumption) (fun h9 => ?_) | refine CondP.ht (by assumption) (fun h9 => ?_) | refine CondP.hf (by assumption) (fun h9 => ?_) | refine CondP.nt (by assumption) (fun h9 => ?_) | refine CondP.nf (by assumption) (fun h9 => ?_)); (try simp only [h9]); clear h9) | ((first | (with_reducible apply CallG.plain1 [] (speaks_any)) | (with_reducible apply CallG.draw1 [] (speaks_any))); (focus ((try refine And.intro (leAs_of_eq rfl) ?_); (try refine And.intro (leOL_of_eq rfl) ?_); simp (maxSteps := 9999999) (disch := omega) only [go_sem, hr, g1]; first | done | (repeat' (first | rfl | (refine And.intro ?_ ?_))))); (focus (simp (maxSteps := 9999999) (disch := omega) only [go_sem, hr, g1]; rfl)))); (try simp (maxSteps := 9999999) (disch := omega) only [go_sem, hr, g1]); (try (refine And.intro ?_ ?_; (focus (first | omega | (simp only [go_sem]; done) | (simp; done) | (simp; omega) | assumption))))) | ((first | refine CondP.split (fun hif => ?_) (fun hif => ?_) | refine Runs.part (fun hif => ?_) (fun hif => ?_)) <;> ((try simp only [hif]); (try simp only [decide_eq_true_eq, decide_eq_false_iff_not, Bool.not_eq_true, Bool.not_eq_false, Bool.not_eq_true', Bool.not_eq_false', beq_iff_eq, bne_iff_ne, bne_eq_false_iff_eq, beq_eq_false_iff_ne, ne_eq, Bool.and_eq_true, Bool.or_eq_true, Bool.or_eq_false_iff] at hif); (try (have h9 : _ = true := hif; simp only [h9])); (try (have h9 : _ = false := hif; simp only [h9])); (try simp (maxSteps := 9999999) (disch := omega) only [go_sem, hr, g1]); (try (refine And.intro ?_ ?_; (focus (first | omega | (simp only [go_sem]; done) | (simp; done) | (simp; omega) | assumption)))); (try (exfalso; omega; done))))))
    (refine TopPost.of (by first | exact .inl rfl | exact .inr rfl) (by (try simp (maxSteps := 9999999) (disch := omega) only [go_sem]); rfl) ?_; (try simp (maxSteps := 9999999) (disch := omega) only [go_sem]); (try (first | trivial | decide | (simp; done))))
  have g1 : ((40 : Int) < (l.length : Int)) = False := eq_false h1
  by_cases h2 : (40 : Int) < (from'.size : Int)
  · have g2 : ((40 : Int) < (from'.size : Int)) = True := eq_true h2
    refine top_call c4_ok Try.func4 rfl Try.ntmps4 res4_ok [ .val (.slice ad l.length cap), .val (.string from'), .val (.int .i64 n)] (by simp) (by (repeat' (first | exact VRs_nil' _ | exact VR_val' _ _ | (refine VRs_cons' ?_ ?_) | (refine VR_agg' (by first | rfl | assumption) ?_; first | assumption | simp [Value.oneCell'])))) ?_; try simp (maxSteps := 9999999) (disch := omega) only [go_sem]
    refine AWpA.thawT 0 KyL hz (fun x => by simp) rfl ?_
    (repeat' (first | refine AWpA.seq ?_ | refine AWpA.block ?_ | (with_reducible refine CondP.tt ?_) | (with_reducible refine CondP.ff ?_) | refine AWpA.condv (by simp (maxSteps := 9999999) (disch := omega) only [go_sem, hr, g1, g2]; rfl) ?_ | ((first | (apply AWpA.region; (focus (simp (maxSteps := 9999999) (disch := omega) only [go_sem, hr, g1, g2]; rfl))) | (apply AWpA.draw [] [] follows; (focus (first | rfl | decide)); (focus (simp (maxSteps := 9999999) (disch := omega) only [go_sem, hr, g1, g2]; rfl)); (focus (simp (maxSteps := 9999999) (disch := omega) only [go_sem, hr, g1, g2]; first | done | trivial)); (focus (simp (maxSteps := 9999999) (disch := omega) only [go_sem, hr, g1, g2]; rfl))) | (apply TailK.go; (focus (simp (maxSteps := 9999999) (disch := omega) only [go_sem, hr, g1, g2]; rfl))) | refine AWpA.skip ?_ | refine AWpA.exit ?_ | refine AWpA.ret ?_ | (with_reducible refine ARoundsA.succ ?_) | ((first | refine Runs.kt (by assumption) (fun h9 => ?_) | refine Runs.kf (by assumption) (fun h9 => ?_) | refine Runs.nt (by assumption) (fun h9 => ?_) | refine Runs.nf (by assumption) (fun h9 => ?_) | refine CondP.ht (by assumption) (fun h9 => ?_) | refine CondP.hf (by assumption) (fun h9 => ?_) | refine CondP.nt (by assumption) (fun h9 => ?_) | refine CondP.nf (by assumption) (fun h9 => ?_)); (try simp only [h9]); clear h9) | ((first | (with_reducible apply CallG.plain1 [] (speaks_any)) | (with_reducible apply CallG.draw1 [] (speaks_any))); (focus ((try refine And.intro (leAs_of_eq rfl) ?_); (try refine And.intro (leOL_of_eq rfl) ?_); simp (maxSteps := 9999999) (disch := omega) only [go_sem, hr, g1, g2]; first | done | (repeat' (first | rfl | (refine And.intro ?_ ?_))))); (focus (simp (maxSteps := 9999999) (disch := omega) only [go_sem, hr, g1, g2]; rfl)))); (try simp (maxSteps := 9999999) (disch := omega) only [go_sem, hr, g1, g2]); (try (refine And.intro ?_ ?_; (focus (first | omega | (simp only [go_sem]; done) | (simp; done) | (simp; omega) | assumption))))) | ((first | refine CondP.split (fun hif => ?_) (fun hif => ?_) | refine Runs.part (fun hif => ?_) (fun hif => ?_)) <;> ((try simp only [hif]); (try simp only [decide_eq_true_eq, decide_eq_false_iff_not, Bool.not_eq_true, Bool.not_eq_false, Bool.not_eq_true', Bool.not_eq_false', beq_iff_eq, bne_iff_ne, bne_eq_false_iff_eq, beq_eq_false_iff_ne, ne_eq, Bool.and_eq_true, Bool.or_eq_true, Bool.or_eq_false_iff] at hif); (try (have h9 : _ = true := hif; simp only [h9])); (try (have h9 : _ = false := hif; simp only [h9])); (try simp (maxSteps := 9999999) (disch := omega) only [go_sem, hr, g1, g2]); (try (refine And.intro ?_ ?_; (focus (first | omega | (simp only [go_sem]; done) | (simp; done) | (simp; omega) | assumption)))); (try (exfalso; omega; done))))))
    (refine TopPost.of (by first | exact .inl rfl | exact .inr rfl) (by (try simp (maxSteps := 9999999) (disch := omega) only [go_sem]); rfl) ?_; (try simp (maxSteps := 9999999) (disch := omega) only [go_sem]); (try (first | trivial | decide | (simp; done))))
  have g2 : ((40 : Int) < (from'.size : Int)) = False := eq_false h2
  have n1 := tnew_ok 64 (by decide)
  refine top_call c4_ok Try.func4 rfl Try.ntmps4 res4_ok [ .val (.slice ad l.length cap), .val (.string from'), .val (.int .i64 n)] (by simp) (by (repeat' (first | exact VRs_nil' _ | exact VR_val' _ _ | (refine VRs_cons' ?_ ?_) | (refine VR_agg' (by first | rfl | assumption) ?_; first | assumption | simp [Value.oneCell'])))) ?_; try simp (maxSteps := 9999999) (disch := omega) only [go_sem]
  refine AWpA.thawT 0 KyL hz (fun x => by simp) rfl ?_
  refine AWpA.dummy ?_
  (repeat' (first | refine AWpA.seq ?_ | refine AWpA.block ?_ | (with_reducible refine CondP.tt ?_) | (with_reducible refine CondP.ff ?_) | refine AWpA.condv (by simp (maxSteps := 9999999) (disch := omega) only [go_sem, hr, g1, g2]; rfl) ?_ | ((first | (apply AWpA.region; (focus (simp (maxSteps := 9999999) (disch := omega) only [go_sem, hr, g1, g2]; rfl))) | (apply AWpA.draw [] [] follows; (focus (first | rfl | decide)); (focus (simp (maxSteps := 9999999) (disch := omega) only [go_sem, hr, g1, g2]; rfl)); (focus (simp (maxSteps := 9999999) (disch := omega) only [go_sem, hr, g1, g2]; first | done | trivial)); (focus (simp (maxSteps := 9999999) (disch := omega) only [go_sem, hr, g1, g2]; rfl))) | (apply TailK.go; (focus (simp (maxSteps := 9999999) (disch := omega) only [go_sem, hr, g1, g2]; rfl))) | refine AWpA.skip ?_ | refine AWpA.exit ?_ | refine AWpA.ret ?_ | (with_reducible refine ARoundsA.succ ?_) | ((first | refine Runs.kt (by assumption) (fun h9 => ?_) | refine Runs.kf (by assumption) (fun h9 => ?_) | refine Runs.nt (by assumption) (fun h9 => ?_) | refine Runs.nf (by assumption) (fun h9 => ?_) | refine CondP.ht (by assumption) (fun h9 => ?_) | refine CondP.hf (by assumption) (fun h9 => ?_) | refine CondP.nt (by assumption) (fun h9 => ?_) | refine CondP.nf (by assumption) (fun h9 => ?_)); (try simp only [h9]); clear h9) | ((first | (with_reducible apply CallG.plain1 [] (speaks_any)) | (with_reducible apply CallG.draw1 [] (speaks_any))); (focus ((try refine And.intro (leAs_of_eq rfl) ?_); (try refine And.intro (leOL_of_eq rfl) ?_); simp (maxSteps := 9999999) (disch := omega) only [go_sem, hr, g1, g2]; first | done | (repeat' (first | rfl | (refine And.intro ?_ ?_))))); (focus (simp (maxSteps := 9999999) (disch := omega) only [go_sem, hr, g1, g2]; rfl))) | ((first | (with_reducible apply CallG.plain1 [] (n1)) | (with_reducible apply CallG.draw1 [] (n1))); (focus ((try refine And.intro (leAs_of_eq rfl) ?_); (try refine And.intro (leOL_of_eq rfl) ?_); simp (maxSteps := 9999999) (disch := omega) only [go_sem, hr, g1, g2]; first | done | (repeat' (first | rfl | (refine And.intro ?_ ?_))))); (focus (simp (maxSteps := 9999999) (disch := omega) only [go_sem, hr, g1, g2]; rfl)))); (try simp (maxSteps := 9999999) (disch := omega) only [go_sem, hr, g1, g2]); (try (refine And.intro ?_ ?_; (focus (first | omega | (simp only [go_sem]; done) | (simp; done) | (simp; omega) | assumption))))) | ((first | refine CondP.split (fun hif => ?_) (fun hif => ?_) | refine Runs.part (fun hif => ?_) (fun hif => ?_)) <;> ((try simp only [hif]); (try simp only [decide_eq_true_eq, decide_eq_false_iff_not, Bool.not_eq_true, Bool.not_eq_false, Bool.not_eq_true', Bool.not_eq_false', beq_iff_eq, bne_iff_ne, bne_eq_false_iff_eq, beq_eq_false_iff_ne, ne_eq, Bool.and_eq_true, Bool.or_eq_true, Bool.or_eq_false_iff] at hif); (try (have h9 : _ = true := hif; simp only [h9])); (try (have h9 : _ = false := hif; simp only [h9])); (try simp (maxSteps := 9999999) (disch := omega) only [go_sem, hr, g1, g2]); (try (refine And.intro ?_ ?_; (focus (first | omega | (simp only [go_sem]; done) | (simp; done) | (simp; omega) | assumption)))); (try (exfalso; omega; done))))))
  (apply AWpA.loopL (fun p : Nat × Tb => [(1, .val (.string from')), (2, I n), (7, .ptr 1 0), (42, .sl 0 off l.length 1 none), (43, I l.length), (44, I p.1)]) (fun p => [.cells true (rowsC off KyL l), TbO 2 p.2, .cells false (Rp 0 p.2.l)]) (fun p => l.length - p.1) (fun p => p.1 ≤ l.length ∧ p.2.ok ∧ p.2.l.length ≤ p.1 ∧ p.2.room = 64) ((0, ⟨64, []⟩)) [0, _, 1]; rotate_left; (focus (simp (maxSteps := 9999999) (disch := omega) only [go_sem, hr, rp_nil]; (try (repeat' (first | done | trivial | rfl | exact leAs_rfl _ | decide | (refine And.intro ?_ ?_) | (simp; done) | omega | (simp; decide)))))); rotate_right)
  · exact ⟨Nat.zero_le _, ⟨List.Pairwise.nil, by simp⟩, by simp, rfl⟩
  rintro ⟨i, t⟩ ⟨hi, hok, hlen, hroom⟩
  (try simp only at hi hok hlen hroom)
  by_cases hin : i < l.length
  · have k1 : ((i : Int) < (l.length : Int)) = True := eq_true (by omega)
    have hat : ((rowsC off KyL l).drop (off + i * 1)).take 1 = KyL l[i] := rowsC_at (f := KyL) (k := 1) (fun _ => rfl) l i hin
    have hat1 : (rowsC off KyL l).getD (off + i) AV.bad = .val (.string l[i]) := by
      rw [List.getD_eq_getElem?_getD]
      have := congrArg (fun x => x[0]?) hat
      rw [List.getElem?_take, if_pos (by omega), List.getElem?_drop, Nat.add_zero, Nat.mul_one] at this
      rw [this]; rfl
    generalize l[i] = x at *
    by_cases h3 : (40 : Int) < (x.size : Int)
    · have g3 : ((40 : Int) < (x.size : Int)) = True := eq_true h3
      (try simp (maxSteps := 9999999) (disch := omega) only [go_sem])
      (repeat' (first | refine AWpA.seq ?_ | refine AWpA.block ?_ | (with_reducible refine CondP.tt ?_) | (with_reducible refine CondP.ff ?_) | refine AWpA.condv (by simp (maxSteps := 9999999) (disch := omega) only [go_sem, hr, hL, k1, hat, hat1, g3]; rfl) ?_ | ((first | (apply AWpA.region; (focus (simp (maxSteps := 9999999) (disch := omega) only [go_sem, hr, hL, k1, hat, hat1, g3]; rfl))) | (apply AWpA.draw [] [] follows; (focus (first | rfl | decide)); (focus (simp (maxSteps := 9999999) (disch := omega) only [go_sem, hr, hL, k1, hat, hat1, g3]; rfl)); (focus (simp (maxSteps := 9999999) (disch := omega) only [go_sem, hr, hL, k1, hat, hat1, g3]; first | done | trivial)); (focus (simp (maxSteps := 9999999) (disch := omega) only [go_sem, hr, hL, k1, hat, hat1, g3]; rfl))) | (apply TailK.go; (focus (simp (maxSteps := 9999999) (disch := omega) only [go_sem, hr, hL, k1, hat, hat1, g3]; rfl))) | refine AWpA.skip ?_ | refine AWpA.exit ?_ | refine AWpA.ret ?_ | (with_reducible refine ARoundsA.succ ?_) | ((first | refine Runs.kt (by assumption) (fun h9 => ?_) | refine Runs.kf (by assumption) (fun h9 => ?_) | refine Runs.nt (by assumption) (fun h9 => ?_) | refine Runs.nf (by assumption) (fun h9 => ?_) | refine CondP.ht (by assumption) (fun h9 => ?_) | refine CondP.hf (by assumption) (fun h9 => ?_) | refine CondP.nt (by assumption) (fun h9 => ?_) | refine CondP.nf (by assumption) (fun h9 => ?_)); (try simp only [h9]); clear h9)); (try simp (maxSteps := 9999999) (disch := omega) only [go_sem, hr, hL, k1, hat, hat1, g3]); (try (refine And.intro ?_ ?_; (focus (first | omega | (simp only [go_sem]; done) | (simp; done) | (simp; omega) | assumption))))) | ((first | refine CondP.split (fun hif => ?_) (fun hif => ?_) | refine Runs.part (fun hif => ?_) (fun hif => ?_)) <;> ((try simp only [hif]); (try simp only [decide_eq_true_eq, decide_eq_false_iff_not, Bool.not_eq_true, Bool.not_eq_false, Bool.not_eq_true', Bool.not_eq_false', beq_iff_eq, bne_iff_ne, bne_eq_false_iff_eq, beq_eq_false_iff_ne, ne_eq, Bool.and_eq_true, Bool.or_eq_true, Bool.or_eq_false_iff] at hif); (try (have h9 : _ = true := hif; simp only [h9])); (try (have h9 : _ = false := hif; simp only [h9])); (try simp (maxSteps := 9999999) (disch := omega) only [go_sem, hr, hL, k1, hat, hat1, g3]); (try (refine And.intro ?_ ?_; (focus (first | omega | (simp only [go_sem]; done) | (simp; done) | (simp; omega) | assumption)))); (try (exfalso; omega; done))))))
      (refine TopPost.of (by first | exact .inl rfl | exact .inr rfl) (by (try simp (maxSteps := 9999999) (disch := omega) only [go_sem]); rfl) ?_; (try simp (maxSteps := 9999999) (disch := omega) only [go_sem]); (try (first | trivial | decide | (simp; done))))
    · have g3 : ((40 : Int) < (x.size : Int)) = False := eq_false h3
      have c1 := tput_any t x i hok
      obtain ⟨o1, o2, o3, o4⟩ := putT_ok hok (by omega) (by omega) (i : Int) x
      generalize putT t x i = u at *
      generalize putE t x = ue at *
      have hrp := rp_ren 0
      (try simp (maxSteps := 9999999) (disch := omega) only [go_sem])
      (repeat' (first | refine AWpA.seq ?_ | refine AWpA.block ?_ | (with_reducible refine CondP.tt ?_) | (with_reducible refine CondP.ff ?_) | refine AWpA.condv (by simp (maxSteps := 9999999) (disch := omega) only [go_sem, hr, hrp, hL, k1, hat, hat1, g3]; rfl) ?_ | ((first | (apply AWpA.region; (focus (simp (maxSteps := 9999999) (disch := omega) only [go_sem, hr, hrp, hL, k1, hat, hat1, g3]; rfl))) | (apply AWpA.draw [] [] follows; (focus (first | rfl | decide)); (focus (simp (maxSteps := 9999999) (disch := omega) only [go_sem, hr, hrp, hL, k1, hat, hat1, g3]; rfl)); (focus (simp (maxSteps := 9999999) (disch := omega) only [go_sem, hr, hrp, hL, k1, hat, hat1, g3]; first | done | trivial)); (focus (simp (maxSteps := 9999999) (disch := omega) only [go_sem, hr, hrp, hL, k1, hat, hat1, g3]; rfl))) | (apply TailK.go; (focus (simp (maxSteps := 9999999) (disch := omega) only [go_sem, hr, hrp, hL, k1, hat, hat1, g3]; rfl))) | refine AWpA.skip ?_ | refine AWpA.exit ?_ | refine AWpA.ret ?_ | (with_reducible refine ARoundsA.succ ?_) | ((first | refine Runs.kt (by assumption) (fun h9 => ?_) | refine Runs.kf (by assumption) (fun h9 => ?_) | refine Runs.nt (by assumption) (fun h9 => ?_) | refine Runs.nf (by assumption) (fun h9 => ?_) | refine CondP.ht (by assumption) (fun h9 => ?_) | refine CondP.hf (by assumption) (fun h9 => ?_) | refine CondP.nt (by assumption) (fun h9 => ?_) | refine CondP.nf (by assumption) (fun h9 => ?_)); (try simp only [h9]); clear h9) | ((first | (with_reducible apply CallG.plain1 [1, 2] (c1)) | (with_reducible apply CallG.draw1 [1, 2] (c1))); (focus ((try refine And.intro (leAs_of_eq rfl) ?_); (try refine And.intro (leOL_of_eq rfl) ?_); simp (maxSteps := 9999999) (disch := omega) only [go_sem, hr, hrp, hL, k1, hat, hat1, g3]; first | done | (repeat' (first | rfl | (refine And.intro ?_ ?_))))); (focus (simp (maxSteps := 9999999) (disch := omega) only [go_sem, hr, hrp, hL, k1, hat, hat1, g3]; rfl)))); (try simp (maxSteps := 9999999) (disch := omega) only [go_sem, hr, hrp, hL, k1, hat, hat1, g3]); (try (refine And.intro ?_ ?_; (focus (first | omega | (simp only [go_sem]; done) | (simp; done) | (simp; omega) | assumption))))) | ((first | refine CondP.split (fun hif => ?_) (fun hif => ?_) | refine Runs.part (fun hif => ?_) (fun hif => ?_)) <;> ((try simp only [hif]); (try simp only [decide_eq_true_eq, decide_eq_false_iff_not, Bool.not_eq_true, Bool.not_eq_false, Bool.not_eq_true', Bool.not_eq_false', beq_iff_eq, bne_iff_ne, bne_eq_false_iff_eq, beq_eq_false_iff_ne, ne_eq, Bool.and_eq_true, Bool.or_eq_true, Bool.or_eq_false_iff] at hif); (try (have h9 : _ = true := hif; simp only [h9])); (try (have h9 : _ = false := hif; simp only [h9])); (try simp (maxSteps := 9999999) (disch := omega) only [go_sem, hr, hrp, hL, k1, hat, hat1, g3]); (try (refine And.intro ?_ ?_; (focus (first | omega | (simp only [go_sem]; done) | (simp; done) | (simp; omega) | assumption)))); (try (exfalso; omega; done))))))
      (apply Back.to ((i + 1), u) [0, 1, 195]; (focus ((try simp (maxSteps := 9999999) (disch := omega) only [go_sem, hr, hrp]); first | done | omega)); rotate_left; (focus (simp (maxSteps := 9999999) (disch := omega) only [go_sem, hr, hrp]; (try (repeat' (first | done | trivial | rfl | exact leAs_rfl _ | decide | (refine And.intro ?_ ?_) | (simp; done) | omega | (simp; decide)))))))
      exact ⟨by simp only; omega, o1, by simp only; omega, by simp only; omega⟩
  · obtain rfl : i = l.length := by omega
    have k1 : ((l.length : Int) < (l.length : Int)) = False := eq_false (by omega)
    have c1 := tscan_any t ⟨#[]⟩ 64 hok
    rw [scan_all2 t.l 64 (by omega)] at c1
    have c2 := rank_any t from' hok
    have c3 := tscan_any t from' n hok
    have hA := scan_len t.l from' n
    have hAg := scan_get t.l from' n
    have hrk := rankP_le t.l from'
    have hnb := fun (i : Nat) (hi : i < t.l.length) => not_below hok.1 from' hi
    have hib := fun (i : Nat) (hi : i < t.l.length) => is_below hok.1 from' hi
    generalize scanP t.l from' n = A at *
    generalize rankP t.l from' = k at *
    have hrp := rp_ren 0
    have hLp := rp_len 0
    (try simp (maxSteps := 9999999) (disch := omega) only [go_sem])
    (repeat' (first | refine AWpA.seq ?_ | refine AWpA.block ?_ | (with_reducible refine CondP.tt ?_) | (with_reducible refine CondP.ff ?_) | refine AWpA.condv (by simp (maxSteps := 9999999) (disch := omega) only [go_sem, hr, hrp, k1]; rfl) ?_ | ((first | (apply AWpA.region; (focus (simp (maxSteps := 9999999) (disch := omega) only [go_sem, hr, hrp, k1]; rfl))) | (apply AWpA.draw [] [] follows; (focus (first | rfl | decide)); (focus (simp (maxSteps := 9999999) (disch := omega) only [go_sem, hr, hrp, k1]; rfl)); (focus (simp (maxSteps := 9999999) (disch := omega) only [go_sem, hr, hrp, k1]; first | done | trivial)); (focus (simp (maxSteps := 9999999) (disch := omega) only [go_sem, hr, hrp, k1]; rfl))) | (apply TailK.go; (focus (simp (maxSteps := 9999999) (disch := omega) only [go_sem, hr, hrp, k1]; rfl))) | refine AWpA.skip ?_ | refine AWpA.exit ?_ | refine AWpA.ret ?_ | (with_reducible refine ARoundsA.succ ?_) | ((first | refine Runs.kt (by assumption) (fun h9 => ?_) | refine Runs.kf (by assumption) (fun h9 => ?_) | refine Runs.nt (by assumption) (fun h9 => ?_) | refine Runs.nf (by assumption) (fun h9 => ?_) | refine CondP.ht (by assumption) (fun h9 => ?_) | refine CondP.hf (by assumption) (fun h9 => ?_) | refine CondP.nt (by assumption) (fun h9 => ?_) | refine CondP.nf (by assumption) (fun h9 => ?_)); (try simp only [h9]); clear h9) | ((first | (with_reducible apply CallG.plain1 [1, 2] (c1)) | (with_reducible apply CallG.draw1 [1, 2] (c1))); (focus ((try refine And.intro (leAs_of_eq rfl) ?_); (try refine And.intro (leOL_of_eq rfl) ?_); simp (maxSteps := 9999999) (disch := omega) only [go_sem, hr, hrp, k1]; first | done | (repeat' (first | rfl | (refine And.intro ?_ ?_))))); (focus (simp (maxSteps := 9999999) (disch := omega) only [go_sem, hr, hrp, k1]; rfl))) | ((first | (with_reducible apply CallG.plain1 [1, 2] (c2)) | (with_reducible apply CallG.draw1 [1, 2] (c2))); (focus ((try refine And.intro (leAs_of_eq rfl) ?_); (try refine And.intro (leOL_of_eq rfl) ?_); simp (maxSteps := 9999999) (disch := omega) only [go_sem, hr, hrp, k1]; first | done | (repeat' (first | rfl | (refine And.intro ?_ ?_))))); (focus (simp (maxSteps := 9999999) (disch := omega) only [go_sem, hr, hrp, k1]; rfl))) | ((first | (with_reducible apply CallG.plain1 [1, 2] (c3)) | (with_reducible apply CallG.draw1 [1, 2] (c3))); (focus ((try refine And.intro (leAs_of_eq rfl) ?_); (try refine And.intro (leOL_of_eq rfl) ?_); simp (maxSteps := 9999999) (disch := omega) only [go_sem, hr, hrp, k1]; first | done | (repeat' (first | rfl | (refine And.intro ?_ ?_))))); (focus (simp (maxSteps := 9999999) (disch := omega) only [go_sem, hr, hrp, k1]; rfl)))); (try simp (maxSteps := 9999999) (disch := omega) only [go_sem, hr, hrp, k1]); (try (refine And.intro ?_ ?_; (focus (first | omega | (simp only [go_sem]; done) | (simp; done) | (simp; omega) | assumption))))) | ((first | refine CondP.split (fun hif => ?_) (fun hif => ?_) | refine Runs.part (fun hif => ?_) (fun hif => ?_)) <;> ((try simp only [hif]); (try simp only [decide_eq_true_eq, decide_eq_false_iff_not, Bool.not_eq_true, Bool.not_eq_false, Bool.not_eq_true', Bool.not_eq_false', beq_iff_eq, bne_iff_ne, bne_eq_false_iff_eq, beq_eq_false_iff_ne, ne_eq, Bool.and_eq_true, Bool.or_eq_true, Bool.or_eq_false_iff] at hif); (try (have h9 : _ = true := hif; simp only [h9])); (try (have h9 : _ = false := hif; simp only [h9])); (try simp (maxSteps := 9999999) (disch := omega) only [go_sem, hr, hrp, k1]); (try (refine And.intro ?_ ?_; (focus (first | omega | (simp only [go_sem]; done) | (simp; done) | (simp; omega) | assumption)))); (try (exfalso; omega; done))))))
    (apply AWpA.loopL (fun j : Nat => [(1, .val (.string from')), (7, .ptr 0 0), (11, .sl 2 0 t.l.length 2 none), (12, I k), (13, .sl 3 0 A.length 2 none), (87, I A.length), (88, I j)]) (fun j => [TbO 1 t, .cells false (Rp 0 t.l), .cells false (Rp 0 t.l), .cells false (Rp 0 A)]) (fun j => A.length - j) (fun j => j ≤ A.length) (0) [1, 2, 35, 179]; rotate_left; (focus (simp (maxSteps := 9999999) (disch := omega) only [go_sem, hr, hrp]; (try (repeat' (first | done | trivial | rfl | exact leAs_rfl _ | decide | (refine And.intro ?_ ?_) | (simp; done) | omega | (simp; decide)))))); rotate_right)
    · simp
    rintro j hj
    (try simp only at hj)
    by_cases hjA : j < A.length
    · have m1 : ((j : Int) < (A.length : Int)) = True := eq_true (by omega)
      obtain ⟨hkj, hAj⟩ := hAg j hjA
      have mat1 := rp_at 0 A j hjA
      have mat2 := rp_at 0 t.l (k + j) hkj
      have mk0 := rp_k A j hjA
      have hnot := hnb (k + j) hkj (by omega)
      rw [← hAj] at mat2 hnot
      rw [Nat.zero_add] at mat1 mat2
      clear hAj hAg hnb hib
      generalize A[j] = x at *
      have hbe : (x.key == x.key) = true := (_root_.Go.MapKept.bytes_beq _ _).2 rfl
      have hLA := hLp A
      have hLt := hLp t.l
      have hkn : ((k : Int) + (j : Int)).toNat = k + j := by omega
      have hle := hok.2
      (try simp (maxSteps := 9999999) (disch := omega) only [go_sem])
      (repeat' (first | refine AWpA.seq ?_ | refine AWpA.block ?_ | (with_reducible refine CondP.tt ?_) | (with_reducible refine CondP.ff ?_) | refine AWpA.condv (by simp (maxSteps := 9999999) (disch := omega) only [go_sem, hrp, hLA, hLt, m1, mat1, mat2, mk0, hbe, hkn, hnot]; rfl) ?_ | ((first | (apply AWpA.region; (focus (simp (maxSteps := 9999999) (disch := omega) only [go_sem, hrp, hLA, hLt, m1, mat1, mat2, mk0, hbe, hkn, hnot]; rfl))) | (apply AWpA.draw [] [] follows; (focus (first | rfl | decide)); (focus (simp (maxSteps := 9999999) (disch := omega) only [go_sem, hrp, hLA, hLt, m1, mat1, mat2, mk0, hbe, hkn, hnot]; rfl)); (focus (simp (maxSteps := 9999999) (disch := omega) only [go_sem, hrp, hLA, hLt, m1, mat1, mat2, mk0, hbe, hkn, hnot]; first | done | trivial)); (focus (simp (maxSteps := 9999999) (disch := omega) only [go_sem, hrp, hLA, hLt, m1, mat1, mat2, mk0, hbe, hkn, hnot]; rfl))) | (apply TailK.go; (focus (simp (maxSteps := 9999999) (disch := omega) only [go_sem, hrp, hLA, hLt, m1, mat1, mat2, mk0, hbe, hkn, hnot]; rfl))) | refine AWpA.skip ?_ | refine AWpA.exit ?_ | refine AWpA.ret ?_ | (with_reducible refine ARoundsA.succ ?_) | ((first | refine Runs.kt (by assumption) (fun h9 => ?_) | refine Runs.kf (by assumption) (fun h9 => ?_) | refine Runs.nt (by assumption) (fun h9 => ?_) | refine Runs.nf (by assumption) (fun h9 => ?_) | refine CondP.ht (by assumption) (fun h9 => ?_) | refine CondP.hf (by assumption) (fun h9 => ?_) | refine CondP.nt (by assumption) (fun h9 => ?_) | refine CondP.nf (by assumption) (fun h9 => ?_)); (try simp only [h9]); clear h9)); (try simp (maxSteps := 9999999) (disch := omega) only [go_sem, hrp, hLA, hLt, m1, mat1, mat2, mk0, hbe, hkn, hnot]); (try (refine And.intro ?_ ?_; (focus (first | omega | (simp only [go_sem]; done) | (simp; done) | (simp; omega) | assumption))))) | ((first | refine CondP.split (fun hif => ?_) (fun hif => ?_) | refine Runs.part (fun hif => ?_) (fun hif => ?_)) <;> ((try simp only [hif]); (try simp only [decide_eq_true_eq, decide_eq_false_iff_not, Bool.not_eq_true, Bool.not_eq_false, Bool.not_eq_true', Bool.not_eq_false', beq_iff_eq, bne_iff_ne, bne_eq_false_iff_eq, beq_eq_false_iff_ne, ne_eq, Bool.and_eq_true, Bool.or_eq_true, Bool.or_eq_false_iff] at hif); (try (have h9 : _ = true := hif; simp only [h9])); (try (have h9 : _ = false := hif; simp only [h9])); (try simp (maxSteps := 9999999) (disch := omega) only [go_sem, hrp, hLA, hLt, m1, mat1, mat2, mk0, hbe, hkn, hnot]); (try (refine And.intro ?_ ?_; (focus (first | omega | (simp only [go_sem]; done) | (simp; done) | (simp; omega) | assumption)))); (try (exfalso; omega; done))))))
      (apply Back.to (j + 1) [0, 1, 2, 3]; (focus ((try simp (maxSteps := 9999999) (disch := omega) only [go_sem, hrp]); first | done | omega)); rotate_left; (focus (simp (maxSteps := 9999999) (disch := omega) only [go_sem, hrp]; (try (repeat' (first | done | trivial | rfl | exact leAs_rfl _ | decide | (refine And.intro ?_ ?_) | (simp; done) | omega | (simp; decide)))))))
      all_goals omega
    · obtain rfl : j = A.length := by omega
      have m1 : ((A.length : Int) < (A.length : Int)) = False := eq_false (by omega)
      have hLt := hLp t.l
      have hle := hok.2
      clear hnb hAg hA
      have hkk : (0 < k) → ∃ y : Pi, ((Rp 0 t.l).getD ((k - 1) * 2) AV.bad = .val (.string y.key)) ∧ ltK y.key from' = true := fun h => ⟨t.l[k - 1]'(by omega), rp_k t.l (k - 1) (by omega), hib (k - 1) (by omega) (by omega)⟩
      clear hib
      by_cases hk0 : 0 < k
      · obtain ⟨y, y1, y2⟩ := hkk hk0
        have z1 : ((0 : Int) < (k : Int)) = True := eq_true (by omega)
        have z2 : ((k : Int) - 1).toNat = k - 1 := by omega
        (try simp (maxSteps := 9999999) (disch := omega) only [go_sem])
        (repeat' (first | refine AWpA.seq ?_ | refine AWpA.block ?_ | (with_reducible refine CondP.tt ?_) | (with_reducible refine CondP.ff ?_) | refine AWpA.condv (by simp (maxSteps := 9999999) (disch := omega) only [go_sem, hrp, m1, hLt, z1, z2, y1, y2]; rfl) ?_ | ((first | (apply AWpA.region; (focus (simp (maxSteps := 9999999) (disch := omega) only [go_sem, hrp, m1, hLt, z1, z2, y1, y2]; rfl))) | (apply AWpA.draw [] [] follows; (focus (first | rfl | decide)); (focus (simp (maxSteps := 9999999) (disch := omega) only [go_sem, hrp, m1, hLt, z1, z2, y1, y2]; rfl)); (focus (simp (maxSteps := 9999999) (disch := omega) only [go_sem, hrp, m1, hLt, z1, z2, y1, y2]; first | done | trivial)); (focus (simp (maxSteps := 9999999) (disch := omega) only [go_sem, hrp, m1, hLt, z1, z2, y1, y2]; rfl))) | (apply TailK.go; (focus (simp (maxSteps := 9999999) (disch := omega) only [go_sem, hrp, m1, hLt, z1, z2, y1, y2]; rfl))) | refine AWpA.skip ?_ | refine AWpA.exit ?_ | refine AWpA.ret ?_ | (with_reducible refine ARoundsA.succ ?_) | ((first | refine Runs.kt (by assumption) (fun h9 => ?_) | refine Runs.kf (by assumption) (fun h9 => ?_) | refine Runs.nt (by assumption) (fun h9 => ?_) | refine Runs.nf (by assumption) (fun h9 => ?_) | refine CondP.ht (by assumption) (fun h9 => ?_) | refine CondP.hf (by assumption) (fun h9 => ?_) | refine CondP.nt (by assumption) (fun h9 => ?_) | refine CondP.nf (by assumption) (fun h9 => ?_)); (try simp only [h9]); clear h9)); (try simp (maxSteps := 9999999) (disch := omega) only [go_sem, hrp, m1, hLt, z1, z2, y1, y2]); (try (refine And.intro ?_ ?_; (focus (first | omega | (simp only [go_sem]; done) | (simp; done) | (simp; omega) | assumption))))) | ((first | refine CondP.split (fun hif => ?_) (fun hif => ?_) | refine Runs.part (fun hif => ?_) (fun hif => ?_)) <;> ((try simp only [hif]); (try simp only [decide_eq_true_eq, decide_eq_false_iff_not, Bool.not_eq_true, Bool.not_eq_false, Bool.not_eq_true', Bool.not_eq_false', beq_iff_eq, bne_iff_ne, bne_eq_false_iff_eq, beq_eq_false_iff_ne, ne_eq, Bool.and_eq_true, Bool.or_eq_true, Bool.or_eq_false_iff] at hif); (try (have h9 : _ = true := hif; simp only [h9])); (try (have h9 : _ = false := hif; simp only [h9])); (try simp (maxSteps := 9999999) (disch := omega) only [go_sem, hrp, m1, hLt, z1, z2, y1, y2]); (try (refine And.intro ?_ ?_; (focus (first | omega | (simp only [go_sem]; done) | (simp; done) | (simp; omega) | assumption)))); (try (exfalso; omega; done))))))
        (apply AWpA.loopL (fun j : Nat => [(7, .ptr 0 0), (11, .sl 2 0 t.l.length 2 none), (124, .sl 2 0 t.l.length 2 none), (125, I t.l.length), (126, I j)]) (fun j => [TbO 1 t, .cells false (Rp 0 t.l), .cells false (Rp 0 t.l)]) (fun j => t.l.length - j) (fun j => j ≤ t.l.length) (0) [0, 1, 2]; rotate_left; (focus (simp (maxSteps := 9999999) (disch := omega) only [go_sem, hrp]; (try (repeat' (first | done | trivial | rfl | exact leAs_rfl _ | decide | (refine And.intro ?_ ?_) | (simp; done) | omega | (simp; decide)))))); rotate_right)
        · simp
        rintro j hj
        (try simp only at hj)
        by_cases hjt : j < t.l.length
        · have m2 : ((j : Int) < (t.l.length : Int)) = True := eq_true (by omega)
          have mat := rp_at 0 t.l j hjt
          rw [Nat.zero_add] at mat
          have d1 := tdrop_any t t.l[j].key hok
          rw [drop_at hok.1 hjt, has_at hok.1 hjt, hroom] at d1
          obtain ⟨p1, p2⟩ := putT_back hok.1 (room := 64) (by omega) hjt
          have d2 := tput_any ⟨64, t.l.take j ++ t.l.drop (j + 1)⟩ t.l[j].key t.l[j].v ⟨by have := rise_drop hok.1 t.l[j].key; rwa [drop_at hok.1 hjt] at this, by simp; omega⟩
          rw [p1, p2] at d2
          clear p1 p2
          have d1' := d1
          generalize t.l.take j ++ t.l.drop (j + 1) = l' at *
          generalize t.l[j] = x at *
          (try simp (maxSteps := 9999999) (disch := omega) only [go_sem])
          (repeat' (first | refine AWpA.seq ?_ | refine AWpA.block ?_ | (with_reducible refine CondP.tt ?_) | (with_reducible refine CondP.ff ?_) | refine AWpA.condv (by simp (maxSteps := 9999999) (disch := omega) only [go_sem, hrp, hLt, m2, mat, hroom]; rfl) ?_ | ((first | (apply AWpA.region; (focus (simp (maxSteps := 9999999) (disch := omega) only [go_sem, hrp, hLt, m2, mat, hroom]; rfl))) | (apply AWpA.draw [] [] follows; (focus (first | rfl | decide)); (focus (simp (maxSteps := 9999999) (disch := omega) only [go_sem, hrp, hLt, m2, mat, hroom]; rfl)); (focus (simp (maxSteps := 9999999) (disch := omega) only [go_sem, hrp, hLt, m2, mat, hroom]; first | done | trivial)); (focus (simp (maxSteps := 9999999) (disch := omega) only [go_sem, hrp, hLt, m2, mat, hroom]; rfl))) | (apply TailK.go; (focus (simp (maxSteps := 9999999) (disch := omega) only [go_sem, hrp, hLt, m2, mat, hroom]; rfl))) | refine AWpA.skip ?_ | refine AWpA.exit ?_ | refine AWpA.ret ?_ | (with_reducible refine ARoundsA.succ ?_) | ((first | refine Runs.kt (by assumption) (fun h9 => ?_) | refine Runs.kf (by assumption) (fun h9 => ?_) | refine Runs.nt (by assumption) (fun h9 => ?_) | refine Runs.nf (by assumption) (fun h9 => ?_) | refine CondP.ht (by assumption) (fun h9 => ?_) | refine CondP.hf (by assumption) (fun h9 => ?_) | refine CondP.nt (by assumption) (fun h9 => ?_) | refine CondP.nf (by assumption) (fun h9 => ?_)); (try simp only [h9]); clear h9) | ((first | (with_reducible apply CallG.plain1 [0, 1] (d1)) | (with_reducible apply CallG.draw1 [0, 1] (d1))); (focus ((try refine And.intro (leAs_of_eq rfl) ?_); (try refine And.intro (leOL_of_eq rfl) ?_); simp (maxSteps := 9999999) (disch := omega) only [go_sem, hrp, hLt, m2, mat, hroom]; first | done | (repeat' (first | rfl | (refine And.intro ?_ ?_))))); (focus (simp (maxSteps := 9999999) (disch := omega) only [go_sem, hrp, hLt, m2, mat, hroom]; rfl))) | ((first | (with_reducible apply CallG.plain1 [0, 131] (d2)) | (with_reducible apply CallG.draw1 [0, 131] (d2))); (focus ((try refine And.intro (leAs_of_eq rfl) ?_); (try refine And.intro (leOL_of_eq rfl) ?_); simp (maxSteps := 9999999) (disch := omega) only [go_sem, hrp, hLt, m2, mat, hroom]; first | done | (repeat' (first | rfl | (refine And.intro ?_ ?_))))); (focus (simp (maxSteps := 9999999) (disch := omega) only [go_sem, hrp, hLt, m2, mat, hroom]; rfl)))); (try simp (maxSteps := 9999999) (disch := omega) only [go_sem, hrp, hLt, m2, mat, hroom]); (try (refine And.intro ?_ ?_; (focus (first | omega | (simp only [go_sem]; done) | (simp; done) | (simp; omega) | assumption))))) | ((first | refine CondP.split (fun hif => ?_) (fun hif => ?_) | refine Runs.part (fun hif => ?_) (fun hif => ?_)) <;> ((try simp only [hif]); (try simp only [decide_eq_true_eq, decide_eq_false_iff_not, Bool.not_eq_true, Bool.not_eq_false, Bool.not_eq_true', Bool.not_eq_false', beq_iff_eq, bne_iff_ne, bne_eq_false_iff_eq, beq_eq_false_iff_ne, ne_eq, Bool.and_eq_true, Bool.or_eq_true, Bool.or_eq_false_iff] at hif); (try (have h9 : _ = true := hif; simp only [h9])); (try (have h9 : _ = false := hif; simp only [h9])); (try simp (maxSteps := 9999999) (disch := omega) only [go_sem, hrp, hLt, m2, mat, hroom]); (try (refine And.intro ?_ ?_; (focus (first | omega | (simp only [go_sem]; done) | (simp; done) | (simp; omega) | assumption)))); (try (exfalso; omega; done))))))
          (apply Back.to (j + 1) [0, 259, 2]; (focus ((try simp (maxSteps := 9999999) (disch := omega) only [go_sem, hrp, hroom]); first | done | omega)); rotate_left; (focus (simp (maxSteps := 9999999) (disch := omega) only [go_sem, hrp, hroom]; (try (repeat' (first | done | trivial | rfl | exact leAs_rfl _ | decide | (refine And.intro ?_ ?_) | (simp; done) | omega | (simp; decide)))))))
          omega
        · obtain rfl : j = t.l.length := by omega
          have m2 : ((t.l.length : Int) < (t.l.length : Int)) = False := eq_false (by omega)
          (try simp (maxSteps := 9999999) (disch := omega) only [go_sem])
          (repeat' (first | refine AWpA.seq ?_ | refine AWpA.block ?_ | (with_reducible refine CondP.tt ?_) | (with_reducible refine CondP.ff ?_) | refine AWpA.condv (by simp (maxSteps := 9999999) (disch := omega) only [go_sem, hrp, m2]; rfl) ?_ | ((first | (apply AWpA.region; (focus (simp (maxSteps := 9999999) (disch := omega) only [go_sem, hrp, m2]; rfl))) | (apply AWpA.draw [] [] follows; (focus (first | rfl | decide)); (focus (simp (maxSteps := 9999999) (disch := omega) only [go_sem, hrp, m2]; rfl)); (focus (simp (maxSteps := 9999999) (disch := omega) only [go_sem, hrp, m2]; first | done | trivial)); (focus (simp (maxSteps := 9999999) (disch := omega) only [go_sem, hrp, m2]; rfl))) | (apply TailK.go; (focus (simp (maxSteps := 9999999) (disch := omega) only [go_sem, hrp, m2]; rfl))) | refine AWpA.skip ?_ | refine AWpA.exit ?_ | refine AWpA.ret ?_ | (with_reducible refine ARoundsA.succ ?_) | ((first | refine Runs.kt (by assumption) (fun h9 => ?_) | refine Runs.kf (by assumption) (fun h9 => ?_) | refine Runs.nt (by assumption) (fun h9 => ?_) | refine Runs.nf (by assumption) (fun h9 => ?_) | refine CondP.ht (by assumption) (fun h9 => ?_) | refine CondP.hf (by assumption) (fun h9 => ?_) | refine CondP.nt (by assumption) (fun h9 => ?_) | refine CondP.nf (by assumption) (fun h9 => ?_)); (try simp only [h9]); clear h9) | ((first | (with_reducible apply CallG.plain1 [0, 1] (c1)) | (with_reducible apply CallG.draw1 [0, 1] (c1))); (focus ((try refine And.intro (leAs_of_eq rfl) ?_); (try refine And.intro (leOL_of_eq rfl) ?_); simp (maxSteps := 9999999) (disch := omega) only [go_sem, hrp, m2]; first | done | (repeat' (first | rfl | (refine And.intro ?_ ?_))))); (focus (simp (maxSteps := 9999999) (disch := omega) only [go_sem, hrp, m2]; rfl)))); (try simp (maxSteps := 9999999) (disch := omega) only [go_sem, hrp, m2]); (try (refine And.intro ?_ ?_; (focus (first | omega | (simp only [go_sem]; done) | (simp; done) | (simp; omega) | assumption))))) | ((first | refine CondP.split (fun hif => ?_) (fun hif => ?_) | refine Runs.part (fun hif => ?_) (fun hif => ?_)) <;> ((try simp only [hif]); (try simp only [decide_eq_true_eq, decide_eq_false_iff_not, Bool.not_eq_true, Bool.not_eq_false, Bool.not_eq_true', Bool.not_eq_false', beq_iff_eq, bne_iff_ne, bne_eq_false_iff_eq, beq_eq_false_iff_ne, ne_eq, Bool.and_eq_true, Bool.or_eq_true, Bool.or_eq_false_iff] at hif); (try (have h9 : _ = true := hif; simp only [h9])); (try (have h9 : _ = false := hif; simp only [h9])); (try simp (maxSteps := 9999999) (disch := omega) only [go_sem, hrp, m2]); (try (refine And.intro ?_ ?_; (focus (first | omega | (simp only [go_sem]; done) | (simp; done) | (simp; omega) | assumption)))); (try (exfalso; omega; done))))))
          (apply AWpA.loopL (fun j : Nat => [(11, .sl 0 0 t.l.length 2 none), (17, .sl 1 0 t.l.length 2 none), (148, I t.l.length), (149, I j)]) (fun j => [.cells false (Rp 0 t.l), .cells false (Rp 0 t.l)]) (fun j => t.l.length - j) (fun j => j ≤ t.l.length) (0) [2, 35]; rotate_left; (focus (simp (maxSteps := 9999999) (disch := omega) only [go_sem, hrp]; (try (repeat' (first | done | trivial | rfl | exact leAs_rfl _ | decide | (refine And.intro ?_ ?_) | (simp; done) | omega | (simp; decide)))))); rotate_right)
          · simp
          rintro j hj
          (try simp only at hj)
          by_cases hjt : j < t.l.length
          · have m3 : ((j : Int) < (t.l.length : Int)) = True := eq_true (by omega)
            have mat := rp_at 0 t.l j hjt
            rw [Nat.zero_add] at mat
            generalize t.l[j] = x at *
            have hbe : (x.key == x.key) = true := (_root_.Go.MapKept.bytes_beq _ _).2 rfl
            (try simp (maxSteps := 9999999) (disch := omega) only [go_sem])
            (repeat' (first | refine AWpA.seq ?_ | refine AWpA.block ?_ | (with_reducible refine CondP.tt ?_) | (with_reducible refine CondP.ff ?_) | refine AWpA.condv (by simp (maxSteps := 9999999) (disch := omega) only [go_sem, hrp, hLt, m3, mat, hbe]; rfl) ?_ | ((first | (apply AWpA.region; (focus (simp (maxSteps := 9999999) (disch := omega) only [go_sem, hrp, hLt, m3, mat, hbe]; rfl))) | (apply AWpA.draw [] [] follows; (focus (first | rfl | decide)); (focus (simp (maxSteps := 9999999) (disch := omega) only [go_sem, hrp, hLt, m3, mat, hbe]; rfl)); (focus (simp (maxSteps := 9999999) (disch := omega) only [go_sem, hrp, hLt, m3, mat, hbe]; first | done | trivial)); (focus (simp (maxSteps := 9999999) (disch := omega) only [go_sem, hrp, hLt, m3, mat, hbe]; rfl))) | (apply TailK.go; (focus (simp (maxSteps := 9999999) (disch := omega) only [go_sem, hrp, hLt, m3, mat, hbe]; rfl))) | refine AWpA.skip ?_ | refine AWpA.exit ?_ | refine AWpA.ret ?_ | (with_reducible refine ARoundsA.succ ?_) | ((first | refine Runs.kt (by assumption) (fun h9 => ?_) | refine Runs.kf (by assumption) (fun h9 => ?_) | refine Runs.nt (by assumption) (fun h9 => ?_) | refine Runs.nf (by assumption) (fun h9 => ?_) | refine CondP.ht (by assumption) (fun h9 => ?_) | refine CondP.hf (by assumption) (fun h9 => ?_) | refine CondP.nt (by assumption) (fun h9 => ?_) | refine CondP.nf (by assumption) (fun h9 => ?_)); (try simp only [h9]); clear h9)); (try simp (maxSteps := 9999999) (disch := omega) only [go_sem, hrp, hLt, m3, mat, hbe]); (try (refine And.intro ?_ ?_; (focus (first | omega | (simp only [go_sem]; done) | (simp; done) | (simp; omega) | assumption))))) | ((first | refine CondP.split (fun hif => ?_) (fun hif => ?_) | refine Runs.part (fun hif => ?_) (fun hif => ?_)) <;> ((try simp only [hif]); (try simp only [decide_eq_true_eq, decide_eq_false_iff_not, Bool.not_eq_true, Bool.not_eq_false, Bool.not_eq_true', Bool.not_eq_false', beq_iff_eq, bne_iff_ne, bne_eq_false_iff_eq, beq_eq_false_iff_ne, ne_eq, Bool.and_eq_true, Bool.or_eq_true, Bool.or_eq_false_iff] at hif); (try (have h9 : _ = true := hif; simp only [h9])); (try (have h9 : _ = false := hif; simp only [h9])); (try simp (maxSteps := 9999999) (disch := omega) only [go_sem, hrp, hLt, m3, mat, hbe]); (try (refine And.intro ?_ ?_; (focus (first | omega | (simp only [go_sem]; done) | (simp; done) | (simp; omega) | assumption)))); (try (exfalso; omega; done))))))
            (apply Back.to (j + 1) [0, 1]; (focus ((try simp (maxSteps := 9999999) (disch := omega) only [go_sem, hrp]); first | done | omega)); rotate_left; (focus (simp (maxSteps := 9999999) (disch := omega) only [go_sem, hrp]; (try (repeat' (first | done | trivial | rfl | exact leAs_rfl _ | decide | (refine And.intro ?_ ?_) | (simp; done) | omega | (simp; decide)))))))
            all_goals omega
          · obtain rfl : j = t.l.length := by omega
            have m3 : ((t.l.length : Int) < (t.l.length : Int)) = False := eq_false (by omega)
            (try simp (maxSteps := 9999999) (disch := omega) only [go_sem])
            (repeat' (first | refine AWpA.seq ?_ | refine AWpA.block ?_ | (with_reducible refine CondP.tt ?_) | (with_reducible refine CondP.ff ?_) | refine AWpA.condv (by simp (maxSteps := 9999999) (disch := omega) only [go_sem, hrp, m3]; rfl) ?_ | ((first | (apply AWpA.region; (focus (simp (maxSteps := 9999999) (disch := omega) only [go_sem, hrp, m3]; rfl))) | (apply AWpA.draw [] [] follows; (focus (first | rfl | decide)); (focus (simp (maxSteps := 9999999) (disch := omega) only [go_sem, hrp, m3]; rfl)); (focus (simp (maxSteps := 9999999) (disch := omega) only [go_sem, hrp, m3]; first | done | trivial)); (focus (simp (maxSteps := 9999999) (disch := omega) only [go_sem, hrp, m3]; rfl))) | (apply TailK.go; (focus (simp (maxSteps := 9999999) (disch := omega) only [go_sem, hrp, m3]; rfl))) | refine AWpA.skip ?_ | refine AWpA.exit ?_ | refine AWpA.ret ?_ | (with_reducible refine ARoundsA.succ ?_) | ((first | refine Runs.kt (by assumption) (fun h9 => ?_) | refine Runs.kf (by assumption) (fun h9 => ?_) | refine Runs.nt (by assumption) (fun h9 => ?_) | refine Runs.nf (by assumption) (fun h9 => ?_) | refine CondP.ht (by assumption) (fun h9 => ?_) | refine CondP.hf (by assumption) (fun h9 => ?_) | refine CondP.nt (by assumption) (fun h9 => ?_) | refine CondP.nf (by assumption) (fun h9 => ?_)); (try simp only [h9]); clear h9)); (try simp (maxSteps := 9999999) (disch := omega) only [go_sem, hrp, m3]); (try (refine And.intro ?_ ?_; (focus (first | omega | (simp only [go_sem]; done) | (simp; done) | (simp; omega) | assumption))))) | ((first | refine CondP.split (fun hif => ?_) (fun hif => ?_) | refine Runs.part (fun hif => ?_) (fun hif => ?_)) <;> ((try simp only [hif]); (try simp only [decide_eq_true_eq, decide_eq_false_iff_not, Bool.not_eq_true, Bool.not_eq_false, Bool.not_eq_true', Bool.not_eq_false', beq_iff_eq, bne_iff_ne, bne_eq_false_iff_eq, beq_eq_false_iff_ne, ne_eq, Bool.and_eq_true, Bool.or_eq_true, Bool.or_eq_false_iff] at hif); (try (have h9 : _ = true := hif; simp only [h9])); (try (have h9 : _ = false := hif; simp only [h9])); (try simp (maxSteps := 9999999) (disch := omega) only [go_sem, hrp, m3]); (try (refine And.intro ?_ ?_; (focus (first | omega | (simp only [go_sem]; done) | (simp; done) | (simp; omega) | assumption)))); (try (exfalso; omega; done))))))
            (refine TopPost.of (by first | exact .inl rfl | exact .inr rfl) (by (try simp (maxSteps := 9999999) (disch := omega) only [go_sem]); rfl) ?_; (try simp (maxSteps := 9999999) (disch := omega) only [go_sem]); (try (first | trivial | decide | (simp; done))))
      · obtain rfl : k = 0 := by omega
        (try simp (maxSteps := 9999999) (disch := omega) only [go_sem])
        (repeat' (first | refine AWpA.seq ?_ | refine AWpA.block ?_ | (with_reducible refine CondP.tt ?_) | (with_reducible refine CondP.ff ?_) | refine AWpA.condv (by simp (maxSteps := 9999999) (disch := omega) only [go_sem, hrp, m1, hLt]; rfl) ?_ | ((first | (apply AWpA.region; (focus (simp (maxSteps := 9999999) (disch := omega) only [go_sem, hrp, m1, hLt]; rfl))) | (apply AWpA.draw [] [] follows; (focus (first | rfl | decide)); (focus (simp (maxSteps := 9999999) (disch := omega) only [go_sem, hrp, m1, hLt]; rfl)); (focus (simp (maxSteps := 9999999) (disch := omega) only [go_sem, hrp, m1, hLt]; first | done | trivial)); (focus (simp (maxSteps := 9999999) (disch := omega) only [go_sem, hrp, m1, hLt]; rfl))) | (apply TailK.go; (focus (simp (maxSteps := 9999999) (disch := omega) only [go_sem, hrp, m1, hLt]; rfl))) | refine AWpA.skip ?_ | refine AWpA.exit ?_ | refine AWpA.ret ?_ | (with_reducible refine ARoundsA.succ ?_) | ((first | refine Runs.kt (by assumption) (fun h9 => ?_) | refine Runs.kf (by assumption) (fun h9 => ?_) | refine Runs.nt (by assumption) (fun h9 => ?_) | refine Runs.nf (by assumption) (fun h9 => ?_) | refine CondP.ht (by assumption) (fun h9 => ?_) | refine CondP.hf (by assumption) (fun h9 => ?_) | refine CondP.nt (by assumption) (fun h9 => ?_) | refine CondP.nf (by assumption) (fun h9 => ?_)); (try simp only [h9]); clear h9)); (try simp (maxSteps := 9999999) (disch := omega) only [go_sem, hrp, m1, hLt]); (try (refine And.intro ?_ ?_; (focus (first | omega | (simp only [go_sem]; done) | (simp; done) | (simp; omega) | assumption))))) | ((first | refine CondP.split (fun hif => ?_) (fun hif => ?_) | refine Runs.part (fun hif => ?_) (fun hif => ?_)) <;> ((try simp only [hif]); (try simp only [decide_eq_true_eq, decide_eq_false_iff_not, Bool.not_eq_true, Bool.not_eq_false, Bool.not_eq_true', Bool.not_eq_false', beq_iff_eq, bne_iff_ne, bne_eq_false_iff_eq, beq_eq_false_iff_ne, ne_eq, Bool.and_eq_true, Bool.or_eq_true, Bool.or_eq_false_iff] at hif); (try (have h9 : _ = true := hif; simp only [h9])); (try (have h9 : _ = false := hif; simp only [h9])); (try simp (maxSteps := 9999999) (disch := omega) only [go_sem, hrp, m1, hLt]); (try (refine And.intro ?_ ?_; (focus (first | omega | (simp only [go_sem]; done) | (simp; done) | (simp; omega) | assumption)))); (try (exfalso; omega; done))))))
        (apply AWpA.loopL (fun j : Nat => [(7, .ptr 0 0), (11, .sl 2 0 t.l.length 2 none), (124, .sl 2 0 t.l.length 2 none), (125, I t.l.length), (126, I j)]) (fun j => [TbO 1 t, .cells false (Rp 0 t.l), .cells false (Rp 0 t.l)]) (fun j => t.l.length - j) (fun j => j ≤ t.l.length) (0) [0, 1, 2]; rotate_left; (focus (simp (maxSteps := 9999999) (disch := omega) only [go_sem, hrp]; (try (repeat' (first | done | trivial | rfl | exact leAs_rfl _ | decide | (refine And.intro ?_ ?_) | (simp; done) | omega | (simp; decide)))))); rotate_right)
        · simp
        rintro j hj
        (try simp only at hj)
        by_cases hjt : j < t.l.length
        · have m2 : ((j : Int) < (t.l.length : Int)) = True := eq_true (by omega)
          have mat := rp_at 0 t.l j hjt
          rw [Nat.zero_add] at mat
          have d1 := tdrop_any t t.l[j].key hok
          rw [drop_at hok.1 hjt, has_at hok.1 hjt, hroom] at d1
          obtain ⟨p1, p2⟩ := putT_back hok.1 (room := 64) (by omega) hjt
          have d2 := tput_any ⟨64, t.l.take j ++ t.l.drop (j + 1)⟩ t.l[j].key t.l[j].v ⟨by have := rise_drop hok.1 t.l[j].key; rwa [drop_at hok.1 hjt] at this, by simp; omega⟩
          rw [p1, p2] at d2
          clear p1 p2
          have d1' := d1
          generalize t.l.take j ++ t.l.drop (j + 1) = l' at *
          generalize t.l[j] = x at *
          (try simp (maxSteps := 9999999) (disch := omega) only [go_sem])
          (repeat' (first | refine AWpA.seq ?_ | refine AWpA.block ?_ | (with_reducible refine CondP.tt ?_) | (with_reducible refine CondP.ff ?_) | refine AWpA.condv (by simp (maxSteps := 9999999) (disch := omega) only [go_sem, hrp, hLt, m2, mat, hroom]; rfl) ?_ | ((first | (apply AWpA.region; (focus (simp (maxSteps := 9999999) (disch := omega) only [go_sem, hrp, hLt, m2, mat, hroom]; rfl))) | (apply AWpA.draw [] [] follows; (focus (first | rfl | decide)); (focus (simp (maxSteps := 9999999) (disch := omega) only [go_sem, hrp, hLt, m2, mat, hroom]; rfl)); (focus (simp (maxSteps := 9999999) (disch := omega) only [go_sem, hrp, hLt, m2, mat, hroom]; first | done | trivial)); (focus (simp (maxSteps := 9999999) (disch := omega) only [go_sem, hrp, hLt, m2, mat, hroom]; rfl))) | (apply TailK.go; (focus (simp (maxSteps := 9999999) (disch := omega) only [go_sem, hrp, hLt, m2, mat, hroom]; rfl))) | refine AWpA.skip ?_ | refine AWpA.exit ?_ | refine AWpA.ret ?_ | (with_reducible refine ARoundsA.succ ?_) | ((first | refine Runs.kt (by assumption) (fun h9 => ?_) | refine Runs.kf (by assumption) (fun h9 => ?_) | refine Runs.nt (by assumption) (fun h9 => ?_) | refine Runs.nf (by assumption) (fun h9 => ?_) | refine CondP.ht (by assumption) (fun h9 => ?_) | refine CondP.hf (by assumption) (fun h9 => ?_) | refine CondP.nt (by assumption) (fun h9 => ?_) | refine CondP.nf (by assumption) (fun h9 => ?_)); (try simp only [h9]); clear h9) | ((first | (with_reducible apply CallG.plain1 [0, 1] (d1)) | (with_reducible apply CallG.draw1 [0, 1] (d1))); (focus ((try refine And.intro (leAs_of_eq rfl) ?_); (try refine And.intro (leOL_of_eq rfl) ?_); simp (maxSteps := 9999999) (disch := omega) only [go_sem, hrp, hLt, m2, mat, hroom]; first | done | (repeat' (first | rfl | (refine And.intro ?_ ?_))))); (focus (simp (maxSteps := 9999999) (disch := omega) only [go_sem, hrp, hLt, m2, mat, hroom]; rfl))) | ((first | (with_reducible apply CallG.plain1 [0, 131] (d2)) | (with_reducible apply CallG.draw1 [0, 131] (d2))); (focus ((try refine And.intro (leAs_of_eq rfl) ?_); (try refine And.intro (leOL_of_eq rfl) ?_); simp (maxSteps := 9999999) (disch := omega) only [go_sem, hrp, hLt, m2, mat, hroom]; first | done | (repeat' (first | rfl | (refine And.intro ?_ ?_))))); (focus (simp (maxSteps := 9999999) (disch := omega) only [go_sem, hrp, hLt, m2, mat, hroom]; rfl)))); (try simp (maxSteps := 9999999) (disch := omega) only [go_sem, hrp, hLt, m2, mat, hroom]); (try (refine And.intro ?_ ?_; (focus (first | omega | (simp only [go_sem]; done) | (simp; done) | (simp; omega) | assumption))))) | ((first | refine CondP.split (fun hif => ?_) (fun hif => ?_) | refine Runs.part (fun hif => ?_) (fun hif => ?_)) <;> ((try simp only [hif]); (try simp only [decide_eq_true_eq, decide_eq_false_iff_not, Bool.not_eq_true, Bool.not_eq_false, Bool.not_eq_true', Bool.not_eq_false', beq_iff_eq, bne_iff_ne, bne_eq_false_iff_eq, beq_eq_false_iff_ne, ne_eq, Bool.and_eq_true, Bool.or_eq_true, Bool.or_eq_false_iff] at hif); (try (have h9 : _ = true := hif; simp only [h9])); (try (have h9 : _ = false := hif; simp only [h9])); (try simp (maxSteps := 9999999) (disch := omega) only [go_sem, hrp, hLt, m2, mat, hroom]); (try (refine And.intro ?_ ?_; (focus (first | omega | (simp only [go_sem]; done) | (simp; done) | (simp; omega) | assumption)))); (try (exfalso; omega; done))))))
          (apply Back.to (j + 1) [0, 259, 2]; (focus ((try simp (maxSteps := 9999999) (disch := omega) only [go_sem, hrp, hroom]); first | done | omega)); rotate_left; (focus (simp (maxSteps := 9999999) (disch := omega) only [go_sem, hrp, hroom]; (try (repeat' (first | done | trivial | rfl | exact leAs_rfl _ | decide | (refine And.intro ?_ ?_) | (simp; done) | omega | (simp; decide)))))))
          omega
        · obtain rfl : j = t.l.length := by omega
          have m2 : ((t.l.length : Int) < (t.l.length : Int)) = False := eq_false (by omega)
          (try simp (maxSteps := 9999999) (disch := omega) only [go_sem])
          (repeat' (first | refine AWpA.seq ?_ | refine AWpA.block ?_ | (with_reducible refine CondP.tt ?_) | (with_reducible refine CondP.ff ?_) | refine AWpA.condv (by simp (maxSteps := 9999999) (disch := omega) only [go_sem, hrp, m2]; rfl) ?_ | ((first | (apply AWpA.region; (focus (simp (maxSteps := 9999999) (disch := omega) only [go_sem, hrp, m2]; rfl))) | (apply AWpA.draw [] [] follows; (focus (first | rfl | decide)); (focus (simp (maxSteps := 9999999) (disch := omega) only [go_sem, hrp, m2]; rfl)); (focus (simp (maxSteps := 9999999) (disch := omega) only [go_sem, hrp, m2]; first | done | trivial)); (focus (simp (maxSteps := 9999999) (disch := omega) only [go_sem, hrp, m2]; rfl))) | (apply TailK.go; (focus (simp (maxSteps := 9999999) (disch := omega) only [go_sem, hrp, m2]; rfl))) | refine AWpA.skip ?_ | refine AWpA.exit ?_ | refine AWpA.ret ?_ | (with_reducible refine ARoundsA.succ ?_) | ((first | refine Runs.kt (by assumption) (fun h9 => ?_) | refine Runs.kf (by assumption) (fun h9 => ?_) | refine Runs.nt (by assumption) (fun h9 => ?_) | refine Runs.nf (by assumption) (fun h9 => ?_) | refine CondP.ht (by assumption) (fun h9 => ?_) | refine CondP.hf (by assumption) (fun h9 => ?_) | refine CondP.nt (by assumption) (fun h9 => ?_) | refine CondP.nf (by assumption) (fun h9 => ?_)); (try simp only [h9]); clear h9) | ((first | (with_reducible apply CallG.plain1 [0, 1] (c1)) | (with_reducible apply CallG.draw1 [0, 1] (c1))); (focus ((try refine And.intro (leAs_of_eq rfl) ?_); (try refine And.intro (leOL_of_eq rfl) ?_); simp (maxSteps := 9999999) (disch := omega) only [go_sem, hrp, m2]; first | done | (repeat' (first | rfl | (refine And.intro ?_ ?_))))); (focus (simp (maxSteps := 9999999) (disch := omega) only [go_sem, hrp, m2]; rfl)))); (try simp (maxSteps := 9999999) (disch := omega) only [go_sem, hrp, m2]); (try (refine And.intro ?_ ?_; (focus (first | omega | (simp only [go_sem]; done) | (simp; done) | (simp; omega) | assumption))))) | ((first | refine CondP.split (fun hif => ?_) (fun hif => ?_) | refine Runs.part (fun hif => ?_) (fun hif => ?_)) <;> ((try simp only [hif]); (try simp only [decide_eq_true_eq, decide_eq_false_iff_not, Bool.not_eq_true, Bool.not_eq_false, Bool.not_eq_true', Bool.not_eq_false', beq_iff_eq, bne_iff_ne, bne_eq_false_iff_eq, beq_eq_false_iff_ne, ne_eq, Bool.and_eq_true, Bool.or_eq_true, Bool.or_eq_false_iff] at hif); (try (have h9 : _ = true := hif; simp only [h9])); (try (have h9 : _ = false := hif; simp only [h9])); (try simp (maxSteps := 9999999) (disch := omega) only [go_sem, hrp, m2]); (try (refine And.intro ?_ ?_; (focus (first | omega | (simp only [go_sem]; done) | (simp; done) | (simp; omega) | assumption)))); (try (exfalso; omega; done))))))
          (apply AWpA.loopL (fun j : Nat => [(11, .sl 0 0 t.l.length 2 none), (17, .sl 1 0 t.l.length 2 none), (148, I t.l.length), (149, I j)]) (fun j => [.cells false (Rp 0 t.l), .cells false (Rp 0 t.l)]) (fun j => t.l.length - j) (fun j => j ≤ t.l.length) (0) [2, 35]; rotate_left; (focus (simp (maxSteps := 9999999) (disch := omega) only [go_sem, hrp]; (try (repeat' (first | done | trivial | rfl | exact leAs_rfl _ | decide | (refine And.intro ?_ ?_) | (simp; done) | omega | (simp; decide)))))); rotate_right)
          · simp
          rintro j hj
          (try simp only at hj)
          by_cases hjt : j < t.l.length
          · have m3 : ((j : Int) < (t.l.length : Int)) = True := eq_true (by omega)
            have mat := rp_at 0 t.l j hjt
            rw [Nat.zero_add] at mat
            generalize t.l[j] = x at *
            have hbe : (x.key == x.key) = true := (_root_.Go.MapKept.bytes_beq _ _).2 rfl
            (try simp (maxSteps := 9999999) (disch := omega) only [go_sem])
            (repeat' (first | refine AWpA.seq ?_ | refine AWpA.block ?_ | (with_reducible refine CondP.tt ?_) | (with_reducible refine CondP.ff ?_) | refine AWpA.condv (by simp (maxSteps := 9999999) (disch := omega) only [go_sem, hrp, hLt, m3, mat, hbe]; rfl) ?_ | ((first | (apply AWpA.region; (focus (simp (maxSteps := 9999999) (disch := omega) only [go_sem, hrp, hLt, m3, mat, hbe]; rfl))) | (apply AWpA.draw [] [] follows; (focus (first | rfl | decide)); (focus (simp (maxSteps := 9999999) (disch := omega) only [go_sem, hrp, hLt, m3, mat, hbe]; rfl)); (focus (simp (maxSteps := 9999999) (disch := omega) only [go_sem, hrp, hLt, m3, mat, hbe]; first | done | trivial)); (focus (simp (maxSteps := 9999999) (disch := omega) only [go_sem, hrp, hLt, m3, mat, hbe]; rfl))) | (apply TailK.go; (focus (simp (maxSteps := 9999999) (disch := omega) only [go_sem, hrp, hLt, m3, mat, hbe]; rfl))) | refine AWpA.skip ?_ | refine AWpA.exit ?_ | refine AWpA.ret ?_ | (with_reducible refine ARoundsA.succ ?_) | ((first | refine Runs.kt (by assumption) (fun h9 => ?_) | refine Runs.kf (by assumption) (fun h9 => ?_) | refine Runs.nt (by assumption) (fun h9 => ?_) | refine Runs.nf (by assumption) (fun h9 => ?_) | refine CondP.ht (by assumption) (fun h9 => ?_) | refine CondP.hf (by assumption) (fun h9 => ?_) | refine CondP.nt (by assumption) (fun h9 => ?_) | refine CondP.nf (by assumption) (fun h9 => ?_)); (try simp only [h9]); clear h9)); (try simp (maxSteps := 9999999) (disch := omega) only [go_sem, hrp, hLt, m3, mat, hbe]); (try (refine And.intro ?_ ?_; (focus (first | omega | (simp only [go_sem]; done) | (simp; done) | (simp; omega) | assumption))))) | ((first | refine CondP.split (fun hif => ?_) (fun hif => ?_) | refine Runs.part (fun hif => ?_) (fun hif => ?_)) <;> ((try simp only [hif]); (try simp only [decide_eq_true_eq, decide_eq_false_iff_not, Bool.not_eq_true, Bool.not_eq_false, Bool.not_eq_true', Bool.not_eq_false', beq_iff_eq, bne_iff_ne, bne_eq_false_iff_eq, beq_eq_false_iff_ne, ne_eq, Bool.and_eq_true, Bool.or_eq_true, Bool.or_eq_false_iff] at hif); (try (have h9 : _ = true := hif; simp only [h9])); (try (have h9 : _ = false := hif; simp only [h9])); (try simp (maxSteps := 9999999) (disch := omega) only [go_sem, hrp, hLt, m3, mat, hbe]); (try (refine And.intro ?_ ?_; (focus (first | omega | (simp only [go_sem]; done) | (simp; done) | (simp; omega) | assumption)))); (try (exfalso; omega; done))))))
            (apply Back.to (j + 1) [0, 1]; (focus ((try simp (maxSteps := 9999999) (disch := omega) only [go_sem, hrp]); first | done | omega)); rotate_left; (focus (simp (maxSteps := 9999999) (disch := omega) only [go_sem, hrp]; (try (repeat' (first | done | trivial | rfl | exact leAs_rfl _ | decide | (refine And.intro ?_ ?_) | (simp; done) | omega | (simp; decide)))))))
            all_goals omega
          · obtain rfl : j = t.l.length := by omega
            have m3 : ((t.l.length : Int) < (t.l.length : Int)) = False := eq_false (by omega)
            (try simp (maxSteps := 9999999) (disch := omega) only [go_sem])
            (repeat' (first | refine AWpA.seq ?_ | refine AWpA.block ?_ | (with_reducible refine CondP.tt ?_) | (with_reducible refine CondP.ff ?_) | refine AWpA.condv (by simp (maxSteps := 9999999) (disch := omega) only [go_sem, hrp, m3]; rfl) ?_ | ((first | (apply AWpA.region; (focus (simp (maxSteps := 9999999) (disch := omega) only [go_sem, hrp, m3]; rfl))) | (apply AWpA.draw [] [] follows; (focus (first | rfl | decide)); (focus (simp (maxSteps := 9999999) (disch := omega) only [go_sem, hrp, m3]; rfl)); (focus (simp (maxSteps := 9999999) (disch := omega) only [go_sem, hrp, m3]; first | done | trivial)); (focus (simp (maxSteps := 9999999) (disch := omega) only [go_sem, hrp, m3]; rfl))) | (apply TailK.go; (focus (simp (maxSteps := 9999999) (disch := omega) only [go_sem, hrp, m3]; rfl))) | refine AWpA.skip ?_ | refine AWpA.exit ?_ | refine AWpA.ret ?_ | (with_reducible refine ARoundsA.succ ?_) | ((first | refine Runs.kt (by assumption) (fun h9 => ?_) | refine Runs.kf (by assumption) (fun h9 => ?_) | refine Runs.nt (by assumption) (fun h9 => ?_) | refine Runs.nf (by assumption) (fun h9 => ?_) | refine CondP.ht (by assumption) (fun h9 => ?_) | refine CondP.hf (by assumption) (fun h9 => ?_) | refine CondP.nt (by assumption) (fun h9 => ?_) | refine CondP.nf (by assumption) (fun h9 => ?_)); (try simp only [h9]); clear h9)); (try simp (maxSteps := 9999999) (disch := omega) only [go_sem, hrp, m3]); (try (refine And.intro ?_ ?_; (focus (first | omega | (simp only [go_sem]; done) | (simp; done) | (simp; omega) | assumption))))) | ((first | refine CondP.split (fun hif => ?_) (fun hif => ?_) | refine Runs.part (fun hif => ?_) (fun hif => ?_)) <;> ((try simp only [hif]); (try simp only [decide_eq_true_eq, decide_eq_false_iff_not, Bool.not_eq_true, Bool.not_eq_false, Bool.not_eq_true', Bool.not_eq_false', beq_iff_eq, bne_iff_ne, bne_eq_false_iff_eq, beq_eq_false_iff_ne, ne_eq, Bool.and_eq_true, Bool.or_eq_true, Bool.or_eq_false_iff] at hif); (try (have h9 : _ = true := hif; simp only [h9])); (try (have h9 : _ = false := hif; simp only [h9])); (try simp (maxSteps := 9999999) (disch := omega) only [go_sem, hrp, m3]); (try (refine And.intro ?_ ?_; (focus (first | omega | (simp only [go_sem]; done) | (simp; done) | (simp; omega) | assumption)))); (try (exfalso; omega; done))))))
            (refine TopPost.of (by first | exact .inl rfl | exact .inr rfl) (by (try simp (maxSteps := 9999999) (disch := omega) only [go_sem]); rfl) ?_; (try simp (maxSteps := 9999999) (disch := omega) only [go_sem]); (try (first | trivial | decide | (simp; done))))
end Go.Proofs.Ytodnlihbmgigjaa
