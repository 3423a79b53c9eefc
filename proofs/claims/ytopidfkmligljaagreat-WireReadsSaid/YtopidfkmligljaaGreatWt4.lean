/- Contracts: the document's way to read a field. -/
import Derived.Test.YtopidfkmligljaaGreatWq3
namespace Go.Proofs.YtopidfkmligljaaGreat
noncomputable section
set_option linter.unusedSimpArgs false
set_option linter.unusedVariables false
set_option maxHeartbeats 4000000
open Go Go.Am Go.RowKit
set_option maxRecDepth 100000
set_option maxHeartbeats 8000000
/- quidnunc/quidnuncref16.many -/
def c82_1 : ACode := .region false [⟨some 1, .box 0, [.t 0], none⟩,
  ⟨some 2, .alloc [(.slice none 0 0), (.int .i64 0), (.int .i64 0)], [], none⟩,
  ⟨some 3, .move, [.c (.val (.int .i64 0))], none⟩] [] [] [1, 2] true [] []
def c82_3 : ACode := .region false [⟨some 6, .load true 3, [.t 1], none⟩,
  ⟨some 7, .call 80, [.t 6, .c (.val (.int .i64 1))], none⟩,
  ⟨some 5, .move, [.t 7], none⟩,
  ⟨some 8, .ext 0, [.t 5], none⟩,
  ⟨some 9, .ext 1, [.t 5], none⟩,
  ⟨none, .store 3, [.t 1, .t 8], none⟩,
  ⟨some 4, .move, [.t 9], none⟩] [] [] [1, 2, 4] true [] []
def c82_6 : ACode := .region false [⟨some 10, .addr 2, [.t 1], none⟩,
  ⟨some 11, .load false 1, [.t 10], none⟩,
  ⟨some 12, .bin .eql, [.t 11, .c (.val (.int .i64 0))], none⟩,
  ⟨some 13, .move, [.t 12], none⟩,
  ⟨some 14, .move, [.t 4], some (some 13, true)⟩,
  ⟨some 15, .bin .gtr, [.t 14, .c (.val (.int .u64 8))], some (some 13, true)⟩,
  ⟨some 16, .pick, [.t 13, .t 15, .c (.val (.bool false))], none⟩] [] [] [1, 2, 4, 16] false [] []
def c82_8 : ACode := .region false [⟨some 17, .addr 2, [.t 1], none⟩,
  ⟨none, .store 1, [.t 17, .c (.val (.int .i64 4))], none⟩] [] [] [1, 2, 4] true [] []
def c82_7 : ACode := .cond (.t 16) c82_8 .skip
def c82_5 : ACode := .seq c82_6 c82_7
def c82_11 : ACode := .region false [⟨some 18, .addr 2, [.t 1], none⟩,
  ⟨some 19, .load false 1, [.t 18], none⟩,
  ⟨some 20, .bin .neq, [.t 19, .c (.val (.int .i64 0))], none⟩] [] [] [1, 2, 4, 20] false [] []
def c82_14 : ACode := .region false [⟨some 21, .load true 3, [.t 1], none⟩,
  ⟨none, .store 3, [.t 2, .t 21], none⟩,
  ⟨some 3, .move, [.c (.val (.int .i64 0))], none⟩] [] [] [2, 3] true [] []
def c82_13 : ACode := .seq c82_14 .ret
def c82_12 : ACode := .cond (.t 20) c82_13 .skip
def c82_10 : ACode := .seq c82_11 c82_12
def c82_16 : ACode := .region false [⟨some 22, .load true 3, [.t 1], none⟩,
  ⟨some 23, .move, [.t 4], none⟩,
  ⟨some 24, .conv .i64, [.t 23], none⟩,
  ⟨none, .store 3, [.t 2, .t 22], none⟩,
  ⟨some 3, .move, [.t 24], none⟩] [] [] [2, 3] true [] []
def c82_15 : ACode := .seq c82_16 .ret
def c82_9 : ACode := .seq c82_10 c82_15
def c82_4 : ACode := .seq c82_5 c82_9
def c82_2 : ACode := .seq c82_3 c82_4
def c82_0 : ACode := .seq c82_1 c82_2
def code82 : Code := (Tryz.f82.body).getD .skip
theorem c82_ok : compC Tryz.prog 25 code82 = some (strip c82_0) := by kernel_rfl
theorem res82_ok : Tryz.f82.results.toList.mapM (resC Tryz.prog) = some [(2, some (true, 3)), (3, none)] := by kernel_rfl
/- quidnunc/quidnuncref16.takeMark -/
def c83_1 : ACode := .region false [⟨some 1, .box 0, [.t 0], none⟩,
  ⟨some 2, .alloc [(.slice none 0 0), (.int .i64 0), (.int .i64 0)], [], none⟩,
  ⟨some 3, .alloc [(.int .i64 0), (.int .i64 0), (.string ⟨#[]⟩)], [], none⟩] [] [] [1, 2, 3] true [] []
def c83_3 : ACode := .region false [⟨some 8, .load true 3, [.t 1], none⟩,
  ⟨some 9, .call 80, [.t 8, .c (.val (.int .i64 4))], none⟩,
  ⟨some 7, .move, [.t 9], none⟩,
  ⟨some 10, .ext 0, [.t 7], none⟩,
  ⟨some 11, .ext 1, [.t 7], none⟩,
  ⟨none, .store 3, [.t 1, .t 10], none⟩,
  ⟨some 4, .move, [.t 11], none⟩] [] [] [1, 2, 3, 4] true [] []
def c83_5 : ACode := .region false [⟨some 13, .load true 3, [.t 1], none⟩,
  ⟨some 14, .call 80, [.t 13, .c (.val (.int .i64 1))], none⟩,
  ⟨some 12, .move, [.t 14], none⟩,
  ⟨some 15, .ext 0, [.t 12], none⟩,
  ⟨some 16, .ext 1, [.t 12], none⟩,
  ⟨none, .store 3, [.t 1, .t 15], none⟩,
  ⟨some 5, .move, [.t 16], none⟩] [] [] [1, 2, 3, 4, 5] true [] []
def c83_7 : ACode := .region false [⟨some 18, .load true 3, [.t 1], none⟩,
  ⟨some 19, .call 132, [.t 18, .c (.val (.int .i64 16))], none⟩,
  ⟨some 17, .move, [.t 19], none⟩,
  ⟨some 20, .ext 0, [.t 17], none⟩,
  ⟨some 21, .ext 1, [.t 17], none⟩,
  ⟨none, .store 3, [.t 1, .t 20], none⟩,
  ⟨some 6, .move, [.t 21], none⟩] [] [] [1, 2, 3, 4, 5, 6] true [] []
def c83_9 : ACode := .region false [⟨some 22, .load true 3, [.t 1], none⟩,
  ⟨some 23, .move, [.t 4], none⟩,
  ⟨some 24, .conv .i64, [.t 23], none⟩,
  ⟨some 25, .move, [.t 5], none⟩,
  ⟨some 26, .conv .i64, [.t 25], none⟩,
  ⟨some 27, .build [(.int .i64 0), (.int .i64 0)] [(0, 1), (1, 1)], [.t 24, .t 26], none⟩,
  ⟨some 28, .move, [.t 6], none⟩,
  ⟨some 29, .build [(.int .i64 0), (.int .i64 0), (.string ⟨#[]⟩)] [(0, 2), (2, 1)], [.t 27, .t 28], none⟩,
  ⟨none, .store 3, [.t 2, .t 22], none⟩,
  ⟨none, .store 3, [.t 3, .t 29], none⟩] [] [] [2, 3] true [] []
def c83_8 : ACode := .seq c83_9 .ret
def c83_6 : ACode := .seq c83_7 c83_8
def c83_4 : ACode := .seq c83_5 c83_6
def c83_2 : ACode := .seq c83_3 c83_4
def c83_0 : ACode := .seq c83_1 c83_2
def code83 : Code := (Tryz.f83.body).getD .skip
theorem c83_ok : compC Tryz.prog 30 code83 = some (strip c83_0) := by kernel_rfl
theorem res83_ok : Tryz.f83.results.toList.mapM (resC Tryz.prog) = some [(2, some (true, 3)), (3, some (true, 3))] := by kernel_rfl
/- quidnunc/quidnuncref16.one -/
def c29_1 : ACode := .region false [⟨some 3, .box 0, [.t 0], none⟩,
  ⟨some 4, .box 0, [.t 1], none⟩,
  ⟨some 6, .alloc [(.slice none 0 0), (.int .i64 0), (.int .i64 0)], [], none⟩,
  ⟨some 7, .alloc [(.int .i64 0), (.int .i64 0), (.int .i64 0), (.bool false), (.slice none 0 0), (.int .i64 0), (.int .u64 0), (.int .i64 0), (.int .i64 0), (.string ⟨#[]⟩), (.slice none 0 0), (.slice none 0 0)], [], none⟩] [] [] [2, 3, 4, 6, 7] true [] []
def c29_3 : ACode := .region false [⟨some 8, .move, [.c (.val (.int .u64 0))], none⟩] [] [] [2, 3, 4, 6, 7] false [] []
def c29_5 : ACode := .region false [⟨some 9, .move, [.c (.val (.int .i64 0))], none⟩] [] [] [2, 3, 4, 6, 7] false [] []
def c29_8 : ACode := .region false [⟨some 15, .move, [.t 2], none⟩] [] [] [3, 4, 6, 7, 15] false [] []
def c29_11 : ACode := .region false [⟨some 39, .bin .eql, [.t 15, .c (.val (.int .i64 0))], none⟩,
  ⟨some 38, .move, [.t 39], none⟩] [] [] [3, 4, 6, 7, 15, 38] false [] []
def c29_14 : ACode := .region false [⟨some 41, .load true 3, [.t 3], none⟩,
  ⟨some 42, .call 80, [.t 41, .c (.val (.int .i64 1))], none⟩,
  ⟨some 40, .move, [.t 42], none⟩,
  ⟨some 43, .ext 0, [.t 40], none⟩,
  ⟨some 44, .ext 1, [.t 40], none⟩,
  ⟨none, .store 3, [.t 3, .t 43], none⟩,
  ⟨some 8, .move, [.t 44], none⟩] [] [] [3, 4, 6, 7, 8] true [] []
def c29_15 : ACode := .region false [⟨some 45, .move, [.t 8], none⟩,
  ⟨some 46, .conv .i64, [.t 45], none⟩,
  ⟨some 47, .addr 1, [.t 4], none⟩,
  ⟨none, .store 1, [.t 47, .t 46], none⟩] [] [] [3, 4, 6, 7] true [] []
def c29_13 : ACode := .seq c29_14 c29_15
def c29_17 : ACode := .region false [⟨some 49, .bin .eql, [.t 15, .c (.val (.int .i64 1))], none⟩,
  ⟨some 48, .move, [.t 49], none⟩] [] [] [3, 4, 6, 7, 15, 48] false [] []
def c29_20 : ACode := .region false [⟨some 51, .load true 3, [.t 3], none⟩,
  ⟨some 52, .call 80, [.t 51, .c (.val (.int .i64 1))], none⟩,
  ⟨some 50, .move, [.t 52], none⟩,
  ⟨some 53, .ext 0, [.t 50], none⟩,
  ⟨some 54, .ext 1, [.t 50], none⟩,
  ⟨none, .store 3, [.t 3, .t 53], none⟩,
  ⟨some 8, .move, [.t 54], none⟩] [] [] [3, 4, 6, 7, 8] true [] []
def c29_21 : ACode := .region false [⟨some 55, .move, [.t 8], none⟩,
  ⟨some 56, .conv .i64, [.t 55], none⟩,
  ⟨some 57, .addr 2, [.t 4], none⟩,
  ⟨none, .store 1, [.t 57, .t 56], none⟩] [] [] [3, 4, 6, 7] true [] []
def c29_19 : ACode := .seq c29_20 c29_21
def c29_23 : ACode := .region false [⟨some 59, .bin .eql, [.t 15, .c (.val (.int .i64 2))], none⟩,
  ⟨some 58, .move, [.t 59], none⟩] [] [] [3, 4, 6, 7, 15, 58] false [] []
def c29_25 : ACode := .region false [⟨some 61, .load true 3, [.t 3], none⟩,
  ⟨some 62, .call 81, [.t 61], none⟩,
  ⟨some 60, .move, [.t 62], none⟩,
  ⟨some 63, .ext 0, [.t 60], none⟩,
  ⟨some 64, .ext 1, [.t 60], none⟩,
  ⟨none, .store 3, [.t 3, .t 63], none⟩,
  ⟨some 65, .addr 3, [.t 4], none⟩,
  ⟨none, .store 1, [.t 65, .t 64], none⟩] [] [] [3, 4, 6, 7] true [] []
def c29_27 : ACode := .region false [⟨some 67, .bin .eql, [.t 15, .c (.val (.int .i64 3))], none⟩,
  ⟨some 66, .move, [.t 67], none⟩] [] [] [3, 4, 6, 7, 15, 66] false [] []
def c29_30 : ACode := .region false [⟨some 69, .load true 3, [.t 3], none⟩,
  ⟨some 70, .call 82, [.t 69], none⟩,
  ⟨some 68, .move, [.t 70], none⟩,
  ⟨some 71, .ext 0, [.t 68], none⟩,
  ⟨some 72, .ext 1, [.t 68], none⟩,
  ⟨none, .store 3, [.t 3, .t 71], none⟩,
  ⟨some 9, .move, [.t 72], none⟩] [] [] [3, 4, 6, 7, 9] true [] []
def c29_32 : ACode := .region false [⟨some 10, .move, [.c (.val (.int .i64 0))], none⟩] [] [] [3, 4, 6, 7, 9, 10] false [] []
def c29_37 : ACode := .region false [⟨some 73, .move, [.t 10], none⟩,
  ⟨some 74, .move, [.t 9], none⟩,
  ⟨some 75, .bin .lss, [.t 73, .t 74], none⟩] [] [] [3, 4, 6, 7, 9, 10, 75] false [] []
def c29_38 : ACode := .cond (.t 75) .skip (.exit 3)
def c29_36 : ACode := .seq c29_37 c29_38
def c29_42 : ACode := .region false [⟨some 79, .load true 3, [.t 3], none⟩,
  ⟨some 80, .call 80, [.t 79, .c (.val (.int .i64 1))], none⟩,
  ⟨some 78, .move, [.t 80], none⟩,
  ⟨some 81, .ext 0, [.t 78], none⟩,
  ⟨some 82, .ext 1, [.t 78], none⟩,
  ⟨none, .store 3, [.t 3, .t 81], none⟩,
  ⟨some 8, .move, [.t 82], none⟩] [] [] [3, 4, 6, 7, 8, 9, 10] true [] []
def c29_43 : ACode := .region false [⟨some 83, .addr 4, [.t 4], none⟩,
  ⟨some 84, .load false 1, [.t 83], none⟩,
  ⟨some 85, .move, [.t 8], none⟩,
  ⟨some 86, .conv .i64, [.t 85], none⟩,
  ⟨some 87, .buildSl 1 1 [(.int .i64 0)] [(0, 1)], [.t 86], none⟩,
  ⟨some 88, .append 1 8 false, [.t 84, .t 87], none⟩,
  ⟨some 89, .addr 4, [.t 4], none⟩,
  ⟨none, .store 1, [.t 89, .t 88], none⟩] [] [] [3, 4, 6, 7, 9, 10] true [] []
def c29_41 : ACode := .seq c29_42 c29_43
def c29_40 : ACode := .block 4 c29_41
def c29_44 : ACode := .region false [⟨some 76, .move, [.t 10], none⟩,
  ⟨some 77, .bin .add, [.t 76, .c (.val (.int .i64 1))], none⟩,
  ⟨some 10, .move, [.t 77], none⟩] [] [] [3, 4, 6, 7, 9, 10] false [] []
def c29_39 : ACode := .seq c29_40 c29_44
def c29_35 : ACode := .seq c29_36 c29_39
def c29_34 : ACode := .loop c29_35
def c29_33 : ACode := .block 3 c29_34
def c29_31 : ACode := .seq c29_32 c29_33
def c29_29 : ACode := .seq c29_30 c29_31
def c29_46 : ACode := .region false [⟨some 91, .bin .eql, [.t 15, .c (.val (.int .i64 4))], none⟩,
  ⟨some 90, .move, [.t 91], none⟩] [] [] [3, 4, 6, 7, 15, 90] false [] []
def c29_49 : ACode := .region false [⟨some 93, .load true 3, [.t 3], none⟩,
  ⟨some 94, .call 80, [.t 93, .c (.val (.int .i64 4))], none⟩,
  ⟨some 92, .move, [.t 94], none⟩,
  ⟨some 95, .ext 0, [.t 92], none⟩,
  ⟨some 96, .ext 1, [.t 92], none⟩,
  ⟨none, .store 3, [.t 3, .t 95], none⟩,
  ⟨some 8, .move, [.t 96], none⟩] [] [] [3, 4, 6, 7, 8] true [] []
def c29_50 : ACode := .region false [⟨some 97, .move, [.t 8], none⟩,
  ⟨some 98, .conv .i64, [.t 97], none⟩,
  ⟨some 99, .addr 5, [.t 4], none⟩,
  ⟨none, .store 1, [.t 99, .t 98], none⟩] [] [] [3, 4, 6, 7] true [] []
def c29_48 : ACode := .seq c29_49 c29_50
def c29_52 : ACode := .region false [⟨some 101, .bin .eql, [.t 15, .c (.val (.int .i64 5))], none⟩,
  ⟨some 100, .move, [.t 101], none⟩] [] [] [3, 4, 6, 7, 15, 100] false [] []
def c29_54 : ACode := .region false [⟨some 103, .load true 3, [.t 3], none⟩,
  ⟨some 104, .call 80, [.t 103, .c (.val (.int .i64 8))], none⟩,
  ⟨some 102, .move, [.t 104], none⟩,
  ⟨some 105, .ext 0, [.t 102], none⟩,
  ⟨some 106, .ext 1, [.t 102], none⟩,
  ⟨none, .store 3, [.t 3, .t 105], none⟩,
  ⟨some 107, .addr 6, [.t 4], none⟩,
  ⟨none, .store 1, [.t 107, .t 106], none⟩] [] [] [3, 4, 6, 7] true [] []
def c29_56 : ACode := .region false [⟨some 109, .bin .eql, [.t 15, .c (.val (.int .i64 6))], none⟩,
  ⟨some 108, .move, [.t 109], none⟩] [] [] [3, 4, 6, 7, 15, 108] false [] []
def c29_58 : ACode := .region false [⟨some 111, .load true 3, [.t 3], none⟩,
  ⟨some 112, .call 83, [.t 111], none⟩,
  ⟨some 110, .move, [.t 112], none⟩,
  ⟨some 113, .ext 0, [.t 110], none⟩,
  ⟨some 114, .ext 1, [.t 110], none⟩,
  ⟨none, .store 3, [.t 3, .t 113], none⟩,
  ⟨some 115, .addr 7, [.t 4], none⟩,
  ⟨none, .store 3, [.t 115, .t 114], none⟩] [] [] [3, 4, 6, 7] true [] []
def c29_60 : ACode := .region false [⟨some 117, .bin .eql, [.t 15, .c (.val (.int .i64 7))], none⟩,
  ⟨some 116, .move, [.t 117], none⟩] [] [] [3, 4, 6, 7, 116] false [] []
def c29_63 : ACode := .region false [⟨some 119, .load true 3, [.t 3], none⟩,
  ⟨some 120, .call 82, [.t 119], none⟩,
  ⟨some 118, .move, [.t 120], none⟩,
  ⟨some 121, .ext 0, [.t 118], none⟩,
  ⟨some 122, .ext 1, [.t 118], none⟩,
  ⟨none, .store 3, [.t 3, .t 121], none⟩,
  ⟨some 9, .move, [.t 122], none⟩] [] [] [3, 4, 6, 7, 9] true [] []
def c29_65 : ACode := .region false [⟨some 11, .move, [.c (.val (.int .i64 0))], none⟩] [] [] [3, 4, 6, 7, 9, 11] false [] []
def c29_70 : ACode := .region false [⟨some 123, .move, [.t 11], none⟩,
  ⟨some 124, .move, [.t 9], none⟩,
  ⟨some 125, .bin .lss, [.t 123, .t 124], none⟩] [] [] [3, 4, 6, 7, 9, 11, 125] false [] []
def c29_71 : ACode := .cond (.t 125) .skip (.exit 5)
def c29_69 : ACode := .seq c29_70 c29_71
def c29_75 : ACode := .region false [⟨some 128, .build [(.int .i64 0), (.int .i64 0), (.string ⟨#[]⟩)] [], [], none⟩,
  ⟨some 12, .alloc [(.int .i64 0), (.int .i64 0), (.string ⟨#[]⟩)], [], none⟩,
  ⟨none, .store 3, [.t 12, .t 128], none⟩] [] [] [3, 4, 6, 7, 9, 11, 12] true [] []
def c29_77 : ACode := .region false [⟨some 130, .load true 3, [.t 3], none⟩,
  ⟨some 131, .call 83, [.t 130], none⟩,
  ⟨some 129, .move, [.t 131], none⟩,
  ⟨some 132, .ext 0, [.t 129], none⟩,
  ⟨some 133, .ext 1, [.t 129], none⟩,
  ⟨none, .store 3, [.t 3, .t 132], none⟩,
  ⟨none, .store 3, [.t 12, .t 133], none⟩] [] [] [3, 4, 6, 7, 9, 11, 12] true [] []
def c29_78 : ACode := .region false [⟨some 134, .addr 10, [.t 4], none⟩,
  ⟨some 135, .load false 1, [.t 134], none⟩,
  ⟨some 136, .load true 3, [.t 12], none⟩,
  ⟨some 137, .buildSl 3 1 [(.int .i64 0), (.int .i64 0), (.string ⟨#[]⟩)] [(0, 3)], [.t 136], none⟩,
  ⟨some 138, .append 3 32 false, [.t 135, .t 137], none⟩,
  ⟨some 139, .addr 10, [.t 4], none⟩,
  ⟨none, .store 1, [.t 139, .t 138], none⟩] [] [] [3, 4, 6, 7, 9, 11] true [] []
def c29_76 : ACode := .seq c29_77 c29_78
def c29_74 : ACode := .seq c29_75 c29_76
def c29_73 : ACode := .block 6 c29_74
def c29_79 : ACode := .region false [⟨some 126, .move, [.t 11], none⟩,
  ⟨some 127, .bin .add, [.t 126, .c (.val (.int .i64 1))], none⟩,
  ⟨some 11, .move, [.t 127], none⟩] [] [] [3, 4, 6, 7, 9, 11] false [] []
def c29_72 : ACode := .seq c29_73 c29_79
def c29_68 : ACode := .seq c29_69 c29_72
def c29_67 : ACode := .loop c29_68
def c29_66 : ACode := .block 5 c29_67
def c29_64 : ACode := .seq c29_65 c29_66
def c29_62 : ACode := .seq c29_63 c29_64
def c29_81 : ACode := .region false [⟨some 17, .load true 3, [.t 3], none⟩,
  ⟨some 18, .call 82, [.t 17], none⟩,
  ⟨some 16, .move, [.t 18], none⟩,
  ⟨some 19, .ext 0, [.t 16], none⟩,
  ⟨some 20, .ext 1, [.t 16], none⟩,
  ⟨none, .store 3, [.t 3, .t 19], none⟩,
  ⟨some 9, .move, [.t 20], none⟩] [] [] [3, 4, 6, 7, 9] true [] []
def c29_83 : ACode := .region false [⟨some 13, .move, [.c (.val (.int .i64 0))], none⟩] [] [] [3, 4, 6, 7, 9, 13] false [] []
def c29_88 : ACode := .region false [⟨some 21, .move, [.t 13], none⟩,
  ⟨some 22, .move, [.t 9], none⟩,
  ⟨some 23, .bin .lss, [.t 21, .t 22], none⟩] [] [] [3, 4, 6, 7, 9, 13, 23] false [] []
def c29_89 : ACode := .cond (.t 23) .skip (.exit 1)
def c29_87 : ACode := .seq c29_88 c29_89
def c29_93 : ACode := .region false [⟨some 26, .build [(.string ⟨#[]⟩), (.string ⟨#[]⟩), (.bool false), (.int .i64 0), (.int .i64 0), (.int .i64 0), (.int .i64 0), (.int .i64 0), (.int .i64 0)] [], [], none⟩,
  ⟨some 14, .alloc [(.string ⟨#[]⟩), (.string ⟨#[]⟩), (.bool false), (.int .i64 0), (.int .i64 0), (.int .i64 0), (.int .i64 0), (.int .i64 0), (.int .i64 0)], [], none⟩,
  ⟨none, .store 9, [.t 14, .t 26], none⟩] [] [] [3, 4, 6, 7, 9, 13, 14] true [] []
def c29_95 : ACode := .region false [⟨some 28, .load true 3, [.t 3], none⟩,
  ⟨some 29, .call 84, [.t 28], none⟩,
  ⟨some 27, .move, [.t 29], none⟩,
  ⟨some 30, .ext 0, [.t 27], none⟩,
  ⟨some 31, .ext 1, [.t 27], none⟩,
  ⟨none, .store 3, [.t 3, .t 30], none⟩,
  ⟨none, .store 9, [.t 14, .t 31], none⟩] [] [] [3, 4, 6, 7, 9, 13, 14] true [] []
def c29_96 : ACode := .region false [⟨some 32, .addr 11, [.t 4], none⟩,
  ⟨some 33, .load false 1, [.t 32], none⟩,
  ⟨some 34, .load true 9, [.t 14], none⟩,
  ⟨some 35, .buildSl 9 1 [(.string ⟨#[]⟩), (.string ⟨#[]⟩), (.bool false), (.int .i64 0), (.int .i64 0), (.int .i64 0), (.int .i64 0), (.int .i64 0), (.int .i64 0)] [(0, 9)], [.t 34], none⟩,
  ⟨some 36, .append 9 88 false, [.t 33, .t 35], none⟩,
  ⟨some 37, .addr 11, [.t 4], none⟩,
  ⟨none, .store 1, [.t 37, .t 36], none⟩] [] [] [3, 4, 6, 7, 9, 13] true [] []
def c29_94 : ACode := .seq c29_95 c29_96
def c29_92 : ACode := .seq c29_93 c29_94
def c29_91 : ACode := .block 2 c29_92
def c29_97 : ACode := .region false [⟨some 24, .move, [.t 13], none⟩,
  ⟨some 25, .bin .add, [.t 24, .c (.val (.int .i64 1))], none⟩,
  ⟨some 13, .move, [.t 25], none⟩] [] [] [3, 4, 6, 7, 9, 13] false [] []
def c29_90 : ACode := .seq c29_91 c29_97
def c29_86 : ACode := .seq c29_87 c29_90
def c29_85 : ACode := .loop c29_86
def c29_84 : ACode := .block 1 c29_85
def c29_82 : ACode := .seq c29_83 c29_84
def c29_80 : ACode := .seq c29_81 c29_82
def c29_61 : ACode := .cond (.t 116) c29_62 c29_80
def c29_59 : ACode := .seq c29_60 c29_61
def c29_57 : ACode := .cond (.t 108) c29_58 c29_59
def c29_55 : ACode := .seq c29_56 c29_57
def c29_53 : ACode := .cond (.t 100) c29_54 c29_55
def c29_51 : ACode := .seq c29_52 c29_53
def c29_47 : ACode := .cond (.t 90) c29_48 c29_51
def c29_45 : ACode := .seq c29_46 c29_47
def c29_28 : ACode := .cond (.t 66) c29_29 c29_45
def c29_26 : ACode := .seq c29_27 c29_28
def c29_24 : ACode := .cond (.t 58) c29_25 c29_26
def c29_22 : ACode := .seq c29_23 c29_24
def c29_18 : ACode := .cond (.t 48) c29_19 c29_22
def c29_16 : ACode := .seq c29_17 c29_18
def c29_12 : ACode := .cond (.t 38) c29_13 c29_16
def c29_10 : ACode := .seq c29_11 c29_12
def c29_9 : ACode := .block 0 c29_10
def c29_7 : ACode := .seq c29_8 c29_9
def c29_99 : ACode := .region true [⟨some 140, .load true 3, [.t 3], none⟩,
  ⟨some 141, .load true 12, [.t 4], none⟩,
  ⟨none, .store 3, [.t 6, .t 140], none⟩,
  ⟨none, .store 12, [.t 7, .t 141], none⟩] [] [] [6, 7] true [6, 7] []
def c29_98 : ACode := .seq c29_99 .ret
def c29_6 : ACode := .seq c29_7 c29_98
def c29_4 : ACode := .seq c29_5 c29_6
def c29_2 : ACode := .seq c29_3 c29_4
def c29_0 : ACode := .seq c29_1 c29_2
def code29 : Code := (Tryz.f29.body).getD .skip
theorem c29_ok : compC Tryz.prog 142 code29 = some (strip c29_0) := by kernel_rfl
theorem res29_ok : Tryz.f29.results.toList.mapM (resC Tryz.prog) = some [(6, some (true, 3)), (7, some (true, 12))] := by kernel_rfl
theorem rmany_any {P : List AV} {off : Nat} {L : List Int} (s : Seg P off L) (hb : bytesB L) (c : Cu) (ha : c.a ≤ L.length) : ACall Tryz.prog 82 [CurA off L.length c.a c.e] [.cells true P] (Det (.tup [CurA off L.length (manyC L c).a (manyC L c).e, I (manyN L c)]) [.cells true P]) := by
  have c1 := ctake_any s hb c ha 1
  have b1 := numV_lt hb 1 c
  simp only [show (1 : Int).toNat = 1 from rfl, Int.reducePow] at b1
  have hv0 := fun (h : (numC L 1 c).e ≠ 0) => numV_err h
  unfold manyN manyC
  obtain ⟨v, hv⟩ : ∃ v : Nat, (numV L 1 c) = (v : Int) := ⟨(numV L 1 c).toNat, by omega⟩
  rw [hv] at c1 b1 hv0 ⊢
  simp only [Int.toNat_natCast]
  generalize numC L 1 c = d at *
  obtain ⟨da, de⟩ := d
  simp only at *
  by_cases he : de = 0
  · subst he
    by_cases h8 : 8 < (v : Int)
    · have g8 : ((8 : Int) < (v : Int)) = True := eq_true h8
      rw [if_pos h8, show failI 0 4 = 4 from rfl, if_neg (by decide)]
      refine ACall.startA c82_ok Tryz.func82 rfl Tryz.ntmps82 (by kernel_rfl) res82_ok rfl rfl rfl ?_; simp (maxSteps := 9999999) (disch := omega) only [go_sem]
      (have k9 := And.intro @s.ren (And.intro @g8 (k0)); have a1 := Arm.mk [0] c1; refine goK ?_; (try clear k9); (try clear a1))
      (have k9 := And.intro @s.ren (k0); exact Ret.dk [0])
    · have g8 : ((8 : Int) < (v : Int)) = False := eq_false h8
      rw [if_neg h8, if_pos rfl]
      refine ACall.startA c82_ok Tryz.func82 rfl Tryz.ntmps82 (by kernel_rfl) res82_ok rfl rfl rfl ?_; simp (maxSteps := 9999999) (disch := omega) only [go_sem]
      (have k9 := And.intro @s.ren (And.intro @g8 (k0)); have a1 := Arm.mk [0] c1; refine goK ?_; (try clear k9); (try clear a1))
      (have k9 := And.intro @s.ren (k0); exact Ret.dk [0])
  · have g : (de == 0) = false := by simpa using he
    have hv1 := hv0 he
    have hv2 : v = 0 := by omega
    subst hv2
    rw [if_neg (by decide), if_neg he]
    refine ACall.startA c82_ok Tryz.func82 rfl Tryz.ntmps82 (by kernel_rfl) res82_ok rfl rfl rfl ?_; simp (maxSteps := 9999999) (disch := omega) only [go_sem]
    (have k9 := And.intro @s.ren (And.intro @g (k0)); have a1 := Arm.mk [0] c1; refine goK ?_; (try clear k9); (try clear a1))
    (have k9 := And.intro @s.ren (k0); exact Ret.dk [0])
theorem rtakemark_any {P : List AV} {off : Nat} {L : List Int} (s : Seg P off L) (hb : bytesB L) (c : Cu) (ha : c.a ≤ L.length) : ACall Tryz.prog 83 [CurA off L.length c.a c.e] [.cells true P] (Det (.tup [CurA off L.length (mkR.cur L c).a (mkR.cur L c).e, MkG (mkR.val L c)]) [.cells true P]) := by
  have l1 : (numC L 4 c).a ≤ L.length := numC_le ha
  have l2 : (numC L 1 (numC L 4 c)).a ≤ L.length := numC_le l1
  have r1 := ctake_any s hb c ha 4
  have r2 := ctake_any s hb (numC L 4 c) l1 1
  have r3 := ctext_any s hb (numC L 1 (numC L 4 c)) l2 16
  have b0 := numV_lt hb 4 c
  have b1 := numV_lt hb 1 (numC L 4 c)
  simp only [show (4 : Int).toNat = 4 from rfl, show (1 : Int).toNat = 1 from rfl, Int.reducePow] at b0 b1
  show ACall Tryz.prog _ _ _ (Det (.tup [CurA off L.length (textC L 16 (numC L 1 (numC L 4 c))).a (textC L 16 (numC L 1 (numC L 4 c))).e, MkG ⟨⟨numV L 4 c, numV L 1 (numC L 4 c)⟩, textV L 16 (numC L 1 (numC L 4 c))⟩]) [.cells true P])
  generalize numV L 4 c = v1 at *
  generalize numV L 1 (numC L 4 c) = v2 at *
  generalize textV L 16 (numC L 1 (numC L 4 c)) = v3 at *
  generalize textC L 16 (numC L 1 (numC L 4 c)) = c3 at *
  generalize numC L 1 (numC L 4 c) = c2 at *
  generalize numC L 4 c = c1 at *
  refine ACall.startA c83_ok Tryz.func83 rfl Tryz.ntmps83 (by kernel_rfl) res83_ok rfl rfl rfl ?_; simp (maxSteps := 9999999) (disch := omega) only [go_sem]
  (have k9 := And.intro @s.ren (k0); have a1 := Arm.mk [0] r1; have a2 := Arm.mk [0] r2; have a3 := Arm.mk [0] r3; refine goK ?_; (try clear k9); (try clear a1); (try clear a2); (try clear a3))
  (have k9 := And.intro @s.ren (k0); exact Ret.dk [0])
theorem one0_any {P : List AV} {off : Nat} {L : List Int} (s : Seg P off L) (hb : bytesB L) (c : Cu) (ha : c.a ≤ L.length) (x : Wm) (d : Cu) (hd : d = (fRD 0).cur L c) (y : Wm) (hy : y = setF 0 x ((fRD 0).val L c)) : ACall Tryz.prog 29 [CurA off L.length c.a c.e, WmA x 1 0 2 0 3 0, I 0] [.cells true P, .cells false (Ri 0 x.peers), .cells false (Rm 0 x.marks), .cells false (Re 0 x.ents)] (Det (.tup [CurA off L.length d.a d.e, WmA y 1 0 2 0 3 0]) [.cells true P, .cells false (Ri 0 x.peers), .cells false (Rm 0 x.marks), .cells false (Re 0 x.ents)]) := by
  have hi := ri_ren
  have hm := rm_ren
  have he := re_ren
  have c1 := ctake_any s hb c ha 1
  have hd : d = numC L 1 c := hd
  have hy : y = { x with peer := numV L 1 c } := hy
  have b0 := numV_lt hb 1 c
  simp only [show (1 : Int).toNat = 1 from rfl, Int.reducePow] at b0
  subst hy
  rw [← hd] at c1
  (try simp only)
  generalize numV L 1 c = v at *
  clear hd
  refine ACall.startA c29_ok Tryz.func29 rfl Tryz.ntmps29 (by kernel_rfl) res29_ok rfl rfl rfl ?_; simp (maxSteps := 9999999) (disch := omega) only [go_sem]
  (have k9 := And.intro @hi (And.intro @hm (And.intro @he (And.intro @s.ren (k0)))); have a1 := Arm.mk [0] c1; refine goK ?_; (try clear k9); (try clear a1))
  (have k9 := And.intro @hi (And.intro @hm (And.intro @he (And.intro @s.ren (k0)))); exact Ret.dk [0, 1, 2, 3])
theorem one1_any {P : List AV} {off : Nat} {L : List Int} (s : Seg P off L) (hb : bytesB L) (c : Cu) (ha : c.a ≤ L.length) (x : Wm) (d : Cu) (hd : d = (fRD 1).cur L c) (y : Wm) (hy : y = setF 1 x ((fRD 1).val L c)) : ACall Tryz.prog 29 [CurA off L.length c.a c.e, WmA x 1 0 2 0 3 0, I 1] [.cells true P, .cells false (Ri 0 x.peers), .cells false (Rm 0 x.marks), .cells false (Re 0 x.ents)] (Det (.tup [CurA off L.length d.a d.e, WmA y 1 0 2 0 3 0]) [.cells true P, .cells false (Ri 0 x.peers), .cells false (Rm 0 x.marks), .cells false (Re 0 x.ents)]) := by
  have hi := ri_ren
  have hm := rm_ren
  have he := re_ren
  have c1 := ctake_any s hb c ha 1
  have hd : d = numC L 1 c := hd
  have hy : y = { x with hops := numV L 1 c } := hy
  have b0 := numV_lt hb 1 c
  simp only [show (1 : Int).toNat = 1 from rfl, Int.reducePow] at b0
  subst hy
  rw [← hd] at c1
  (try simp only)
  generalize numV L 1 c = v at *
  clear hd
  refine ACall.startA c29_ok Tryz.func29 rfl Tryz.ntmps29 (by kernel_rfl) res29_ok rfl rfl rfl ?_; simp (maxSteps := 9999999) (disch := omega) only [go_sem]
  (have k9 := And.intro @hi (And.intro @hm (And.intro @he (And.intro @s.ren (k0)))); have a1 := Arm.mk [0] c1; refine goK ?_; (try clear k9); (try clear a1))
  (have k9 := And.intro @hi (And.intro @hm (And.intro @he (And.intro @s.ren (k0)))); exact Ret.dk [0, 1, 2, 3])
theorem one2_any {P : List AV} {off : Nat} {L : List Int} (s : Seg P off L) (hb : bytesB L) (c : Cu) (ha : c.a ≤ L.length) (x : Wm) (d : Cu) (hd : d = (fRD 2).cur L c) (y : Wm) (hy : y = setF 2 x ((fRD 2).val L c)) : ACall Tryz.prog 29 [CurA off L.length c.a c.e, WmA x 1 0 2 0 3 0, I 2] [.cells true P, .cells false (Ri 0 x.peers), .cells false (Rm 0 x.marks), .cells false (Re 0 x.ents)] (Det (.tup [CurA off L.length d.a d.e, WmA y 1 0 2 0 3 0]) [.cells true P, .cells false (Ri 0 x.peers), .cells false (Rm 0 x.marks), .cells false (Re 0 x.ents)]) := by
  have hi := ri_ren
  have hm := rm_ren
  have he := re_ren
  have c1 := cflag_any s c ha
  have hd : d = flagC L c := hd
  have hy : y = { x with high := flagV L c } := hy
  subst hy
  rw [← hd] at c1
  (try simp only)
  generalize flagV L c = v at *
  clear hd
  refine ACall.startA c29_ok Tryz.func29 rfl Tryz.ntmps29 (by kernel_rfl) res29_ok rfl rfl rfl ?_; simp (maxSteps := 9999999) (disch := omega) only [go_sem]
  (have k9 := And.intro @hi (And.intro @hm (And.intro @he (And.intro @s.ren (k0)))); have a1 := Arm.mk [0] c1; refine goK ?_; (try clear k9); (try clear a1))
  (have k9 := And.intro @hi (And.intro @hm (And.intro @he (And.intro @s.ren (k0)))); exact Ret.dk [0, 1, 2, 3])
theorem one4_any {P : List AV} {off : Nat} {L : List Int} (s : Seg P off L) (hb : bytesB L) (c : Cu) (ha : c.a ≤ L.length) (x : Wm) (d : Cu) (hd : d = (fRD 4).cur L c) (y : Wm) (hy : y = setF 4 x ((fRD 4).val L c)) : ACall Tryz.prog 29 [CurA off L.length c.a c.e, WmA x 1 0 2 0 3 0, I 4] [.cells true P, .cells false (Ri 0 x.peers), .cells false (Rm 0 x.marks), .cells false (Re 0 x.ents)] (Det (.tup [CurA off L.length d.a d.e, WmA y 1 0 2 0 3 0]) [.cells true P, .cells false (Ri 0 x.peers), .cells false (Rm 0 x.marks), .cells false (Re 0 x.ents)]) := by
  have hi := ri_ren
  have hm := rm_ren
  have he := re_ren
  have c1 := ctake_any s hb c ha 4
  have hd : d = numC L 4 c := hd
  have hy : y = { x with num := numV L 4 c } := hy
  have b0 := numV_lt hb 4 c
  simp only [show (4 : Int).toNat = 4 from rfl, Int.reducePow] at b0
  subst hy
  rw [← hd] at c1
  (try simp only)
  generalize numV L 4 c = v at *
  clear hd
  refine ACall.startA c29_ok Tryz.func29 rfl Tryz.ntmps29 (by kernel_rfl) res29_ok rfl rfl rfl ?_; simp (maxSteps := 9999999) (disch := omega) only [go_sem]
  (have k9 := And.intro @hi (And.intro @hm (And.intro @he (And.intro @s.ren (k0)))); have a1 := Arm.mk [0] c1; refine goK ?_; (try clear k9); (try clear a1))
  (have k9 := And.intro @hi (And.intro @hm (And.intro @he (And.intro @s.ren (k0)))); exact Ret.dk [0, 1, 2, 3])
theorem one5_any {P : List AV} {off : Nat} {L : List Int} (s : Seg P off L) (hb : bytesB L) (c : Cu) (ha : c.a ≤ L.length) (x : Wm) (d : Cu) (hd : d = (fRD 5).cur L c) (y : Wm) (hy : y = setF 5 x ((fRD 5).val L c)) : ACall Tryz.prog 29 [CurA off L.length c.a c.e, WmA x 1 0 2 0 3 0, I 5] [.cells true P, .cells false (Ri 0 x.peers), .cells false (Rm 0 x.marks), .cells false (Re 0 x.ents)] (Det (.tup [CurA off L.length d.a d.e, WmA y 1 0 2 0 3 0]) [.cells true P, .cells false (Ri 0 x.peers), .cells false (Rm 0 x.marks), .cells false (Re 0 x.ents)]) := by
  have hi := ri_ren
  have hm := rm_ren
  have he := re_ren
  have c1 := ctake_any s hb c ha 8
  have hd : d = numC L 8 c := hd
  have hy : y = { x with sum := numV L 8 c } := hy
  subst hy
  rw [← hd] at c1
  (try simp only)
  generalize numV L 8 c = v at *
  clear hd
  refine ACall.startA c29_ok Tryz.func29 rfl Tryz.ntmps29 (by kernel_rfl) res29_ok rfl rfl rfl ?_; simp (maxSteps := 9999999) (disch := omega) only [go_sem]
  (have k9 := And.intro @hi (And.intro @hm (And.intro @he (And.intro @s.ren (k0)))); have a1 := Arm.mk [0] c1; refine goK ?_; (try clear k9); (try clear a1))
  (have k9 := And.intro @hi (And.intro @hm (And.intro @he (And.intro @s.ren (k0)))); exact Ret.dk [0, 1, 2, 3])
theorem one6_any {P : List AV} {off : Nat} {L : List Int} (s : Seg P off L) (hb : bytesB L) (c : Cu) (ha : c.a ≤ L.length) (x : Wm) (d : Cu) (hd : d = (fRD 6).cur L c) (y : Wm) (hy : y = setF 6 x ((fRD 6).val L c)) : ACall Tryz.prog 29 [CurA off L.length c.a c.e, WmA x 1 0 2 0 3 0, I 6] [.cells true P, .cells false (Ri 0 x.peers), .cells false (Rm 0 x.marks), .cells false (Re 0 x.ents)] (Det (.tup [CurA off L.length d.a d.e, WmA y 1 0 2 0 3 0]) [.cells true P, .cells false (Ri 0 x.peers), .cells false (Rm 0 x.marks), .cells false (Re 0 x.ents)]) := by
  have hi := ri_ren
  have hm := rm_ren
  have he := re_ren
  have c1 := rtakemark_any s hb c ha
  have hd : d = mkR.cur L c := hd
  have hy : y = { x with mark := mkR.val L c } := hy
  subst hy
  rw [← hd] at c1
  (try simp only)
  generalize mkR.val L c = v at *
  clear hd
  refine ACall.startA c29_ok Tryz.func29 rfl Tryz.ntmps29 (by kernel_rfl) res29_ok rfl rfl rfl ?_; simp (maxSteps := 9999999) (disch := omega) only [go_sem]
  (have k9 := And.intro @hi (And.intro @hm (And.intro @he (And.intro @s.ren (k0)))); have a1 := Arm.mk [0] c1; refine goK ?_; (try clear k9); (try clear a1))
  (have k9 := And.intro @hi (And.intro @hm (And.intro @he (And.intro @s.ren (k0)))); exact Ret.dk [0, 1, 2, 3])
theorem one3_any {P : List AV} {off : Nat} {L : List Int} (s : Seg P off L) (hb : bytesB L) (c : Cu) (ha : c.a ≤ L.length) (x : Wm) (hx : x.peers = []) (d : Cu) (hd : d = (fRD 3).cur L c) (y : Wm) (hy : y = setF 3 x ((fRD 3).val L c)) : ACall Tryz.prog 29 [CurA off L.length c.a c.e, WmA x 1 0 2 0 3 0, I 3] [.cells true P, .cells false (Ri 0 x.peers), .cells false (Rm 0 x.marks), .cells false (Re 0 x.ents)] (Det (.tup [CurA off L.length d.a d.e, WmA y 4 0 2 0 3 0]) [.cells true P, .gone, .cells false (Rm 0 x.marks), .cells false (Re 0 x.ents), .cells false (Ri 0 y.peers)]) := by
  have hi := ri_ren
  have hm := rm_ren
  have he := re_ren
  have c0 := rmany_any s hb c ha
  have hle := many_le (L := L) ha
  have hcon : ∀ z : Cu, z.a ≤ L.length → _ := fun z hz => ctake_any s hb z hz 1
  have hd : d = (lsD (numR 1) L (manyC L c) (manyN L c)).1 := hd
  have hy : y = { x with peers := (lsD (numR 1) L (manyC L c) (manyN L c)).2 } := hy
  have hn8 : manyN L c ≤ 255 := by
    have := numV_lt hb 1 c
    simp only [show (1 : Int).toNat = 1 from rfl, Int.reducePow] at this
    unfold manyN
    split <;> omega
  subst hd hy
  have hld := fun n => lsD_len (numR 1) (L := L) (c := manyC L c) n
  have hS : ∀ n, lsD (numR 1) L (manyC L c) (n + 1) = ((numR 1).cur L (lsD (numR 1) L (manyC L c) n).1, (lsD (numR 1) L (manyC L c) n).2 ++ [(numR 1).val L (lsD (numR 1) L (manyC L c) n).1]) := fun n => rfl
  have h0 : lsD (numR 1) L (manyC L c) 0 = (manyC L c, []) := rfl
  have hla := fun n => lsD_le (numR_ok (w := 1) (by decide)) hb hle n
  generalize manyC L c = c2 at *
  generalize manyN L c = k at *
  refine ACall.startA c29_ok Tryz.func29 rfl Tryz.ntmps29 (by kernel_rfl) res29_ok rfl rfl rfl ?_; simp (maxSteps := 9999999) (disch := omega) only [go_sem]
  (have k9 := And.intro @hi (And.intro @hm (And.intro @he (And.intro @s.ren (k0)))); have a1 := Arm.mk [0] c0; refine goK ?_; (try clear k9); (try clear a1))
  (apply AWpA.loopL (fun n : Nat => [(3, .ptr 5 0), (4, .ptr 6 0), (6, .ptr 7 0), (7, .ptr 8 0), (9, I k), (10, I n)]) (fun n => [.cells true P, .gone, .cells false (Rm 0 x.marks), .cells false (Re 0 x.ents), .cells false (Ri 0 (lsD (numR 1) L c2 n).2), .cells false [.sl 0 off L.length 1 none, I ((lsD (numR 1) L c2 n).1.a : Int), I (lsD (numR 1) L c2 n).1.e], .cells false [I x.kind, I x.peer, I x.hops, Bo x.high, .sl 4 0 n 1 none, I x.num, U64 x.sum, I x.mark.act.c, I x.mark.act.s, Str x.mark.key, .sl 2 0 x.marks.length 3 none, .sl 3 0 x.ents.length 9 none], .cells false [.val (.slice none 0 0), I 0, I 0], .cells false [I 0, I 0, I 0, Bo false, .val (.slice none 0 0), I 0, U64 0, I 0, I 0, Str ⟨#[]⟩, .val (.slice none 0 0), .val (.slice none 0 0)]]) (fun n => k - n) (fun n => n ≤ k) (0) [0, 1, 2, 3, 1, 4, 20, 36, 52]; rotate_left; (focus (simp (maxSteps := 9999999) (disch := omega) only [go_sem, hi, hm, he, s.ren, h0, hx, ri_nil, List.length_nil]; (try (repeat' (first | done | trivial | rfl | exact leAs_rfl _ | decide | (refine And.intro ?_ ?_) | (simp; done) | omega | (simp; decide)))))); rotate_right)
  · exact Nat.zero_le _
  rintro n hnk
  (try simp only at hnk)
  have hld := hld n
  by_cases hin : n < k
  · have g1 : ((n : Int) < (k : Int)) = True := eq_true (by omega)
    have hS := hS n
    have hcn := hcon _ (hla n)
    have b0 := numV_lt hb 1 (lsD (numR 1) L c2 n).1
    have happ := ri_app (lsD (numR 1) L c2 n).2 [(numR 1).val L (lsD (numR 1) L c2 n).1]
    rw [ri_one] at happ
    have hfu := ri_all (lsD (numR 1) L c2 n).2 (n := n * 1) (by simp [hld])
    have hlr := ri_len 0 (lsD (numR 1) L c2 n).2
    rw [hld] at hlr
    clear hcon hla h0
    simp only [show (1 : Int).toNat = 1 from rfl, Int.reducePow] at b0
    rw [show numV L 1 (lsD (numR 1) L c2 n).1 = (numR 1).val L (lsD (numR 1) L c2 n).1 from rfl] at b0 hcn
    rw [show numC L 1 (lsD (numR 1) L c2 n).1 = (numR 1).cur L (lsD (numR 1) L c2 n).1 from rfl] at hcn
    generalize (numR 1).val L (lsD (numR 1) L c2 n).1 = v at *
    generalize (numR 1).cur L (lsD (numR 1) L c2 n).1 = d at *
    generalize lsD (numR 1) L c2 n = p at *
    (try simp only [Nat.mul_one] at hfu)
    (try simp (maxSteps := 9999999) (disch := omega) only [go_sem])
    (have k9 := And.intro @hi (And.intro @hm (And.intro @he (And.intro @s.ren (And.intro @g1 (And.intro @hlr (k0)))))); have a1 := Arm.mk [0] hcn; refine goK ?_; (try clear k9); (try clear a1))
    (have k9 := And.intro @hi (And.intro @hm (And.intro @he (And.intro @s.ren (And.intro @hS (And.intro @happ (And.intro @hfu (And.intro @renL_append (k0)))))))); refine Back.tk (n + 1) [0, 1, 2, 3, 249, 5, 6, 7, 8] ?_)
    omega
  · obtain rfl : n = k := by omega
    have g1 : ((n : Int) < (n : Int)) = False := eq_false (by omega)
    clear hcon hla h0 hS
    generalize lsD (numR 1) L c2 n = p at *
    (try simp (maxSteps := 9999999) (disch := omega) only [go_sem])
    (have k9 := And.intro @hi (And.intro @hm (And.intro @he (And.intro @s.ren (And.intro @g1 (k0))))); refine goK ?_; (try clear k9))
    (have k9 := And.intro @hi (And.intro @hm (And.intro @he (And.intro @s.ren (And.intro @hld (k0))))); exact Ret.dk [0, 1, 2, 3, 4])
theorem one7_any {P : List AV} {off : Nat} {L : List Int} (s : Seg P off L) (hb : bytesB L) (c : Cu) (ha : c.a ≤ L.length) (x : Wm) (hx : x.marks = []) (d : Cu) (hd : d = (fRD 7).cur L c) (y : Wm) (hy : y = setF 7 x ((fRD 7).val L c)) : ACall Tryz.prog 29 [CurA off L.length c.a c.e, WmA x 1 0 2 0 3 0, I 7] [.cells true P, .cells false (Ri 0 x.peers), .cells false (Rm 0 x.marks), .cells false (Re 0 x.ents)] (Det (.tup [CurA off L.length d.a d.e, WmA y 1 0 4 0 3 0]) [.cells true P, .cells false (Ri 0 x.peers), .gone, .cells false (Re 0 x.ents), .cells false (Rm 0 y.marks)]) := by
  have hi := ri_ren
  have hm := rm_ren
  have he := re_ren
  have c0 := rmany_any s hb c ha
  have hle := many_le (L := L) ha
  have hcon : ∀ z : Cu, z.a ≤ L.length → _ := fun z hz => rtakemark_any s hb z hz
  have hd : d = (lsD mkR L (manyC L c) (manyN L c)).1 := hd
  have hy : y = { x with marks := (lsD mkR L (manyC L c) (manyN L c)).2 } := hy
  have hn8 : manyN L c ≤ 255 := by
    have := numV_lt hb 1 c
    simp only [show (1 : Int).toNat = 1 from rfl, Int.reducePow] at this
    unfold manyN
    split <;> omega
  subst hd hy
  have hld := fun n => lsD_len mkR (L := L) (c := manyC L c) n
  have hS : ∀ n, lsD mkR L (manyC L c) (n + 1) = (mkR.cur L (lsD mkR L (manyC L c) n).1, (lsD mkR L (manyC L c) n).2 ++ [mkR.val L (lsD mkR L (manyC L c) n).1]) := fun n => rfl
  have h0 : lsD mkR L (manyC L c) 0 = (manyC L c, []) := rfl
  have hla := fun n => lsD_le mkR_ok hb hle n
  generalize manyC L c = c2 at *
  generalize manyN L c = k at *
  refine ACall.startA c29_ok Tryz.func29 rfl Tryz.ntmps29 (by kernel_rfl) res29_ok rfl rfl rfl ?_; simp (maxSteps := 9999999) (disch := omega) only [go_sem]
  (have k9 := And.intro @hi (And.intro @hm (And.intro @he (And.intro @s.ren (k0)))); have a1 := Arm.mk [0] c0; refine goK ?_; (try clear k9); (try clear a1))
  (apply AWpA.loopL (fun n : Nat => [(3, .ptr 5 0), (4, .ptr 6 0), (6, .ptr 7 0), (7, .ptr 8 0), (9, I k), (11, I n)]) (fun n => [.cells true P, .cells false (Ri 0 x.peers), .gone, .cells false (Re 0 x.ents), .cells false (Rm 0 (lsD mkR L c2 n).2), .cells false [.sl 0 off L.length 1 none, I ((lsD mkR L c2 n).1.a : Int), I (lsD mkR L c2 n).1.e], .cells false [I x.kind, I x.peer, I x.hops, Bo x.high, .sl 1 0 x.peers.length 1 none, I x.num, U64 x.sum, I x.mark.act.c, I x.mark.act.s, Str x.mark.key, .sl 4 0 n 3 none, .sl 3 0 x.ents.length 9 none], .cells false [.val (.slice none 0 0), I 0, I 0], .cells false [I 0, I 0, I 0, Bo false, .val (.slice none 0 0), I 0, U64 0, I 0, I 0, Str ⟨#[]⟩, .val (.slice none 0 0), .val (.slice none 0 0)]]) (fun n => k - n) (fun n => n ≤ k) (0) [0, 1, 2, 3, 2, 4, 20, 36, 52]; rotate_left; (focus (simp (maxSteps := 9999999) (disch := omega) only [go_sem, hi, hm, he, s.ren, h0, hx, rm_nil, List.length_nil]; (try (repeat' (first | done | trivial | rfl | exact leAs_rfl _ | decide | (refine And.intro ?_ ?_) | (simp; done) | omega | (simp; decide)))))); rotate_right)
  · exact Nat.zero_le _
  rintro n hnk
  (try simp only at hnk)
  have hld := hld n
  by_cases hin : n < k
  · have g1 : ((n : Int) < (k : Int)) = True := eq_true (by omega)
    have hS := hS n
    have hcn := hcon _ (hla n)
    have b0 := True.intro
    have happ := rm_app (lsD mkR L c2 n).2 [mkR.val L (lsD mkR L c2 n).1]
    rw [rm_one] at happ
    have hfu := rm_all (lsD mkR L c2 n).2 (n := n * 3) (by simp [hld])
    have hlr := rm_len 0 (lsD mkR L c2 n).2
    rw [hld] at hlr
    clear hcon hla h0
    generalize mkR.val L (lsD mkR L c2 n).1 = v at *
    generalize mkR.cur L (lsD mkR L c2 n).1 = d at *
    generalize lsD mkR L c2 n = p at *
    (try simp only [Nat.mul_one] at hfu)
    (try simp (maxSteps := 9999999) (disch := omega) only [go_sem])
    (have k9 := And.intro @hi (And.intro @hm (And.intro @he (And.intro @s.ren (And.intro @g1 (And.intro @hlr (k0)))))); have a1 := Arm.mk [0] hcn; refine goK ?_; (try clear k9); (try clear a1))
    (have k9 := And.intro @hi (And.intro @hm (And.intro @he (And.intro @s.ren (And.intro @hS (And.intro @happ (And.intro @hfu (And.intro @renL_append (k0)))))))); refine Back.tk (n + 1) [0, 1, 2, 3, 281, 5, 6, 7, 8] ?_)
    omega
  · obtain rfl : n = k := by omega
    have g1 : ((n : Int) < (n : Int)) = False := eq_false (by omega)
    clear hcon hla h0 hS
    generalize lsD mkR L c2 n = p at *
    (try simp (maxSteps := 9999999) (disch := omega) only [go_sem])
    (have k9 := And.intro @hi (And.intro @hm (And.intro @he (And.intro @s.ren (And.intro @g1 (k0))))); refine goK ?_; (try clear k9))
    (have k9 := And.intro @hi (And.intro @hm (And.intro @he (And.intro @s.ren (And.intro @hld (k0))))); exact Ret.dk [0, 1, 2, 3, 4])
theorem one8_any {P : List AV} {off : Nat} {L : List Int} (s : Seg P off L) (hb : bytesB L) (c : Cu) (ha : c.a ≤ L.length) (x : Wm) (hx : x.ents = []) (d : Cu) (hd : d = (fRD 8).cur L c) (y : Wm) (hy : y = setF 8 x ((fRD 8).val L c)) : ACall Tryz.prog 29 [CurA off L.length c.a c.e, WmA x 1 0 2 0 3 0, I 8] [.cells true P, .cells false (Ri 0 x.peers), .cells false (Rm 0 x.marks), .cells false (Re 0 x.ents)] (Det (.tup [CurA off L.length d.a d.e, WmA y 1 0 2 0 4 0]) [.cells true P, .cells false (Ri 0 x.peers), .cells false (Rm 0 x.marks), .gone, .cells false (Re 0 y.ents)]) := by
  have hi := ri_ren
  have hm := rm_ren
  have he := re_ren
  have c0 := rmany_any s hb c ha
  have hle := many_le (L := L) ha
  have hcon : ∀ z : Cu, z.a ≤ L.length → _ := fun z hz => ctakeE_any s hb z hz
  have hd : d = (lsD enR L (manyC L c) (manyN L c)).1 := hd
  have hy : y = { x with ents := (lsD enR L (manyC L c) (manyN L c)).2 } := hy
  have hn8 : manyN L c ≤ 255 := by
    have := numV_lt hb 1 c
    simp only [show (1 : Int).toNat = 1 from rfl, Int.reducePow] at this
    unfold manyN
    split <;> omega
  subst hd hy
  have hld := fun n => lsD_len enR (L := L) (c := manyC L c) n
  have hS : ∀ n, lsD enR L (manyC L c) (n + 1) = (enR.cur L (lsD enR L (manyC L c) n).1, (lsD enR L (manyC L c) n).2 ++ [enR.val L (lsD enR L (manyC L c) n).1]) := fun n => rfl
  have h0 : lsD enR L (manyC L c) 0 = (manyC L c, []) := rfl
  have hla := fun n => lsD_le enR_ok hb hle n
  generalize manyC L c = c2 at *
  generalize manyN L c = k at *
  refine ACall.startA c29_ok Tryz.func29 rfl Tryz.ntmps29 (by kernel_rfl) res29_ok rfl rfl rfl ?_; simp (maxSteps := 9999999) (disch := omega) only [go_sem]
  (have k9 := And.intro @hi (And.intro @hm (And.intro @he (And.intro @s.ren (k0)))); have a1 := Arm.mk [0] c0; refine goK ?_; (try clear k9); (try clear a1))
  (apply AWpA.loopL (fun n : Nat => [(3, .ptr 5 0), (4, .ptr 6 0), (6, .ptr 7 0), (7, .ptr 8 0), (9, I k), (13, I n)]) (fun n => [.cells true P, .cells false (Ri 0 x.peers), .cells false (Rm 0 x.marks), .gone, .cells false (Re 0 (lsD enR L c2 n).2), .cells false [.sl 0 off L.length 1 none, I ((lsD enR L c2 n).1.a : Int), I (lsD enR L c2 n).1.e], .cells false [I x.kind, I x.peer, I x.hops, Bo x.high, .sl 1 0 x.peers.length 1 none, I x.num, U64 x.sum, I x.mark.act.c, I x.mark.act.s, Str x.mark.key, .sl 2 0 x.marks.length 3 none, .sl 4 0 n 9 none], .cells false [.val (.slice none 0 0), I 0, I 0], .cells false [I 0, I 0, I 0, Bo false, .val (.slice none 0 0), I 0, U64 0, I 0, I 0, Str ⟨#[]⟩, .val (.slice none 0 0), .val (.slice none 0 0)]]) (fun n => k - n) (fun n => n ≤ k) (0) [0, 1, 2, 3, 3, 4, 20, 36, 52]; rotate_left; (focus (simp (maxSteps := 9999999) (disch := omega) only [go_sem, hi, hm, he, s.ren, h0, hx, re_nil, List.length_nil]; (try (repeat' (first | done | trivial | rfl | exact leAs_rfl _ | decide | (refine And.intro ?_ ?_) | (simp; done) | omega | (simp; decide)))))); rotate_right)
  · exact Nat.zero_le _
  rintro n hnk
  (try simp only at hnk)
  have hld := hld n
  by_cases hin : n < k
  · have g1 : ((n : Int) < (k : Int)) = True := eq_true (by omega)
    have hS := hS n
    have hcn := hcon _ (hla n)
    have b0 := True.intro
    have happ := re_app (lsD enR L c2 n).2 [enR.val L (lsD enR L c2 n).1]
    rw [re_one] at happ
    have hfu := re_all (lsD enR L c2 n).2 (n := n * 9) (by simp [hld])
    have hlr := re_len 0 (lsD enR L c2 n).2
    rw [hld] at hlr
    clear hcon hla h0
    rw [show enV L (lsD enR L c2 n).1 = enR.val L (lsD enR L c2 n).1 from rfl] at hcn
    rw [show enC L (lsD enR L c2 n).1 = enR.cur L (lsD enR L c2 n).1 from rfl] at hcn
    generalize enR.val L (lsD enR L c2 n).1 = v at *
    generalize enR.cur L (lsD enR L c2 n).1 = d at *
    generalize lsD enR L c2 n = p at *
    (try simp only [Nat.mul_one] at hfu)
    (try simp (maxSteps := 9999999) (disch := omega) only [go_sem])
    (have k9 := And.intro @hi (And.intro @hm (And.intro @he (And.intro @s.ren (And.intro @g1 (And.intro @hlr (k0)))))); have a1 := Arm.mk [0] hcn; refine goK ?_; (try clear k9); (try clear a1))
    (have k9 := And.intro @hi (And.intro @hm (And.intro @he (And.intro @s.ren (And.intro @hS (And.intro @happ (And.intro @hfu (And.intro @renL_append (k0)))))))); refine Back.tk (n + 1) [0, 1, 2, 3, 281, 5, 6, 7, 8] ?_)
    omega
  · obtain rfl : n = k := by omega
    have g1 : ((n : Int) < (n : Int)) = False := eq_false (by omega)
    clear hcon hla h0 hS
    generalize lsD enR L c2 n = p at *
    (try simp (maxSteps := 9999999) (disch := omega) only [go_sem])
    (have k9 := And.intro @hi (And.intro @hm (And.intro @he (And.intro @s.ren (And.intro @g1 (k0))))); refine goK ?_; (try clear k9))
    (have k9 := And.intro @hi (And.intro @hm (And.intro @he (And.intro @s.ren (And.intro @hld (k0))))); exact Ret.dk [0, 1, 2, 3, 4])
end
end Go.Proofs.YtopidfkmligljaaGreat
