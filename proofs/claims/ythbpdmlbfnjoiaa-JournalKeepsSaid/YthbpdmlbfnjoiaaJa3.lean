/- Contracts: a journal's bytes are read, by the program. -/
import Derived.Test.YthbpdmlbfnjoiaaJa2
namespace Go.Proofs.Ythbpdmlbfnjoiaa
set_option linter.unusedSimpArgs false
set_option linter.unusedVariables false
set_option maxHeartbeats 4000000
open Go Go.Am Go.RowKit Go.Crc
set_option linter.unusedSimpArgs false
set_option maxHeartbeats 4000000
set_option maxRecDepth 100000
/- (*quidnunc/journal.reader).size -/
noncomputable def c76_1 : ACode := .region false [⟨some 2, .move, [.c (.val (.int .i64 0))], none⟩,
  ⟨some 3, .move, [.c (.val (.int .i64 0))], none⟩] [] [] [0] false [] []
noncomputable def c76_4 : ACode := .region false [⟨some 5, .move, [.t 0], none⟩,
  ⟨some 6, .nilChk, [.t 5], none⟩,
  ⟨some 7, .addr 259, [.t 6], none⟩,
  ⟨some 8, .load false 1, [.t 7], none⟩,
  ⟨some 9, .len, [.t 8], none⟩,
  ⟨some 10, .bin .lss, [.t 9, .c (.val (.int .i64 6))], none⟩] [] [] [0, 10] false [] []
noncomputable def c76_7 : ACode := .region false [⟨some 2, .move, [.c (.val (.int .i64 0))], none⟩,
  ⟨some 3, .move, [.c (.val (.int .i64 0))], none⟩] [] [] [2, 3] false [] []
noncomputable def c76_6 : ACode := .seq c76_7 .ret
noncomputable def c76_5 : ACode := .cond (.t 10) c76_6 .skip
noncomputable def c76_3 : ACode := .seq c76_4 c76_5
noncomputable def c76_10 : ACode := .region true [⟨some 11, .move, [.t 0], none⟩,
  ⟨some 12, .nilChk, [.t 11], none⟩,
  ⟨some 13, .addr 0, [.t 12], none⟩,
  ⟨some 14, .move, [.t 0], none⟩,
  ⟨some 15, .nilChk, [.t 14], none⟩,
  ⟨some 16, .addr 259, [.t 15], none⟩,
  ⟨some 17, .load false 1, [.t 16], none⟩,
  ⟨some 18, .slS 1 false true false, [.t 17, .c (.val (.int .i64 6))], none⟩,
  ⟨some 19, .call 45, [.t 13, .t 18], none⟩,
  ⟨some 20, .un .not, [.t 19], none⟩] [6] [] [0, 20] true [] []
noncomputable def c76_13 : ACode := .region false [⟨some 2, .move, [.c (.val (.int .i64 0))], none⟩,
  ⟨some 3, .move, [.c (.val (.int .i64 2))], none⟩] [] [] [2, 3] false [] []
noncomputable def c76_12 : ACode := .seq c76_13 .ret
noncomputable def c76_11 : ACode := .cond (.t 20) c76_12 .skip
noncomputable def c76_9 : ACode := .seq c76_10 c76_11
noncomputable def c76_15 : ACode := .region false [⟨some 21, .move, [.t 0], none⟩,
  ⟨some 22, .nilChk, [.t 21], none⟩,
  ⟨some 23, .addr 259, [.t 22], none⟩,
  ⟨some 24, .load false 1, [.t 23], none⟩,
  ⟨some 25, .call 46, [.t 24], none⟩,
  ⟨some 26, .call 47, [.t 25, .c (.val (.int .i64 2))], none⟩,
  ⟨some 27, .conv .i64, [.t 26], none⟩,
  ⟨some 4, .move, [.t 27], none⟩] [] [] [4] true [] []
noncomputable def c76_18 : ACode := .region false [⟨some 28, .move, [.t 4], none⟩,
  ⟨some 29, .bin .lss, [.t 28, .c (.val (.int .i64 1))], none⟩,
  ⟨some 30, .move, [.t 29], none⟩,
  ⟨some 31, .move, [.t 4], some (some 30, false)⟩,
  ⟨some 32, .bin .gtr, [.t 31, .c (.val (.int .i64 512))], some (some 30, false)⟩,
  ⟨some 33, .pick, [.t 30, .c (.val (.bool true)), .t 32], none⟩] [] [] [4, 33] false [] []
noncomputable def c76_21 : ACode := .region false [⟨some 2, .move, [.c (.val (.int .i64 0))], none⟩,
  ⟨some 3, .move, [.c (.val (.int .i64 2))], none⟩] [] [] [2, 3] false [] []
noncomputable def c76_20 : ACode := .seq c76_21 .ret
noncomputable def c76_19 : ACode := .cond (.t 33) c76_20 .skip
noncomputable def c76_17 : ACode := .seq c76_18 c76_19
noncomputable def c76_23 : ACode := .region false [⟨some 34, .move, [.t 4], none⟩,
  ⟨some 2, .move, [.t 34], none⟩,
  ⟨some 3, .move, [.c (.val (.int .i64 1))], none⟩] [] [] [2, 3] false [] []
noncomputable def c76_22 : ACode := .seq c76_23 .ret
noncomputable def c76_16 : ACode := .seq c76_17 c76_22
noncomputable def c76_14 : ACode := .seq c76_15 c76_16
noncomputable def c76_8 : ACode := .seq c76_9 c76_14
noncomputable def c76_2 : ACode := .seq c76_3 c76_8
noncomputable def c76_0 : ACode := .seq c76_1 c76_2
noncomputable def code76 : Code := (Try.f76.body).getD .skip
theorem c76_ok : compC Try.prog 35 code76 = some (strip c76_0) := by kernel_rfl
theorem res76_ok : Try.f76.results.toList.mapM (resC Try.prog) = some [(2, none), (3, none)] := by kernel_rfl
/- (*quidnunc/journal.reader).next -/
noncomputable def c60_1 : ACode := .region false [⟨some 2, .move, [.c (.val (.slice none 0 0))], none⟩,
  ⟨some 3, .move, [.c (.val (.int .i64 0))], none⟩] [] [] [0] false [] []
noncomputable def c60_3 : ACode := .region false [⟨some 9, .move, [.t 0], none⟩,
  ⟨some 10, .call 76, [.t 9], none⟩,
  ⟨some 8, .move, [.t 10], none⟩,
  ⟨some 11, .ext 0, [.t 8], none⟩,
  ⟨some 12, .ext 1, [.t 8], none⟩,
  ⟨some 4, .move, [.t 11], none⟩,
  ⟨some 5, .move, [.t 12], none⟩] [] [] [0, 4, 5] true [] []
noncomputable def c60_6 : ACode := .region false [⟨some 13, .move, [.t 5], none⟩,
  ⟨some 14, .bin .neq, [.t 13, .c (.val (.int .i64 1))], none⟩] [] [] [0, 4, 5, 14] false [] []
noncomputable def c60_9 : ACode := .region false [⟨some 15, .move, [.t 5], none⟩,
  ⟨some 2, .move, [.c (.val (.slice none 0 0))], none⟩,
  ⟨some 3, .move, [.t 15], none⟩] [] [] [2, 3] false [] []
noncomputable def c60_8 : ACode := .seq c60_9 .ret
noncomputable def c60_7 : ACode := .cond (.t 14) c60_8 .skip
noncomputable def c60_5 : ACode := .seq c60_6 c60_7
noncomputable def c60_11 : ACode := .region false [⟨some 16, .move, [.t 4], none⟩,
  ⟨some 17, .bin .add, [.c (.val (.int .i64 6)), .t 16], none⟩,
  ⟨some 18, .bin .add, [.t 17, .c (.val (.int .i64 4))], none⟩,
  ⟨some 6, .move, [.t 18], none⟩] [] [] [0, 4, 6] false [] []
noncomputable def c60_14 : ACode := .region false [⟨some 19, .move, [.t 0], none⟩,
  ⟨some 20, .nilChk, [.t 19], none⟩,
  ⟨some 21, .addr 259, [.t 20], none⟩,
  ⟨some 22, .load false 1, [.t 21], none⟩,
  ⟨some 23, .len, [.t 22], none⟩,
  ⟨some 24, .move, [.t 6], none⟩,
  ⟨some 25, .bin .lss, [.t 23, .t 24], none⟩] [] [] [0, 4, 6, 25] false [] []
noncomputable def c60_17 : ACode := .region false [⟨some 2, .move, [.c (.val (.slice none 0 0))], none⟩,
  ⟨some 3, .move, [.c (.val (.int .i64 0))], none⟩] [] [] [2, 3] false [] []
noncomputable def c60_16 : ACode := .seq c60_17 .ret
noncomputable def c60_15 : ACode := .cond (.t 25) c60_16 .skip
noncomputable def c60_13 : ACode := .seq c60_14 c60_15
noncomputable def c60_20 : ACode := .region true [⟨some 26, .move, [.t 0], none⟩,
  ⟨some 27, .nilChk, [.t 26], none⟩,
  ⟨some 28, .addr 0, [.t 27], none⟩,
  ⟨some 29, .move, [.t 0], none⟩,
  ⟨some 30, .nilChk, [.t 29], none⟩,
  ⟨some 31, .addr 259, [.t 30], none⟩,
  ⟨some 32, .load false 1, [.t 31], none⟩,
  ⟨some 33, .move, [.t 6], none⟩,
  ⟨some 34, .slS 1 true true false, [.t 32, .c (.val (.int .i64 6)), .t 33], none⟩,
  ⟨some 35, .call 45, [.t 28, .t 34], none⟩,
  ⟨some 36, .un .not, [.t 35], none⟩] [6] [] [0, 4, 6, 36] true [] []
noncomputable def c60_23 : ACode := .region false [⟨some 2, .move, [.c (.val (.slice none 0 0))], none⟩,
  ⟨some 3, .move, [.c (.val (.int .i64 2))], none⟩] [] [] [2, 3] false [] []
noncomputable def c60_22 : ACode := .seq c60_23 .ret
noncomputable def c60_21 : ACode := .cond (.t 36) c60_22 .skip
noncomputable def c60_19 : ACode := .seq c60_20 c60_21
noncomputable def c60_25 : ACode := .region false [⟨some 37, .move, [.t 0], none⟩,
  ⟨some 38, .nilChk, [.t 37], none⟩,
  ⟨some 39, .addr 259, [.t 38], none⟩,
  ⟨some 40, .load false 1, [.t 39], none⟩,
  ⟨some 41, .move, [.t 4], none⟩,
  ⟨some 42, .bin .add, [.c (.val (.int .i64 6)), .t 41], none⟩,
  ⟨some 43, .slS 1 true true false, [.t 40, .c (.val (.int .i64 6)), .t 42], none⟩,
  ⟨some 44, .append 1 1 false, [.c (.val (.slice none 0 0)), .t 43], none⟩,
  ⟨some 7, .move, [.t 44], none⟩] [] [] [0, 6, 7] true [] []
noncomputable def c60_27 : ACode := .region false [⟨some 45, .move, [.t 0], none⟩,
  ⟨some 46, .move, [.t 0], none⟩,
  ⟨some 47, .nilChk, [.t 46], none⟩,
  ⟨some 48, .addr 259, [.t 47], none⟩,
  ⟨some 49, .load false 1, [.t 48], none⟩,
  ⟨some 50, .move, [.t 6], none⟩,
  ⟨some 51, .slS 1 true false false, [.t 49, .t 50], none⟩,
  ⟨some 52, .nilChk, [.t 45], none⟩,
  ⟨some 53, .addr 259, [.t 52], none⟩,
  ⟨none, .store 1, [.t 53, .t 51], none⟩] [] [] [0, 6, 7] true [] []
noncomputable def c60_29 : ACode := .region false [⟨some 54, .move, [.t 0], none⟩,
  ⟨some 55, .nilChk, [.t 54], none⟩,
  ⟨some 56, .addr 260, [.t 55], none⟩,
  ⟨some 57, .load false 1, [.t 56], none⟩,
  ⟨some 58, .move, [.t 6], none⟩,
  ⟨some 59, .bin .add, [.t 57, .t 58], none⟩,
  ⟨some 60, .nilChk, [.t 54], none⟩,
  ⟨some 61, .addr 260, [.t 60], none⟩,
  ⟨none, .store 1, [.t 61, .t 59], none⟩] [] [] [7] true [] []
noncomputable def c60_31 : ACode := .region false [⟨some 62, .move, [.t 7], none⟩,
  ⟨some 2, .move, [.t 62], none⟩,
  ⟨some 3, .move, [.c (.val (.int .i64 1))], none⟩] [] [] [2, 3] false [] []
noncomputable def c60_30 : ACode := .seq c60_31 .ret
noncomputable def c60_28 : ACode := .seq c60_29 c60_30
noncomputable def c60_26 : ACode := .seq c60_27 c60_28
noncomputable def c60_24 : ACode := .seq c60_25 c60_26
noncomputable def c60_18 : ACode := .seq c60_19 c60_24
noncomputable def c60_12 : ACode := .seq c60_13 c60_18
noncomputable def c60_10 : ACode := .seq c60_11 c60_12
noncomputable def c60_4 : ACode := .seq c60_5 c60_10
noncomputable def c60_2 : ACode := .seq c60_3 c60_4
noncomputable def c60_0 : ACode := .seq c60_1 c60_2
noncomputable def code60 : Code := (Try.f60.body).getD .skip
theorem c60_ok : compC Try.prog 63 code60 = some (strip c60_0) := by kernel_rfl
theorem res60_ok : Try.f60.results.toList.mapM (resC Try.prog) = some [(2, none), (3, none)] := by kernel_rfl
/- quidnunc/journal.Read -/
noncomputable def c28_1 : ACode := .region false [⟨some 2, .move, [.c (.val (.slice none 0 0))], none⟩,
  ⟨some 3, .move, [.c (.val (.int .i64 0))], none⟩,
  ⟨some 4, .move, [.c (.val (.int .i64 0))], none⟩] [] [] [0] false [] []
noncomputable def c28_3 : ACode := .region false [⟨some 9, .move, [.t 0], none⟩,
  ⟨some 10, .build [(.int .u32 0), (.int .i32 0), (.int .u32 0), (.int .u32 0), (.int .u32 0), (.int .u32 0), (.int .u32 0), (.int .u32 0), (.int .u32 0), (.int .u32 0), (.int .u32 0), (.int .u32 0), (.int .u32 0), (.int .u32 0), (.int .u32 0), (.int .u32 0), (.int .u32 0), (.int .u32 0), (.int .u32 0), (.int .u32 0), (.int .u32 0), (.int .u32 0), (.int .u32 0), (.int .u32 0), (.int .u32 0), (.int .u32 0), (.int .u32 0), (.int .u32 0), (.int .u32 0), (.int .u32 0), (.int .u32 0), (.int .u32 0), (.int .u32 0), (.int .u32 0), (.int .u32 0), (.int .u32 0), (.int .u32 0), (.int .u32 0), (.int .u32 0), (.int .u32 0), (.int .u32 0), (.int .u32 0), (.int .u32 0), (.int .u32 0), (.int .u32 0), (.int .u32 0), (.int .u32 0), (.int .u32 0), (.int .u32 0), (.int .u32 0), (.int .u32 0), (.int .u32 0), (.int .u32 0), (.int .u32 0), (.int .u32 0), (.int .u32 0), (.int .u32 0), (.int .u32 0), (.int .u32 0), (.int .u32 0), (.int .u32 0), (.int .u32 0), (.int .u32 0), (.int .u32 0), (.int .u32 0), (.int .u32 0), (.int .u32 0), (.int .u32 0), (.int .u32 0), (.int .u32 0), (.int .u32 0), (.int .u32 0), (.int .u32 0), (.int .u32 0), (.int .u32 0), (.int .u32 0), (.int .u32 0), (.int .u32 0), (.int .u32 0), (.int .u32 0), (.int .u32 0), (.int .u32 0), (.int .u32 0), (.int .u32 0), (.int .u32 0), (.int .u32 0), (.int .u32 0), (.int .u32 0), (.int .u32 0), (.int .u32 0), (.int .u32 0), (.int .u32 0), (.int .u32 0), (.int .u32 0), (.int .u32 0), (.int .u32 0), (.int .u32 0), (.int .u32 0), (.int .u32 0), (.int .u32 0), (.int .u32 0), (.int .u32 0), (.int .u32 0), (.int .u32 0), (.int .u32 0), (.int .u32 0), (.int .u32 0), (.int .u32 0), (.int .u32 0), (.int .u32 0), (.int .u32 0), (.int .u32 0), (.int .u32 0), (.int .u32 0), (.int .u32 0), (.int .u32 0), (.int .u32 0), (.int .u32 0), (.int .u32 0), (.int .u32 0), (.int .u32 0), (.int .u32 0), (.int .u32 0), (.int .u32 0), (.int .u32 0), (.int .u32 0), (.int .u32 0), (.int .u32 0), (.int .u32 0), (.int .u32 0), (.int .u32 0), (.int .u32 0), (.int .u32 0), (.int .u32 0), (.int .u32 0), (.int .u32 0), (.int .u32 0), (.int .u32 0), (.int .u32 0), (.int .u32 0), (.int .u32 0), (.int .u32 0), (.int .u32 0), (.int .u32 0), (.int .u32 0), (.int .u32 0), (.int .u32 0), (.int .u32 0), (.int .u32 0), (.int .u32 0), (.int .u32 0), (.int .u32 0), (.int .u32 0), (.int .u32 0), (.int .u32 0), (.int .u32 0), (.int .u32 0), (.int .u32 0), (.int .u32 0), (.int .u32 0), (.int .u32 0), (.int .u32 0), (.int .u32 0), (.int .u32 0), (.int .u32 0), (.int .u32 0), (.int .u32 0), (.int .u32 0), (.int .u32 0), (.int .u32 0), (.int .u32 0), (.int .u32 0), (.int .u32 0), (.int .u32 0), (.int .u32 0), (.int .u32 0), (.int .u32 0), (.int .u32 0), (.int .u32 0), (.int .u32 0), (.int .u32 0), (.int .u32 0), (.int .u32 0), (.int .u32 0), (.int .u32 0), (.int .u32 0), (.int .u32 0), (.int .u32 0), (.int .u32 0), (.int .u32 0), (.int .u32 0), (.int .u32 0), (.int .u32 0), (.int .u32 0), (.int .u32 0), (.int .u32 0), (.int .u32 0), (.int .u32 0), (.int .u32 0), (.int .u32 0), (.int .u32 0), (.int .u32 0), (.int .u32 0), (.int .u32 0), (.int .u32 0), (.int .u32 0), (.int .u32 0), (.int .u32 0), (.int .u32 0), (.int .u32 0), (.int .u32 0), (.int .u32 0), (.int .u32 0), (.int .u32 0), (.int .u32 0), (.int .u32 0), (.int .u32 0), (.int .u32 0), (.int .u32 0), (.int .u32 0), (.int .u32 0), (.int .u32 0), (.int .u32 0), (.int .u32 0), (.int .u32 0), (.int .u32 0), (.int .u32 0), (.int .u32 0), (.int .u32 0), (.int .u32 0), (.int .u32 0), (.int .u32 0), (.int .u32 0), (.int .u32 0), (.int .u32 0), (.int .u32 0), (.int .u32 0), (.int .u32 0), (.int .u32 0), (.int .u32 0), (.int .u32 0), (.int .u32 0), (.int .u32 0), (.int .u32 0), (.int .u32 0), (.int .u32 0), (.int .u32 0), (.int .u32 0), (.int .u32 0), (.int .u32 0), (.int .u32 0), (.int .u32 0), (.int .u32 0), (.int .u32 0), (.int .u32 0), (.int .u32 0), (.int .u32 0), (.int .u32 0), (.int .u32 0), (.slice none 0 0), (.int .i64 0)] [(259, 1)], [.t 9], none⟩,
  ⟨some 11, .box 0, [.t 10], none⟩,
  ⟨some 5, .move, [.t 11], none⟩] [] [] [5] true [] []
noncomputable def c28_5 : ACode := .region false [⟨some 6, .move, [.c (.val (.slice none 0 0))], none⟩] [] [] [5, 6] false [] []
noncomputable def c28_10 : ACode := .region false [⟨some 13, .move, [.t 5], none⟩,
  ⟨some 14, .call 60, [.t 13], none⟩,
  ⟨some 12, .move, [.t 14], none⟩,
  ⟨some 15, .ext 0, [.t 12], none⟩,
  ⟨some 16, .ext 1, [.t 12], none⟩,
  ⟨some 7, .move, [.t 15], none⟩,
  ⟨some 8, .move, [.t 16], none⟩] [] [] [5, 6, 7, 8] true [] []
noncomputable def c28_12 : ACode := .region false [⟨some 17, .move, [.t 8], none⟩] [] [] [5, 6, 7, 17] false [] []
noncomputable def c28_15 : ACode := .region false [⟨some 23, .bin .eql, [.t 17, .c (.val (.int .i64 2))], none⟩,
  ⟨some 22, .move, [.t 23], none⟩] [] [] [5, 6, 7, 17, 22] false [] []
noncomputable def c28_18 : ACode := .region false [⟨some 2, .move, [.c (.val (.slice none 0 0))], none⟩,
  ⟨some 3, .move, [.c (.val (.int .i64 0))], none⟩,
  ⟨some 4, .move, [.c (.val (.int .i64 12))], none⟩] [] [] [2, 3, 4] false [] []
noncomputable def c28_17 : ACode := .seq c28_18 .ret
noncomputable def c28_20 : ACode := .region false [⟨some 25, .bin .eql, [.t 17, .c (.val (.int .i64 0))], none⟩,
  ⟨some 24, .move, [.t 25], none⟩] [] [] [5, 6, 7, 24] false [] []
noncomputable def c28_23 : ACode := .region true [⟨some 26, .move, [.t 6], none⟩,
  ⟨some 27, .move, [.t 5], none⟩,
  ⟨some 28, .nilChk, [.t 27], none⟩,
  ⟨some 29, .addr 260, [.t 28], none⟩,
  ⟨some 30, .load false 1, [.t 29], none⟩,
  ⟨some 2, .move, [.t 26], none⟩,
  ⟨some 3, .move, [.t 30], none⟩,
  ⟨some 4, .move, [.c (.val (.int .i64 0))], none⟩] [] [] [2, 3, 4] false [] []
noncomputable def c28_22 : ACode := .seq c28_23 .ret
noncomputable def c28_24 : ACode := .region false [⟨some 18, .move, [.t 6], none⟩,
  ⟨some 19, .move, [.t 7], none⟩,
  ⟨some 20, .buildSl 1 1 [(.slice none 0 0)] [(0, 1)], [.t 19], none⟩,
  ⟨some 21, .append 1 24 false, [.t 18, .t 20], none⟩,
  ⟨some 6, .move, [.t 21], none⟩] [] [] [5, 6] true [] []
noncomputable def c28_21 : ACode := .cond (.t 24) c28_22 c28_24
noncomputable def c28_19 : ACode := .seq c28_20 c28_21
noncomputable def c28_16 : ACode := .cond (.t 22) c28_17 c28_19
noncomputable def c28_14 : ACode := .seq c28_15 c28_16
noncomputable def c28_13 : ACode := .block 2 c28_14
noncomputable def c28_11 : ACode := .seq c28_12 c28_13
noncomputable def c28_9 : ACode := .seq c28_10 c28_11
noncomputable def c28_8 : ACode := .block 1 c28_9
noncomputable def c28_7 : ACode := .loop c28_8
noncomputable def c28_6 : ACode := .block 0 c28_7
noncomputable def c28_4 : ACode := .seq c28_5 c28_6
noncomputable def c28_2 : ACode := .seq c28_3 c28_4
noncomputable def c28_0 : ACode := .seq c28_1 c28_2
noncomputable def code28 : Code := (Try.f28.body).getD .skip
theorem c28_ok : compC Try.prog 31 code28 = some (strip c28_0) := by kernel_rfl
theorem res28_ok : Try.f28.results.toList.mapM (resC Try.prog) = some [(2, none), (3, none), (4, none)] := by kernel_rfl
abbrev RR (d : Bool) (r : List Int) (k : Int) : AObj := .cells false (tx d [fzB r, I k])
theorem rd_ren (r : List Int) (k : Int) (ρ : List Nat) : renL ρ [fzB r, I k] = [fzB r, I k] := by simp only [renL, ren, bA_ren]
theorem rr_ren (n : Nat) (r : List Int) (k : Int) (ρ : List Nat) (d : Bool) : renL ρ (tx d [.fz 1 n (bA r), I k]) = tx d [.fz 1 n (bA r), I k] := tx_ren (fun ρ => by simp only [renL, ren, bA_ren]) ρ d
theorem rr_len (a b : AV) (d : Bool) : (tx d [a, b]).length = 261 := by rw [tx_len]; rfl
theorem rr_at0 (a b : AV) (d : Bool) : (tx d [a, b]).getD 259 .bad = a := tx_at d [a, b] 0
theorem rr_at1 (a b : AV) (d : Bool) : (tx d [a, b]).getD 260 .bad = b := tx_at d [a, b] 1
theorem rr_put0 (a b x : AV) (d : Bool) : (tx d [a, b]).take 259 ++ [x] ++ (tx d [a, b]).drop 260 = tx d [x, b] := tx_put d [a, b] 0 x
theorem rr_put1 (a b x : AV) (d : Bool) : (tx d [a, b]).take 260 ++ [x] ++ (tx d [a, b]).drop 261 = tx d [a, x] := tx_put d [a, b] 1 x
theorem holds_txz (r0 : List Int) (k : Int) (d : Bool) {l : List Int} {n : Nat} (hn : l.length = n) (hl : n ≤ 1099511627776) (hby : ∀ x ∈ l, 0 ≤ x ∧ x ≤ 255) :
    ACall Try.prog 45 [.ptr 0 0, .fz 1 n (bA l)] [RR d r0 k] (Det (Bo (mkdB l)) [RR (d || decide (4 ≤ n)) r0 k, .gone]) := by
  subst hn
  refine ACall.fzD (v := Bo (mkdB l)) (H1 := [RR (d || decide (4 ≤ l.length)) r0 k]) (H1' := [RR (d || decide (4 ≤ l.length)) r0 k]) (N := []) (N' := []) 1 1 (by kernel_rfl) rfl rfl (fun n _ o ho hw => ?_) (fun off => ?_) rfl rfl ?_ rfl
  · simp only [List.mem_singleton] at ho; subst ho; cases hw
  · have sg := Seg.rows (off := off) hl
    rw [rows_bA] at sg
    exact holds_tx _ (rd_ren r0 k) d sg hby
  · simp only [List.map_cons, List.map_nil, renO, rr_ren]
theorem read_fz {l : List Int} (hl : l.length ≤ 1099511627776) :
    ACall Try.prog 46 [fzB l] [] (Det (.ptr 0 0) [RdO 1 0 l.length 0, .cells false (bA l), .gone]) := by
  refine ACall.fzD (v := .ptr 1 0) (H1 := []) (H1' := []) (N := [RdO 2 0 l.length 0, .cells false (bA l)]) (N' := [RdO 1 0 l.length 0, .cells false (bA l)]) 0 0 (by kernel_rfl) rfl rfl (fun _ _ o ho => by cases ho) (fun off => ?_) rfl rfl rfl ?_
  · have sg := Seg.rows (off := off) hl
    rw [rows_bA] at sg
    exact read_any sg
  · simp only [List.map_cons, List.map_nil, renO, bA_ren]; rfl
def jszN (b : List Int) : Int := match jsz b with | .goes n => (n : Int) | _ => 0
def jszS (b : List Int) : Int := match jsz b with | .ends => 0 | .goes _ => 1 | .rots => 2
theorem jN_bd {r : List Int} (hby : ∀ x ∈ r, 0 ≤ x ∧ x ≤ 255) : 0 ≤ jN r ∧ jN r ≤ 65535 := by
  have h0 := gd_ok hby 0
  have h1 := gd_ok hby 1
  unfold jN
  omega
theorem size_any (d : Bool) (r : List Int) (k : Int) (hl : r.length ≤ 1099511627776) (hby : ∀ x ∈ r, 0 ≤ x ∧ x ≤ 255) :
    ACall Try.prog 76 [.ptr 0 0] [RR d r k] (Det (.tup [I (jszN r), I (jszS r)]) [RR (d || decide (6 ≤ r.length)) r k]) := by
  by_cases h6 : r.length < 6
  · have e1 : jsz r = .ends := by unfold jsz; rw [if_pos h6]
    have e2 : (d || decide (6 ≤ r.length)) = d := by simp; omega
    have g1 : ((r.length : Int) < 6) = True := eq_true (by omega)
    unfold jszN jszS
    rw [e1, e2]
    refine ACall.startA c76_ok Try.func76 rfl Try.ntmps76 (by kernel_rfl) res76_ok rfl rfl rfl ?_; simp (maxSteps := 9999999) (disch := omega) only [go_sem]
    (have k9 := And.intro @g1 (And.intro @rr_ren (And.intro @rr_len (And.intro @rr_at0 (And.intro @rr_at1 (And.intro @bA_ren (k0)))))); (repeat' (first | refine AWpA.seq ?_ | refine AWpA.block ?_ | (with_reducible refine CondP.tt ?_) | (with_reducible refine CondP.ff ?_) | refine AWpA.cg ?_ | ((first | refine AWpA.rg ?_ | refine AWpA.dg [] [] follows ?_ | refine TailK.tg ?_ | refine AWpA.skip ?_ | refine AWpA.exit ?_ | refine AWpA.ret ?_ | (with_reducible refine ARoundsA.succ ?_) | ((first | refine Runs.gkt (fun h9 => ?_) | refine Runs.gkf (fun h9 => ?_) | refine Runs.gnt (fun h9 => ?_) | refine Runs.gnf (fun h9 => ?_) | refine CondP.gt (fun h9 => ?_) | refine CondP.gf (fun h9 => ?_) | refine CondP.gnt (fun h9 => ?_) | refine CondP.gnf (fun h9 => ?_)); (try simp only [h9]); clear h9)); (try simp (maxSteps := 9999999) (disch := omega) only [go_sem, k9]); (try refine cnd ?_)) | ((first | refine CondP.split (fun hif => ?_) (fun hif => ?_) | refine Runs.part (fun hif => ?_) (fun hif => ?_)) <;> ((try simp only [hif]); (try simp only [BL] at hif); (try (have h9 : _ = true := hif; simp only [h9])); (try (have h9 : _ = false := hif; simp only [h9])); (try simp (maxSteps := 9999999) (disch := omega) only [go_sem, k9]); (try refine cnd ?_); (try (exfalso; omega; done)))))); (all_goals (try clear k9)))
    (apply Ret.det [0]; (focus (first | exact .inl rfl | exact .inr rfl)); (focus (simp (maxSteps := 9999999) (disch := omega) only [go_sem, rr_ren]; rfl)); (simp (maxSteps := 9999999) (disch := omega) only [go_sem, rr_ren]; (try (repeat' (first | done | trivial | rfl | exact leAs_rfl _ | decide | (refine And.intro ?_ ?_) | (simp; done) | omega | (simp; decide))))))
  have e2 : (d || decide (6 ≤ r.length)) = true := by simp; omega
  have g1 : ((r.length : Int) < 6) = False := eq_false (by omega)
  have hl6 : (r.take 6).length = 6 := by simp; omega
  have hb6 : ∀ x ∈ r.take 6, 0 ≤ x ∧ x ≤ 255 := fun x hx => hby x (List.mem_of_mem_take hx)
  have hh := holds_txz r k d hl6 (by decide) hb6
  rw [show (d || decide (4 ≤ 6)) = true by simp] at hh
  rw [e2]
  cases hm : mkdB (r.take 6)
  · have e1 : jsz r = .rots := by unfold jsz; rw [if_neg h6, if_pos hm]
    rw [hm] at hh
    unfold jszN jszS
    rw [e1]
    clear e1 e2 hm
    have g2 : (6 : Int) ≤ (r.length : Int) := by omega
    refine ACall.startA c76_ok Try.func76 rfl Try.ntmps76 (by kernel_rfl) res76_ok rfl rfl rfl ?_; simp (maxSteps := 9999999) (disch := omega) only [go_sem]
    (have k9 := And.intro @g1 (And.intro @rr_ren (And.intro @rr_len (And.intro @rr_at0 (And.intro @rr_at1 (And.intro @bA_ren (k0)))))); (repeat' (first | refine AWpA.seq ?_ | refine AWpA.block ?_ | (with_reducible refine CondP.tt ?_) | (with_reducible refine CondP.ff ?_) | refine AWpA.cg ?_ | ((first | refine AWpA.rg ?_ | refine AWpA.dg [0] [] follows ?_ | refine TailK.tg ?_ | refine AWpA.skip ?_ | refine AWpA.exit ?_ | refine AWpA.ret ?_ | (with_reducible refine ARoundsA.succ ?_) | ((first | refine Runs.gkt (fun h9 => ?_) | refine Runs.gkf (fun h9 => ?_) | refine Runs.gnt (fun h9 => ?_) | refine Runs.gnf (fun h9 => ?_) | refine CondP.gt (fun h9 => ?_) | refine CondP.gf (fun h9 => ?_) | refine CondP.gnt (fun h9 => ?_) | refine CondP.gnf (fun h9 => ?_)); (try simp only [h9]); clear h9) | refine CallG.pg [0] (hh) ?_ | refine CallG.dg [0] (hh) ?_); (try simp (maxSteps := 9999999) (disch := omega) only [go_sem, k9]); (try refine cnd ?_)) | ((first | refine CondP.split (fun hif => ?_) (fun hif => ?_) | refine Runs.part (fun hif => ?_) (fun hif => ?_)) <;> ((try simp only [hif]); (try simp only [BL] at hif); (try (have h9 : _ = true := hif; simp only [h9])); (try (have h9 : _ = false := hif; simp only [h9])); (try simp (maxSteps := 9999999) (disch := omega) only [go_sem, k9]); (try refine cnd ?_); (try (exfalso; omega; done)))))); (all_goals (try clear k9)))
    (apply Ret.det [0]; (focus (first | exact .inl rfl | exact .inr rfl)); (focus (simp (maxSteps := 9999999) (disch := omega) only [go_sem, rr_ren]; rfl)); (simp (maxSteps := 9999999) (disch := omega) only [go_sem, rr_ren]; (try (repeat' (first | done | trivial | rfl | exact leAs_rfl _ | decide | (refine And.intro ?_ ?_) | (simp; done) | omega | (simp; decide))))))
  rw [hm] at hh
  have hbd := jN_bd hby
  have c1 := read_fz hl
  have c2 := rnum_any (L := r) hl hby ⟨0, 0⟩ (by simp) 2
  have q := num2_at (B := r) (a := 0) (by omega)
  rw [q.1, q.2, Nat.zero_add, show r.getD 0 0 + 256 * r.getD 1 0 = jN r from rfl] at c2
  simp only at c2
  unfold jszN jszS
  by_cases hn : jN r < 1 ∨ 512 < jN r
  · have e1 : jsz r = .rots := by unfold jsz; rw [if_neg h6, if_neg (by rw [hm]; simp), if_pos hn]
    rw [e1]
    clear e1 e2 hm q
    generalize jN r = N at *
    refine ACall.startA c76_ok Try.func76 rfl Try.ntmps76 (by kernel_rfl) res76_ok rfl rfl rfl ?_; simp (maxSteps := 9999999) (disch := omega) only [go_sem]
    (have k9 := And.intro @g1 (And.intro @rr_ren (And.intro @rr_len (And.intro @rr_at0 (And.intro @rr_at1 (And.intro @bA_ren (k0)))))); (repeat' (first | refine AWpA.seq ?_ | refine AWpA.block ?_ | (with_reducible refine CondP.tt ?_) | (with_reducible refine CondP.ff ?_) | refine AWpA.cg ?_ | ((first | refine AWpA.rg ?_ | refine AWpA.dg [0] [] follows ?_ | refine TailK.tg ?_ | refine AWpA.skip ?_ | refine AWpA.exit ?_ | refine AWpA.ret ?_ | (with_reducible refine ARoundsA.succ ?_) | ((first | refine Runs.gkt (fun h9 => ?_) | refine Runs.gkf (fun h9 => ?_) | refine Runs.gnt (fun h9 => ?_) | refine Runs.gnf (fun h9 => ?_) | refine CondP.gt (fun h9 => ?_) | refine CondP.gf (fun h9 => ?_) | refine CondP.gnt (fun h9 => ?_) | refine CondP.gnf (fun h9 => ?_)); (try simp only [h9]); clear h9) | refine CallG.pg [0] (hh) ?_ | refine CallG.pg [] (c1) ?_ | refine CallG.pg [353, 354] (c2) ?_ | refine CallG.dg [0] (hh) ?_ | refine CallG.dg [] (c1) ?_ | refine CallG.dg [353, 354] (c2) ?_); (try simp (maxSteps := 9999999) (disch := omega) only [go_sem, k9]); (try refine cnd ?_)) | ((first | refine CondP.split (fun hif => ?_) (fun hif => ?_) | refine Runs.part (fun hif => ?_) (fun hif => ?_)) <;> ((try simp only [hif]); (try simp only [BL] at hif); (try (have h9 : _ = true := hif; simp only [h9])); (try (have h9 : _ = false := hif; simp only [h9])); (try simp (maxSteps := 9999999) (disch := omega) only [go_sem, k9]); (try refine cnd ?_); (try (exfalso; omega; done)))))); (all_goals (try clear k9)))
    all_goals first | (exfalso; omega) | (apply Ret.det [0]; (focus (first | exact .inl rfl | exact .inr rfl)); (focus (simp (maxSteps := 9999999) (disch := omega) only [go_sem, rr_ren]; rfl)); (simp (maxSteps := 9999999) (disch := omega) only [go_sem, rr_ren]; (try (repeat' (first | done | trivial | rfl | exact leAs_rfl _ | decide | (refine And.intro ?_ ?_) | (simp; done) | omega | (simp; decide))))))
  · have e1 : jsz r = .goes (jN r).toNat := by unfold jsz; rw [if_neg h6, if_neg (by rw [hm]; simp), if_neg hn]
    have e3 : (((jN r).toNat : Nat) : Int) = jN r := by omega
    rw [e1]
    simp only [e3]
    clear e1 e2 e3 hm q
    generalize jN r = N at *
    refine ACall.startA c76_ok Try.func76 rfl Try.ntmps76 (by kernel_rfl) res76_ok rfl rfl rfl ?_; simp (maxSteps := 9999999) (disch := omega) only [go_sem]
    (have k9 := And.intro @g1 (And.intro @rr_ren (And.intro @rr_len (And.intro @rr_at0 (And.intro @rr_at1 (And.intro @bA_ren (k0)))))); (repeat' (first | refine AWpA.seq ?_ | refine AWpA.block ?_ | (with_reducible refine CondP.tt ?_) | (with_reducible refine CondP.ff ?_) | refine AWpA.cg ?_ | ((first | refine AWpA.rg ?_ | refine AWpA.dg [0] [] follows ?_ | refine TailK.tg ?_ | refine AWpA.skip ?_ | refine AWpA.exit ?_ | refine AWpA.ret ?_ | (with_reducible refine ARoundsA.succ ?_) | ((first | refine Runs.gkt (fun h9 => ?_) | refine Runs.gkf (fun h9 => ?_) | refine Runs.gnt (fun h9 => ?_) | refine Runs.gnf (fun h9 => ?_) | refine CondP.gt (fun h9 => ?_) | refine CondP.gf (fun h9 => ?_) | refine CondP.gnt (fun h9 => ?_) | refine CondP.gnf (fun h9 => ?_)); (try simp only [h9]); clear h9) | refine CallG.pg [0] (hh) ?_ | refine CallG.pg [] (c1) ?_ | refine CallG.pg [353, 354] (c2) ?_ | refine CallG.dg [0] (hh) ?_ | refine CallG.dg [] (c1) ?_ | refine CallG.dg [353, 354] (c2) ?_); (try simp (maxSteps := 9999999) (disch := omega) only [go_sem, k9]); (try refine cnd ?_)) | ((first | refine CondP.split (fun hif => ?_) (fun hif => ?_) | refine Runs.part (fun hif => ?_) (fun hif => ?_)) <;> ((try simp only [hif]); (try simp only [BL] at hif); (try (have h9 : _ = true := hif; simp only [h9])); (try (have h9 : _ = false := hif; simp only [h9])); (try simp (maxSteps := 9999999) (disch := omega) only [go_sem, k9]); (try refine cnd ?_); (try (exfalso; omega; done)))))); (all_goals (try clear k9)))
    all_goals first | (exfalso; omega) | (apply Ret.det [0]; (focus (first | exact .inl rfl | exact .inr rfl)); (focus (simp (maxSteps := 9999999) (disch := omega) only [go_sem, rr_ren]; rfl)); (simp (maxSteps := 9999999) (disch := omega) only [go_sem, rr_ren]; (try (repeat' (first | done | trivial | rfl | exact leAs_rfl _ | decide | (refine And.intro ?_ ?_) | (simp; done) | omega | (simp; decide))))))
theorem next_ends (d : Bool) (r : List Int) (k : Int) (hl : r.length ≤ 1099511627776) (hby : ∀ x ∈ r, 0 ≤ x ∧ x ≤ 255) (h : jst r = .ends) :
    ACall Try.prog 60 [.ptr 0 0] [RR d r k] (Det (.tup [fzB [], I 0]) [RR (d || decide (6 ≤ r.length)) r k]) := by
  have hs := size_any d r k hl hby
  unfold jst at h
  cases hz : jsz r with
  | ends =>
    unfold jszN jszS at hs
    rw [hz] at hs
    simp only at hs
    clear h hz
    generalize (d || decide (6 ≤ r.length)) = d' at *
    refine ACall.startA c60_ok Try.func60 rfl Try.ntmps60 (by kernel_rfl) res60_ok rfl rfl rfl ?_; simp (maxSteps := 9999999) (disch := omega) only [go_sem]
    (have k9 := And.intro @rr_ren (And.intro @bA_ren (k0)); (repeat' (first | refine AWpA.seq ?_ | refine AWpA.block ?_ | (with_reducible refine CondP.tt ?_) | (with_reducible refine CondP.ff ?_) | refine AWpA.cg ?_ | ((first | refine AWpA.rg ?_ | refine AWpA.dg [] [] follows ?_ | refine TailK.tg ?_ | refine AWpA.skip ?_ | refine AWpA.exit ?_ | refine AWpA.ret ?_ | (with_reducible refine ARoundsA.succ ?_) | ((first | refine Runs.gkt (fun h9 => ?_) | refine Runs.gkf (fun h9 => ?_) | refine Runs.gnt (fun h9 => ?_) | refine Runs.gnf (fun h9 => ?_) | refine CondP.gt (fun h9 => ?_) | refine CondP.gf (fun h9 => ?_) | refine CondP.gnt (fun h9 => ?_) | refine CondP.gnf (fun h9 => ?_)); (try simp only [h9]); clear h9) | refine CallG.pg [0] (hs) ?_ | refine CallG.dg [0] (hs) ?_); (try simp (maxSteps := 9999999) (disch := omega) only [go_sem, k9]); (try refine cnd ?_)) | ((first | refine CondP.split (fun hif => ?_) (fun hif => ?_) | refine Runs.part (fun hif => ?_) (fun hif => ?_)) <;> ((try simp only [hif]); (try simp only [BL] at hif); (try (have h9 : _ = true := hif; simp only [h9])); (try (have h9 : _ = false := hif; simp only [h9])); (try simp (maxSteps := 9999999) (disch := omega) only [go_sem, k9]); (try refine cnd ?_); (try (exfalso; omega; done)))))); (all_goals (try clear k9)))
    (apply Ret.det [0]; (focus (first | exact .inl rfl | exact .inr rfl)); (focus (simp (maxSteps := 9999999) (disch := omega) only [go_sem, rr_ren, bA_nil]; rfl)); (simp (maxSteps := 9999999) (disch := omega) only [go_sem, rr_ren, bA_nil]; (try (repeat' (first | done | trivial | rfl | exact leAs_rfl _ | decide | (refine And.intro ?_ ?_) | (simp; done) | omega | (simp; decide))))))
  | rots => rw [hz] at h; cases h
  | goes n =>
    rw [hz] at h
    simp only at h
    have hlt : r.length < 10 + n := by
      by_cases hc : r.length < 10 + n
      · exact hc
      · rw [if_neg hc] at h; split at h <;> cases h
    obtain ⟨-, -, -, hn1, hn2⟩ := jsz_goes hz
    unfold jszN jszS at hs
    rw [hz] at hs
    simp only at hs
    have g1 : ((r.length : Int) < 6 + (n : Int) + 4) = True := eq_true (by omega)
    clear h hz
    generalize (d || decide (6 ≤ r.length)) = d' at *
    refine ACall.startA c60_ok Try.func60 rfl Try.ntmps60 (by kernel_rfl) res60_ok rfl rfl rfl ?_; simp (maxSteps := 9999999) (disch := omega) only [go_sem]
    (have k9 := And.intro @rr_ren (And.intro @bA_ren (And.intro @rr_len (And.intro @rr_at0 (And.intro @rr_at1 (And.intro @g1 (k0)))))); (repeat' (first | refine AWpA.seq ?_ | refine AWpA.block ?_ | (with_reducible refine CondP.tt ?_) | (with_reducible refine CondP.ff ?_) | refine AWpA.cg ?_ | ((first | refine AWpA.rg ?_ | refine AWpA.dg [] [] follows ?_ | refine TailK.tg ?_ | refine AWpA.skip ?_ | refine AWpA.exit ?_ | refine AWpA.ret ?_ | (with_reducible refine ARoundsA.succ ?_) | ((first | refine Runs.gkt (fun h9 => ?_) | refine Runs.gkf (fun h9 => ?_) | refine Runs.gnt (fun h9 => ?_) | refine Runs.gnf (fun h9 => ?_) | refine CondP.gt (fun h9 => ?_) | refine CondP.gf (fun h9 => ?_) | refine CondP.gnt (fun h9 => ?_) | refine CondP.gnf (fun h9 => ?_)); (try simp only [h9]); clear h9) | refine CallG.pg [0] (hs) ?_ | refine CallG.dg [0] (hs) ?_); (try simp (maxSteps := 9999999) (disch := omega) only [go_sem, k9]); (try refine cnd ?_)) | ((first | refine CondP.split (fun hif => ?_) (fun hif => ?_) | refine Runs.part (fun hif => ?_) (fun hif => ?_)) <;> ((try simp only [hif]); (try simp only [BL] at hif); (try (have h9 : _ = true := hif; simp only [h9])); (try (have h9 : _ = false := hif; simp only [h9])); (try simp (maxSteps := 9999999) (disch := omega) only [go_sem, k9]); (try refine cnd ?_); (try (exfalso; omega; done)))))); (all_goals (try clear k9)))
    (apply Ret.det [0]; (focus (first | exact .inl rfl | exact .inr rfl)); (focus (simp (maxSteps := 9999999) (disch := omega) only [go_sem, rr_ren, bA_nil]; rfl)); (simp (maxSteps := 9999999) (disch := omega) only [go_sem, rr_ren, bA_nil]; (try (repeat' (first | done | trivial | rfl | exact leAs_rfl _ | decide | (refine And.intro ?_ ?_) | (simp; done) | omega | (simp; decide))))))
theorem next_rots (d : Bool) (r : List Int) (k : Int) (hl : r.length ≤ 1099511627776) (hby : ∀ x ∈ r, 0 ≤ x ∧ x ≤ 255) (h : jst r = .rots) :
    ACall Try.prog 60 [.ptr 0 0] [RR d r k] (Det (.tup [fzB [], I 2]) [RR (d || decide (6 ≤ r.length)) r k]) := by
  have hs := size_any d r k hl hby
  unfold jst at h
  cases hz : jsz r with
  | ends => rw [hz] at h; cases h
  | rots =>
    unfold jszN jszS at hs
    rw [hz] at hs
    simp only at hs
    clear h hz
    generalize (d || decide (6 ≤ r.length)) = d' at *
    refine ACall.startA c60_ok Try.func60 rfl Try.ntmps60 (by kernel_rfl) res60_ok rfl rfl rfl ?_; simp (maxSteps := 9999999) (disch := omega) only [go_sem]
    (have k9 := And.intro @rr_ren (And.intro @bA_ren (k0)); (repeat' (first | refine AWpA.seq ?_ | refine AWpA.block ?_ | (with_reducible refine CondP.tt ?_) | (with_reducible refine CondP.ff ?_) | refine AWpA.cg ?_ | ((first | refine AWpA.rg ?_ | refine AWpA.dg [] [] follows ?_ | refine TailK.tg ?_ | refine AWpA.skip ?_ | refine AWpA.exit ?_ | refine AWpA.ret ?_ | (with_reducible refine ARoundsA.succ ?_) | ((first | refine Runs.gkt (fun h9 => ?_) | refine Runs.gkf (fun h9 => ?_) | refine Runs.gnt (fun h9 => ?_) | refine Runs.gnf (fun h9 => ?_) | refine CondP.gt (fun h9 => ?_) | refine CondP.gf (fun h9 => ?_) | refine CondP.gnt (fun h9 => ?_) | refine CondP.gnf (fun h9 => ?_)); (try simp only [h9]); clear h9) | refine CallG.pg [0] (hs) ?_ | refine CallG.dg [0] (hs) ?_); (try simp (maxSteps := 9999999) (disch := omega) only [go_sem, k9]); (try refine cnd ?_)) | ((first | refine CondP.split (fun hif => ?_) (fun hif => ?_) | refine Runs.part (fun hif => ?_) (fun hif => ?_)) <;> ((try simp only [hif]); (try simp only [BL] at hif); (try (have h9 : _ = true := hif; simp only [h9])); (try (have h9 : _ = false := hif; simp only [h9])); (try simp (maxSteps := 9999999) (disch := omega) only [go_sem, k9]); (try refine cnd ?_); (try (exfalso; omega; done)))))); (all_goals (try clear k9)))
    (apply Ret.det [0]; (focus (first | exact .inl rfl | exact .inr rfl)); (focus (simp (maxSteps := 9999999) (disch := omega) only [go_sem, rr_ren, bA_nil]; rfl)); (simp (maxSteps := 9999999) (disch := omega) only [go_sem, rr_ren, bA_nil]; (try (repeat' (first | done | trivial | rfl | exact leAs_rfl _ | decide | (refine And.intro ?_ ?_) | (simp; done) | omega | (simp; decide))))))
  | goes n =>
    rw [hz] at h
    simp only at h
    have hlt : ¬ r.length < 10 + n := fun hc => by rw [if_pos hc] at h; cases h
    rw [if_neg hlt] at h
    have hm : mkdB ((r.drop 6).take (n + 4)) = false := by
      by_cases hc : mkdB ((r.drop 6).take (n + 4)) = false
      · exact hc
      · rw [if_neg hc] at h; cases h
    obtain ⟨-, -, -, hn1, hn2⟩ := jsz_goes hz
    unfold jszN jszS at hs
    rw [hz] at hs
    simp only at hs
    have g1 : ((r.length : Int) < 6 + (n : Int) + 4) = False := eq_false (by omega)
    have g2 : (6 + (n : Int) + 4).toNat - 6 = n + 4 := by omega
    have hl2 : ((r.drop 6).take (n + 4)).length = n + 4 := by simp; omega
    have hb2 : ∀ x ∈ (r.drop 6).take (n + 4), 0 ≤ x ∧ x ≤ 255 := fun x hx => hby x (List.mem_of_mem_drop (List.mem_of_mem_take hx))
    have e2 : (d || decide (6 ≤ r.length)) = true := by simp; omega
    have hh := holds_txz r k true hl2 (by omega) hb2
    rw [Bool.true_or, hm] at hh
    rw [e2] at hs ⊢
    clear h hz hm
    refine ACall.startA c60_ok Try.func60 rfl Try.ntmps60 (by kernel_rfl) res60_ok rfl rfl rfl ?_; simp (maxSteps := 9999999) (disch := omega) only [go_sem]
    (have k9 := And.intro @rr_ren (And.intro @bA_ren (And.intro @rr_len (And.intro @rr_at0 (And.intro @rr_at1 (And.intro @g1 (And.intro @g2 (k0))))))); (repeat' (first | refine AWpA.seq ?_ | refine AWpA.block ?_ | (with_reducible refine CondP.tt ?_) | (with_reducible refine CondP.ff ?_) | refine AWpA.cg ?_ | ((first | refine AWpA.rg ?_ | refine AWpA.dg [0] [] follows ?_ | refine TailK.tg ?_ | refine AWpA.skip ?_ | refine AWpA.exit ?_ | refine AWpA.ret ?_ | (with_reducible refine ARoundsA.succ ?_) | ((first | refine Runs.gkt (fun h9 => ?_) | refine Runs.gkf (fun h9 => ?_) | refine Runs.gnt (fun h9 => ?_) | refine Runs.gnf (fun h9 => ?_) | refine CondP.gt (fun h9 => ?_) | refine CondP.gf (fun h9 => ?_) | refine CondP.gnt (fun h9 => ?_) | refine CondP.gnf (fun h9 => ?_)); (try simp only [h9]); clear h9) | refine CallG.pg [0] (hs) ?_ | refine CallG.pg [0] (hh) ?_ | refine CallG.dg [0] (hs) ?_ | refine CallG.dg [0] (hh) ?_); (try simp (maxSteps := 9999999) (disch := omega) only [go_sem, k9]); (try refine cnd ?_)) | ((first | refine CondP.split (fun hif => ?_) (fun hif => ?_) | refine Runs.part (fun hif => ?_) (fun hif => ?_)) <;> ((try simp only [hif]); (try simp only [BL] at hif); (try (have h9 : _ = true := hif; simp only [h9])); (try (have h9 : _ = false := hif; simp only [h9])); (try simp (maxSteps := 9999999) (disch := omega) only [go_sem, k9]); (try refine cnd ?_); (try (exfalso; omega; done)))))); (all_goals (try clear k9)))
    (apply Ret.det [0]; (focus (first | exact .inl rfl | exact .inr rfl)); (focus (simp (maxSteps := 9999999) (disch := omega) only [go_sem, rr_ren, bA_nil]; rfl)); (simp (maxSteps := 9999999) (disch := omega) only [go_sem, rr_ren, bA_nil]; (try (repeat' (first | done | trivial | rfl | exact leAs_rfl _ | decide | (refine And.intro ?_ ?_) | (simp; done) | omega | (simp; decide))))))
theorem next_goes (d : Bool) (r : List Int) (k : Int) (hl : r.length ≤ 1099511627776) (hk : 0 ≤ k ∧ k ≤ 1099511627776) (hby : ∀ x ∈ r, 0 ≤ x ∧ x ≤ 255) {n : Nat} (h : jst r = .goes n) :
    ACall Try.prog 60 [.ptr 0 0] [RR d r k] (Det (.tup [fzB (jbody r n), I 1]) [RR true (r.drop (10 + n)) (k + ((10 + n : Nat) : Int))]) := by
  have hs := size_any d r k hl hby
  obtain ⟨hz, hle, hm⟩ := jst_goes h
  obtain ⟨-, -, -, hn1, hn2⟩ := jsz_goes hz
  have hbl := jbody_len hle
  unfold jbody at hbl ⊢
  have g6 : 10 + n - 6 = n + 4 := by omega
  unfold jszN jszS at hs
  rw [hz] at hs
  simp only at hs
  have g1 : ((r.length : Int) < 6 + (n : Int) + 4) = False := eq_false (by omega)
  have g2 : (6 + (n : Int) + 4).toNat - 6 = n + 4 := by omega
  have g3 : (6 + (n : Int)).toNat - 6 = n := by omega
  have g4 : (6 + (n : Int) + 4).toNat = 10 + n := by omega
  have g5 : k + (6 + (n : Int) + 4) = k + ((10 + n : Nat) : Int) := by omega
  have hl2 : ((r.drop 6).take (n + 4)).length = n + 4 := by simp; omega
  have hb2 : ∀ x ∈ (r.drop 6).take (n + 4), 0 ≤ x ∧ x ≤ 255 := fun x hx => hby x (List.mem_of_mem_drop (List.mem_of_mem_take hx))
  have e2 : (d || decide (6 ≤ r.length)) = true := by simp; omega
  have hh := holds_txz r k true hl2 (by omega) hb2
  rw [Bool.true_or, hm] at hh
  rw [e2] at hs
  clear h hz hm
  refine ACall.startA c60_ok Try.func60 rfl Try.ntmps60 (by kernel_rfl) res60_ok rfl rfl rfl ?_; simp (maxSteps := 9999999) (disch := omega) only [go_sem]
  (have k9 := And.intro @rr_ren (And.intro @bA_ren (And.intro @rr_len (And.intro @rr_at0 (And.intro @rr_at1 (And.intro @rr_put0 (And.intro @rr_put1 (And.intro @g1 (And.intro @g2 (And.intro @g3 (And.intro @g4 (And.intro @g5 (And.intro @g6 (And.intro @hbl (k0)))))))))))))); (repeat' (first | (refine AWpA.freeze0 641 7 rfl rfl ?_ ?_; (focus ((try simp (maxSteps := 9999999) (disch := omega) only [go_sem, k9]); first | done | omega))) | refine AWpA.seq ?_ | refine AWpA.block ?_ | (with_reducible refine CondP.tt ?_) | (with_reducible refine CondP.ff ?_) | refine AWpA.cg ?_ | ((first | refine AWpA.rg ?_ | refine AWpA.dg [0] [] follows ?_ | refine TailK.tg ?_ | refine AWpA.skip ?_ | refine AWpA.exit ?_ | refine AWpA.ret ?_ | (with_reducible refine ARoundsA.succ ?_) | ((first | refine Runs.gkt (fun h9 => ?_) | refine Runs.gkf (fun h9 => ?_) | refine Runs.gnt (fun h9 => ?_) | refine Runs.gnf (fun h9 => ?_) | refine CondP.gt (fun h9 => ?_) | refine CondP.gf (fun h9 => ?_) | refine CondP.gnt (fun h9 => ?_) | refine CondP.gnf (fun h9 => ?_)); (try simp only [h9]); clear h9) | refine CallG.pg [0] (hs) ?_ | refine CallG.pg [0] (hh) ?_ | refine CallG.dg [0] (hs) ?_ | refine CallG.dg [0] (hh) ?_); (try simp (maxSteps := 9999999) (disch := omega) only [go_sem, k9]); (try refine cnd ?_)) | ((first | refine CondP.split (fun hif => ?_) (fun hif => ?_) | refine Runs.part (fun hif => ?_) (fun hif => ?_)) <;> ((try simp only [hif]); (try simp only [BL] at hif); (try (have h9 : _ = true := hif; simp only [h9])); (try (have h9 : _ = false := hif; simp only [h9])); (try simp (maxSteps := 9999999) (disch := omega) only [go_sem, k9]); (try refine cnd ?_); (try (exfalso; omega; done)))))); (all_goals (try clear k9)))
  have g7 : (r.drop (10 + n)).take (r.length - (10 + n)) = r.drop (10 + n) := List.take_of_length_le (by rw [List.length_drop]; omega)
  have g8 : (r.drop (10 + n)).length = r.length - (10 + n) := List.length_drop
  (apply Ret.det [0]; (focus (first | exact .inl rfl | exact .inr rfl)); (focus (simp (maxSteps := 9999999) (disch := omega) only [go_sem, rr_ren, g7, g8, hbl, fzB]; rfl)); (simp (maxSteps := 9999999) (disch := omega) only [go_sem, rr_ren, g7, g8, hbl, fzB]; (try (repeat' (first | done | trivial | rfl | exact leAs_rfl _ | decide | (refine And.intro ?_ ?_) | (simp; done) | omega | (simp; decide))))))
end Go.Proofs.Ythbpdmlbfnjoiaa
