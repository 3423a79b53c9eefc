/- Contracts: stamps and clocks. -/
import Derived.Test.YtjcjmeeajkdlhaaAc2
namespace Go.Proofs.Ytjcjmeeajkdlhaa
set_option linter.unusedSimpArgs false
set_option linter.unusedVariables false
set_option maxHeartbeats 4000000
open Go Go.Am
set_option maxRecDepth 100000
/- quidnunc/stamp.New -/
noncomputable def c36_1 : ACode := .region false [⟨some 4, .move, [.c (.val (.pointer none))], none⟩,
  ⟨some 5, .move, [.c (.val (.int .i64 0))], none⟩] [] [] [0, 1] false [] []
noncomputable def c36_5 : ACode := .region false [⟨some 8, .move, [.t 0], none⟩,
  ⟨some 9, .bin .lss, [.t 8, .c (.val (.int .i64 0))], none⟩,
  ⟨some 10, .move, [.t 9], none⟩,
  ⟨some 11, .move, [.t 0], some (some 10, false)⟩,
  ⟨some 12, .bin .geq, [.t 11, .c (.val (.int .i64 12))], some (some 10, false)⟩,
  ⟨some 13, .pick, [.t 10, .c (.val (.bool true)), .t 12], none⟩,
  ⟨some 7, .move, [.t 13], none⟩] [] [] [0, 1, 7] false [] []
noncomputable def c36_8 : ACode := .region false [⟨some 4, .move, [.c (.val (.pointer none))], none⟩,
  ⟨some 5, .move, [.c (.val (.int .i64 1))], none⟩] [] [] [4, 5] false [] []
noncomputable def c36_7 : ACode := .seq c36_8 .ret
noncomputable def c36_10 : ACode := .region false [⟨some 15, .move, [.t 1], none⟩,
  ⟨some 16, .bin .lss, [.t 15, .c (.val (.int .i64 0))], none⟩,
  ⟨some 17, .move, [.t 16], none⟩,
  ⟨some 18, .move, [.t 1], some (some 17, false)⟩,
  ⟨some 19, .bin .gtr, [.t 18, .c (.val (.int .i64 4294967295))], some (some 17, false)⟩,
  ⟨some 20, .pick, [.t 17, .c (.val (.bool true)), .t 19], none⟩,
  ⟨some 14, .move, [.t 20], none⟩] [] [] [0, 1, 14] false [] []
noncomputable def c36_13 : ACode := .region false [⟨some 4, .move, [.c (.val (.pointer none))], none⟩,
  ⟨some 5, .move, [.c (.val (.int .i64 2))], none⟩] [] [] [4, 5] false [] []
noncomputable def c36_12 : ACode := .seq c36_13 .ret
noncomputable def c36_11 : ACode := .cond (.t 14) c36_12 .skip
noncomputable def c36_9 : ACode := .seq c36_10 c36_11
noncomputable def c36_6 : ACode := .cond (.t 7) c36_7 c36_9
noncomputable def c36_4 : ACode := .seq c36_5 c36_6
noncomputable def c36_3 : ACode := .block 0 c36_4
noncomputable def c36_15 : ACode := .region false [⟨some 21, .move, [.t 0], none⟩,
  ⟨some 22, .build [(.int .i64 0), (.int .i64 0)] [(1, 1)], [.t 21], none⟩,
  ⟨some 23, .box 0, [.t 22], none⟩,
  ⟨some 6, .move, [.t 23], none⟩] [] [] [1, 6] true [] []
noncomputable def c36_17 : ACode := .region false [⟨some 24, .move, [.t 6], none⟩,
  ⟨some 25, .nilChk, [.t 24], none⟩,
  ⟨some 26, .addr 0, [.t 25], none⟩,
  ⟨some 27, .move, [.t 1], none⟩,
  ⟨some 28, .call 62, [.t 26, .t 27], none⟩] [] [] [6] true [] []
noncomputable def c36_19 : ACode := .region false [⟨some 29, .move, [.t 6], none⟩,
  ⟨some 4, .move, [.t 29], none⟩,
  ⟨some 5, .move, [.c (.val (.int .i64 0))], none⟩] [] [] [4, 5] false [] []
noncomputable def c36_18 : ACode := .seq c36_19 .ret
noncomputable def c36_16 : ACode := .seq c36_17 c36_18
noncomputable def c36_14 : ACode := .seq c36_15 c36_16
noncomputable def c36_2 : ACode := .seq c36_3 c36_14
noncomputable def c36_0 : ACode := .seq c36_1 c36_2
noncomputable def code36 : Code := (Try.f36.body).getD .skip
theorem c36_ok : compC Try.prog 30 code36 = some (strip c36_0) := by kernel_rfl
theorem res36_ok : Try.f36.results.toList.mapM (resC Try.prog) = some [(4, none), (5, none)] := by kernel_rfl
/- (*quidnunc/stamp.Clock).Next -/
noncomputable def c41_1 : ACode := .region false [⟨some 2, .alloc [(.int .i64 0), (.int .i64 0)], [], none⟩,
  ⟨some 3, .move, [.c (.val (.int .i64 0))], none⟩] [] [] [0, 2] true [] []
noncomputable def c41_6 : ACode := .region false [⟨some 5, .move, [.t 0], none⟩,
  ⟨some 6, .nilChk, [.t 5], none⟩,
  ⟨some 7, .addr 0, [.t 6], none⟩,
  ⟨some 8, .call 63, [.t 7], none⟩,
  ⟨some 4, .move, [.t 8], none⟩] [] [] [0, 2, 4] true [] []
noncomputable def c41_9 : ACode := .region false [⟨some 9, .move, [.t 4], none⟩,
  ⟨some 10, .bin .geq, [.t 9, .c (.val (.int .i64 4294967295))], none⟩] [] [] [0, 2, 4, 10] false [] []
noncomputable def c41_12 : ACode := .region false [⟨some 11, .build [(.int .i64 0), (.int .i64 0)] [], [], none⟩,
  ⟨none, .store 2, [.t 2, .t 11], none⟩,
  ⟨some 3, .move, [.c (.val (.int .i64 8))], none⟩] [] [] [2, 3] true [] []
noncomputable def c41_11 : ACode := .seq c41_12 .ret
noncomputable def c41_10 : ACode := .cond (.t 10) c41_11 .skip
noncomputable def c41_8 : ACode := .seq c41_9 c41_10
noncomputable def c41_14 : ACode := .region false [⟨some 12, .move, [.t 0], none⟩,
  ⟨some 13, .nilChk, [.t 12], none⟩,
  ⟨some 14, .addr 0, [.t 13], none⟩,
  ⟨some 15, .move, [.t 4], none⟩,
  ⟨some 16, .move, [.t 4], none⟩,
  ⟨some 17, .bin .add, [.t 16, .c (.val (.int .i64 1))], none⟩,
  ⟨some 18, .call 64, [.t 14, .t 15, .t 17], none⟩] [] [] [0, 2, 4, 18] true [] []
noncomputable def c41_17 : ACode := .region false [⟨some 19, .move, [.t 4], none⟩,
  ⟨some 20, .bin .add, [.t 19, .c (.val (.int .i64 1))], none⟩,
  ⟨some 21, .move, [.t 0], none⟩,
  ⟨some 22, .nilChk, [.t 21], none⟩,
  ⟨some 23, .addr 1, [.t 22], none⟩,
  ⟨some 24, .load false 1, [.t 23], none⟩,
  ⟨some 25, .build [(.int .i64 0), (.int .i64 0)] [(0, 1), (1, 1)], [.t 20, .t 24], none⟩,
  ⟨none, .store 2, [.t 2, .t 25], none⟩,
  ⟨some 3, .move, [.c (.val (.int .i64 0))], none⟩] [] [] [2, 3] true [] []
noncomputable def c41_16 : ACode := .seq c41_17 .ret
noncomputable def c41_15 : ACode := .cond (.t 18) c41_16 .skip
noncomputable def c41_13 : ACode := .seq c41_14 c41_15
noncomputable def c41_7 : ACode := .seq c41_8 c41_13
noncomputable def c41_5 : ACode := .seq c41_6 c41_7
noncomputable def c41_4 : ACode := .block 1 c41_5
noncomputable def c41_3 : ACode := .loop c41_4
noncomputable def c41_2 : ACode := .block 0 c41_3
noncomputable def c41_0 : ACode := .seq c41_1 c41_2
noncomputable def code41 : Code := (Try.f41.body).getD .skip
theorem c41_ok : compC Try.prog 26 code41 = some (strip c41_0) := by kernel_rfl
theorem res41_ok : Try.f41.results.toList.mapM (resC Try.prog) = some [(2, some (true, 2)), (3, none)] := by kernel_rfl
/- (*quidnunc/stamp.Clock).See -/
noncomputable def c37_1 : ACode := .region false [⟨some 3, .box 0, [.t 1], none⟩,
  ⟨some 4, .move, [.c (.val (.bool false))], none⟩] [] [] [0, 3] true [] []
noncomputable def c37_4 : ACode := .region false [⟨some 6, .load true 2, [.t 3], none⟩,
  ⟨some 7, .call 51, [.t 6], none⟩,
  ⟨some 8, .un .not, [.t 7], none⟩] [] [] [0, 3, 8] true [] []
noncomputable def c37_7 : ACode := .region false [⟨some 4, .move, [.c (.val (.bool false))], none⟩] [] [] [4] false [] []
noncomputable def c37_6 : ACode := .seq c37_7 .ret
noncomputable def c37_5 : ACode := .cond (.t 8) c37_6 .skip
noncomputable def c37_3 : ACode := .seq c37_4 c37_5
noncomputable def c37_12 : ACode := .region false [⟨some 9, .move, [.t 0], none⟩,
  ⟨some 10, .nilChk, [.t 9], none⟩,
  ⟨some 11, .addr 0, [.t 10], none⟩,
  ⟨some 12, .call 63, [.t 11], none⟩,
  ⟨some 5, .move, [.t 12], none⟩] [] [] [0, 3, 5] true [] []
noncomputable def c37_15 : ACode := .region false [⟨some 13, .move, [.t 5], none⟩,
  ⟨some 14, .addr 0, [.t 3], none⟩,
  ⟨some 15, .load false 1, [.t 14], none⟩,
  ⟨some 16, .bin .geq, [.t 13, .t 15], none⟩] [] [] [0, 3, 5, 16] false [] []
noncomputable def c37_18 : ACode := .region false [⟨some 4, .move, [.c (.val (.bool false))], none⟩] [] [] [4] false [] []
noncomputable def c37_17 : ACode := .seq c37_18 .ret
noncomputable def c37_16 : ACode := .cond (.t 16) c37_17 .skip
noncomputable def c37_14 : ACode := .seq c37_15 c37_16
noncomputable def c37_20 : ACode := .region true [⟨some 17, .move, [.t 0], none⟩,
  ⟨some 18, .nilChk, [.t 17], none⟩,
  ⟨some 19, .addr 0, [.t 18], none⟩,
  ⟨some 20, .move, [.t 5], none⟩,
  ⟨some 21, .addr 0, [.t 3], none⟩,
  ⟨some 22, .load false 1, [.t 21], none⟩,
  ⟨some 23, .call 64, [.t 19, .t 20, .t 22], none⟩] [] [] [0, 3, 23] true [] []
noncomputable def c37_23 : ACode := .region false [⟨some 4, .move, [.c (.val (.bool true))], none⟩] [] [] [4] false [] []
noncomputable def c37_22 : ACode := .seq c37_23 .ret
noncomputable def c37_21 : ACode := .cond (.t 23) c37_22 .skip
noncomputable def c37_19 : ACode := .seq c37_20 c37_21
noncomputable def c37_13 : ACode := .seq c37_14 c37_19
noncomputable def c37_11 : ACode := .seq c37_12 c37_13
noncomputable def c37_10 : ACode := .block 1 c37_11
noncomputable def c37_9 : ACode := .loop c37_10
noncomputable def c37_8 : ACode := .block 0 c37_9
noncomputable def c37_2 : ACode := .seq c37_3 c37_8
noncomputable def c37_0 : ACode := .seq c37_1 c37_2
noncomputable def code37 : Code := (Try.f37.body).getD .skip
theorem c37_ok : compC Try.prog 24 code37 = some (strip c37_0) := by kernel_rfl
theorem res37_ok : Try.f37.results.toList.mapM (resC Try.prog) = some [(4, none)] := by kernel_rfl
/- (*quidnunc/stamp.Clock).Now -/
noncomputable def c42_1 : ACode := .region false [⟨some 2, .move, [.c (.val (.int .i64 0))], none⟩] [] [] [0] false [] []
noncomputable def c42_3 : ACode := .region false [⟨some 3, .move, [.t 0], none⟩,
  ⟨some 4, .nilChk, [.t 3], none⟩,
  ⟨some 5, .addr 0, [.t 4], none⟩,
  ⟨some 6, .call 63, [.t 5], none⟩,
  ⟨some 2, .move, [.t 6], none⟩] [] [] [2] true [] []
noncomputable def c42_2 : ACode := .seq c42_3 .ret
noncomputable def c42_0 : ACode := .seq c42_1 c42_2
noncomputable def code42 : Code := (Try.f42.body).getD .skip
theorem c42_ok : compC Try.prog 7 code42 = some (strip c42_0) := by kernel_rfl
theorem res42_ok : Try.f42.results.toList.mapM (resC Try.prog) = some [(2, none)] := by kernel_rfl
/- (*quidnunc/stamp.Clock).Site -/
noncomputable def c47_1 : ACode := .region false [⟨some 2, .move, [.c (.val (.int .i64 0))], none⟩] [] [] [0] false [] []
noncomputable def c47_3 : ACode := .region false [⟨some 3, .move, [.t 0], none⟩,
  ⟨some 4, .nilChk, [.t 3], none⟩,
  ⟨some 5, .addr 1, [.t 4], none⟩,
  ⟨some 6, .load false 1, [.t 5], none⟩,
  ⟨some 2, .move, [.t 6], none⟩] [] [] [2] false [] []
noncomputable def c47_2 : ACode := .seq c47_3 .ret
noncomputable def c47_0 : ACode := .seq c47_1 c47_2
noncomputable def code47 : Code := (Try.f47.body).getD .skip
theorem c47_ok : compC Try.prog 7 code47 = some (strip c47_0) := by kernel_rfl
theorem res47_ok : Try.f47.results.toList.mapM (resC Try.prog) = some [(2, none)] := by kernel_rfl
/- quidnunc/quidnuncref04.New -/
noncomputable def c44_1 : ACode := .region false [⟨some 4, .alloc [(.int .i64 0), (.int .i64 0)], [], none⟩,
  ⟨some 5, .move, [.c (.val (.int .i64 0))], none⟩] [] [] [0, 1, 4] true [] []
noncomputable def c44_4 : ACode := .region false [⟨some 6, .move, [.t 0], none⟩,
  ⟨some 7, .call 59, [.t 6], none⟩,
  ⟨some 8, .un .not, [.t 7], none⟩] [] [] [0, 1, 4, 8] true [] []
noncomputable def c44_7 : ACode := .region false [⟨some 9, .build [(.int .i64 0), (.int .i64 0)] [], [], none⟩,
  ⟨none, .store 2, [.t 4, .t 9], none⟩,
  ⟨some 5, .move, [.c (.val (.int .i64 1))], none⟩] [] [] [4, 5] true [] []
noncomputable def c44_6 : ACode := .seq c44_7 .ret
noncomputable def c44_5 : ACode := .cond (.t 8) c44_6 .skip
noncomputable def c44_3 : ACode := .seq c44_4 c44_5
noncomputable def c44_10 : ACode := .region false [⟨some 10, .move, [.t 1], none⟩,
  ⟨some 11, .bin .lss, [.t 10, .c (.val (.int .i64 0))], none⟩,
  ⟨some 12, .move, [.t 11], none⟩,
  ⟨some 13, .move, [.t 1], some (some 12, false)⟩,
  ⟨some 14, .bin .gtr, [.t 13, .c (.val (.int .i64 4294967295))], some (some 12, false)⟩,
  ⟨some 15, .pick, [.t 12, .c (.val (.bool true)), .t 14], none⟩] [] [] [0, 1, 4, 15] false [] []
noncomputable def c44_13 : ACode := .region false [⟨some 16, .build [(.int .i64 0), (.int .i64 0)] [], [], none⟩,
  ⟨none, .store 2, [.t 4, .t 16], none⟩,
  ⟨some 5, .move, [.c (.val (.int .i64 2))], none⟩] [] [] [4, 5] true [] []
noncomputable def c44_12 : ACode := .seq c44_13 .ret
noncomputable def c44_11 : ACode := .cond (.t 15) c44_12 .skip
noncomputable def c44_9 : ACode := .seq c44_10 c44_11
noncomputable def c44_15 : ACode := .region false [⟨some 17, .move, [.t 0], none⟩,
  ⟨some 18, .move, [.t 1], none⟩,
  ⟨some 19, .build [(.int .i64 0), (.int .i64 0)] [(0, 1), (1, 1)], [.t 17, .t 18], none⟩,
  ⟨none, .store 2, [.t 4, .t 19], none⟩,
  ⟨some 5, .move, [.c (.val (.int .i64 0))], none⟩] [] [] [4, 5] true [] []
noncomputable def c44_14 : ACode := .seq c44_15 .ret
noncomputable def c44_8 : ACode := .seq c44_9 c44_14
noncomputable def c44_2 : ACode := .seq c44_3 c44_8
noncomputable def c44_0 : ACode := .seq c44_1 c44_2
noncomputable def code44 : Code := (Try.f44.body).getD .skip
theorem c44_ok : compC Try.prog 20 code44 = some (strip c44_0) := by kernel_rfl
theorem res44_ok : Try.f44.results.toList.mapM (resC Try.prog) = some [(4, some (true, 2)), (5, none)] := by kernel_rfl
/- quidnunc/quidnuncref04.Next -/
noncomputable def c45_1 : ACode := .region false [⟨some 1, .box 0, [.t 0], none⟩,
  ⟨some 2, .alloc [(.int .i64 0), (.int .i64 0)], [], none⟩,
  ⟨some 3, .alloc [(.int .i64 0), (.int .i64 0)], [], none⟩,
  ⟨some 4, .move, [.c (.val (.int .i64 0))], none⟩] [] [] [1, 2, 3] true [] []
noncomputable def c45_4 : ACode := .region false [⟨some 5, .addr 1, [.t 1], none⟩,
  ⟨some 6, .load false 1, [.t 5], none⟩,
  ⟨some 7, .bin .eql, [.t 6, .c (.val (.int .i64 4294967295))], none⟩] [] [] [1, 2, 3, 7] false [] []
noncomputable def c45_7 : ACode := .region false [⟨some 8, .load true 2, [.t 1], none⟩,
  ⟨some 9, .build [(.int .i64 0), (.int .i64 0)] [], [], none⟩,
  ⟨none, .store 2, [.t 2, .t 8], none⟩,
  ⟨none, .store 2, [.t 3, .t 9], none⟩,
  ⟨some 4, .move, [.c (.val (.int .i64 8))], none⟩] [] [] [2, 3, 4] true [] []
noncomputable def c45_6 : ACode := .seq c45_7 .ret
noncomputable def c45_5 : ACode := .cond (.t 7) c45_6 .skip
noncomputable def c45_3 : ACode := .seq c45_4 c45_5
noncomputable def c45_9 : ACode := .region false [⟨some 10, .addr 1, [.t 1], none⟩,
  ⟨some 11, .load false 1, [.t 10], none⟩,
  ⟨some 12, .bin .add, [.t 11, .c (.val (.int .i64 1))], none⟩,
  ⟨some 13, .addr 1, [.t 1], none⟩,
  ⟨none, .store 1, [.t 13, .t 12], none⟩] [] [] [1, 2, 3] true [] []
noncomputable def c45_11 : ACode := .region true [⟨some 14, .load true 2, [.t 1], none⟩,
  ⟨some 15, .addr 1, [.t 1], none⟩,
  ⟨some 16, .load false 1, [.t 15], none⟩,
  ⟨some 17, .addr 0, [.t 1], none⟩,
  ⟨some 18, .load false 1, [.t 17], none⟩,
  ⟨some 19, .build [(.int .i64 0), (.int .i64 0)] [(0, 1), (1, 1)], [.t 16, .t 18], none⟩,
  ⟨none, .store 2, [.t 2, .t 14], none⟩,
  ⟨none, .store 2, [.t 3, .t 19], none⟩,
  ⟨some 4, .move, [.c (.val (.int .i64 0))], none⟩] [] [] [2, 3, 4] true [2, 3] []
noncomputable def c45_10 : ACode := .seq c45_11 .ret
noncomputable def c45_8 : ACode := .seq c45_9 c45_10
noncomputable def c45_2 : ACode := .seq c45_3 c45_8
noncomputable def c45_0 : ACode := .seq c45_1 c45_2
noncomputable def code45 : Code := (Try.f45.body).getD .skip
theorem c45_ok : compC Try.prog 20 code45 = some (strip c45_0) := by kernel_rfl
theorem res45_ok : Try.f45.results.toList.mapM (resC Try.prog) = some [(2, some (true, 2)), (3, some (true, 2)), (4, none)] := by kernel_rfl
/- quidnunc/quidnuncref04.See -/
noncomputable def c46_1 : ACode := .region false [⟨some 2, .box 0, [.t 0], none⟩,
  ⟨some 3, .box 0, [.t 1], none⟩,
  ⟨some 4, .alloc [(.int .i64 0), (.int .i64 0)], [], none⟩,
  ⟨some 5, .move, [.c (.val (.bool false))], none⟩] [] [] [2, 3, 4] true [] []
noncomputable def c46_4 : ACode := .region false [⟨some 6, .load true 2, [.t 3], none⟩,
  ⟨some 7, .call 39, [.t 6], none⟩,
  ⟨some 8, .un .not, [.t 7], none⟩,
  ⟨some 9, .move, [.t 8], none⟩,
  ⟨some 10, .addr 0, [.t 3], some (some 9, false)⟩,
  ⟨some 11, .load false 1, [.t 10], some (some 9, false)⟩,
  ⟨some 12, .addr 1, [.t 2], some (some 9, false)⟩,
  ⟨some 13, .load false 1, [.t 12], some (some 9, false)⟩,
  ⟨some 14, .bin .leq, [.t 11, .t 13], some (some 9, false)⟩,
  ⟨some 15, .pick, [.t 9, .c (.val (.bool true)), .t 14], none⟩] [] [] [2, 3, 4, 15] true [] []
noncomputable def c46_7 : ACode := .region false [⟨some 16, .load true 2, [.t 2], none⟩,
  ⟨none, .store 2, [.t 4, .t 16], none⟩,
  ⟨some 5, .move, [.c (.val (.bool false))], none⟩] [] [] [4, 5] true [] []
noncomputable def c46_6 : ACode := .seq c46_7 .ret
noncomputable def c46_5 : ACode := .cond (.t 15) c46_6 .skip
noncomputable def c46_3 : ACode := .seq c46_4 c46_5
noncomputable def c46_9 : ACode := .region false [⟨some 17, .addr 0, [.t 3], none⟩,
  ⟨some 18, .load false 1, [.t 17], none⟩,
  ⟨some 19, .addr 1, [.t 2], none⟩,
  ⟨none, .store 1, [.t 19, .t 18], none⟩] [] [] [2, 4] true [] []
noncomputable def c46_11 : ACode := .region false [⟨some 20, .load true 2, [.t 2], none⟩,
  ⟨none, .store 2, [.t 4, .t 20], none⟩,
  ⟨some 5, .move, [.c (.val (.bool true))], none⟩] [] [] [4, 5] true [] []
noncomputable def c46_10 : ACode := .seq c46_11 .ret
noncomputable def c46_8 : ACode := .seq c46_9 c46_10
noncomputable def c46_2 : ACode := .seq c46_3 c46_8
noncomputable def c46_0 : ACode := .seq c46_1 c46_2
noncomputable def code46 : Code := (Try.f46.body).getD .skip
theorem c46_ok : compC Try.prog 21 code46 = some (strip c46_0) := by kernel_rfl
theorem res46_ok : Try.f46.results.toList.mapM (resC Try.prog) = some [(4, some (true, 2)), (5, none)] := by kernel_rfl
/- quidnunc/quidnunclaw04.speaks -/
noncomputable def c35_1 : ACode := .region false [⟨some 0, .move, [.c (.val (.bool false))], none⟩] [] [] [] false [] []
noncomputable def c35_3 : ACode := .region false [⟨some 8, .call 36, [.c (.val (.int .i64 2)), .c (.val (.int .i64 5))], none⟩,
  ⟨some 7, .move, [.t 8], none⟩,
  ⟨some 9, .ext 0, [.t 7], none⟩,
  ⟨some 10, .ext 1, [.t 7], none⟩,
  ⟨some 1, .move, [.t 9], none⟩,
  ⟨some 2, .move, [.t 10], none⟩] [] [] [1, 2] true [] []
noncomputable def c35_6 : ACode := .region false [⟨some 11, .move, [.t 2], none⟩,
  ⟨some 12, .bin .neq, [.t 11, .c (.val (.int .i64 0))], none⟩,
  ⟨some 13, .move, [.t 12], none⟩,
  ⟨some 14, .move, [.t 1], some (some 13, false)⟩,
  ⟨some 15, .eqP false, [.t 14, .c (.val (.pointer none))], some (some 13, false)⟩,
  ⟨some 16, .pick, [.t 13, .c (.val (.bool true)), .t 15], none⟩] [] [] [1, 16] false [] []
noncomputable def c35_9 : ACode := .region false [⟨some 0, .move, [.c (.val (.bool false))], none⟩] [] [] [0] false [] []
noncomputable def c35_8 : ACode := .seq c35_9 .ret
noncomputable def c35_7 : ACode := .cond (.t 16) c35_8 .skip
noncomputable def c35_5 : ACode := .seq c35_6 c35_7
noncomputable def c35_11 : ACode := .region false [⟨some 18, .move, [.t 1], none⟩,
  ⟨some 19, .call 41, [.t 18], none⟩,
  ⟨some 17, .move, [.t 19], none⟩,
  ⟨some 20, .ext 0, [.t 17], none⟩,
  ⟨some 21, .ext 1, [.t 17], none⟩,
  ⟨some 3, .alloc [(.int .i64 0), (.int .i64 0)], [], none⟩,
  ⟨none, .store 2, [.t 3, .t 20], none⟩,
  ⟨some 4, .move, [.t 21], none⟩] [] [] [1, 3, 4] true [] []
noncomputable def c35_13 : ACode := .region false [⟨some 22, .move, [.t 1], none⟩,
  ⟨some 23, .build [(.int .i64 0), (.int .i64 0)] [(0, 1)], [.c (.val (.int .i64 9))], none⟩,
  ⟨some 24, .call 37, [.t 22, .t 23], none⟩] [] [] [1, 3, 4] true [] []
noncomputable def c35_15 : ACode := .region false [⟨some 26, .move, [.t 1], none⟩,
  ⟨some 27, .call 41, [.t 26], none⟩,
  ⟨some 25, .move, [.t 27], none⟩,
  ⟨some 28, .ext 0, [.t 25], none⟩,
  ⟨some 29, .ext 1, [.t 25], none⟩,
  ⟨some 5, .alloc [(.int .i64 0), (.int .i64 0)], [], none⟩,
  ⟨none, .store 2, [.t 5, .t 28], none⟩,
  ⟨some 6, .move, [.t 29], none⟩] [] [] [3, 4, 5, 6] true [] []
noncomputable def c35_17 : ACode := .region false [⟨some 30, .move, [.t 4], none⟩,
  ⟨some 31, .bin .eql, [.t 30, .c (.val (.int .i64 0))], none⟩,
  ⟨some 32, .move, [.t 31], none⟩,
  ⟨some 33, .move, [.t 6], some (some 32, true)⟩,
  ⟨some 34, .bin .eql, [.t 33, .c (.val (.int .i64 0))], some (some 32, true)⟩,
  ⟨some 35, .pick, [.t 32, .t 34, .c (.val (.bool false))], none⟩,
  ⟨some 36, .move, [.t 35], none⟩,
  ⟨some 37, .load true 2, [.t 3], some (some 36, true)⟩,
  ⟨some 38, .build [(.int .i64 0), (.int .i64 0)] [(0, 1), (1, 1)], [.c (.val (.int .i64 6)), .c (.val (.int .i64 2))], some (some 36, true)⟩,
  ⟨some 39, .eqA false [(0, 0), (1, 0)], [.t 37, .t 38], some (some 36, true)⟩,
  ⟨some 40, .pick, [.t 36, .t 39, .c (.val (.bool false))], none⟩,
  ⟨some 41, .move, [.t 40], none⟩,
  ⟨some 42, .load true 2, [.t 5], some (some 41, true)⟩,
  ⟨some 43, .build [(.int .i64 0), (.int .i64 0)] [(0, 1), (1, 1)], [.c (.val (.int .i64 10)), .c (.val (.int .i64 2))], some (some 41, true)⟩,
  ⟨some 44, .eqA false [(0, 0), (1, 0)], [.t 42, .t 43], some (some 41, true)⟩,
  ⟨some 45, .pick, [.t 41, .t 44, .c (.val (.bool false))], none⟩,
  ⟨some 0, .move, [.t 45], none⟩] [] [] [0] false [] []
noncomputable def c35_16 : ACode := .seq c35_17 .ret
noncomputable def c35_14 : ACode := .seq c35_15 c35_16
noncomputable def c35_12 : ACode := .seq c35_13 c35_14
noncomputable def c35_10 : ACode := .seq c35_11 c35_12
noncomputable def c35_4 : ACode := .seq c35_5 c35_10
noncomputable def c35_2 : ACode := .seq c35_3 c35_4
noncomputable def c35_0 : ACode := .seq c35_1 c35_2
noncomputable def code35 : Code := (Try.f35.body).getD .skip
theorem c35_ok : compC Try.prog 46 code35 = some (strip c35_0) := by kernel_rfl
theorem res35_ok : Try.f35.results.toList.mapM (resC Try.prog) = some [(0, none)] := by kernel_rfl
abbrev Clk (n s : Int) : AObj := .cells false [I n, I s]
abbrev ClkR (n s : Int) : AObj := .cells true [I n, I s]
theorem new_ok (s f : Int) (h1 : 0 ≤ s) (h2 : s < 12) (h3 : 0 ≤ f) (h4 : f ≤ 4294967295) : ACall Try.prog 36 [I s, I f] [] (Det (.tup [.ptr 0 0, I 0]) [Clk f s]) := by
  refine ACall.startA c36_ok Try.func36 rfl Try.ntmps36 (by kernel_rfl) res36_ok rfl rfl rfl ?_; simp (maxSteps := 9999999) (disch := omega) only [go_sem]
  (repeat' (first | refine AWpA.seq ?_ | refine AWpA.block ?_ | (with_reducible refine CondP.tt ?_) | (with_reducible refine CondP.ff ?_) | refine AWpA.condv (by simp (maxSteps := 9999999) (disch := omega) only [go_sem]; rfl) ?_ | ((first | (apply AWpA.region; (focus (simp (maxSteps := 9999999) (disch := omega) only [go_sem]; rfl))) | (apply AWpA.draw [] [] follows; (focus (first | rfl | decide)); (focus (simp (maxSteps := 9999999) (disch := omega) only [go_sem]; rfl)); (focus (simp (maxSteps := 9999999) (disch := omega) only [go_sem]; first | done | trivial)); (focus (simp (maxSteps := 9999999) (disch := omega) only [go_sem]; rfl))) | (apply TailK.go; (focus (simp (maxSteps := 9999999) (disch := omega) only [go_sem]; rfl))) | refine AWpA.skip ?_ | refine AWpA.exit ?_ | refine AWpA.ret ?_ | (with_reducible refine ARoundsA.succ ?_) | ((first | refine Runs.kt (by assumption) (fun h9 => ?_) | refine Runs.kf (by assumption) (fun h9 => ?_) | refine Runs.nt (by assumption) (fun h9 => ?_) | refine Runs.nf (by assumption) (fun h9 => ?_) | refine CondP.ht (by assumption) (fun h9 => ?_) | refine CondP.hf (by assumption) (fun h9 => ?_) | refine CondP.nt (by assumption) (fun h9 => ?_) | refine CondP.nf (by assumption) (fun h9 => ?_)); (try simp only [h9]); clear h9) | ((first | (with_reducible apply CallG.plain1 [_] (astore_any _ _ [I _])) | (with_reducible apply CallG.draw1 [_] (astore_any _ _ [I _]))); (focus ((try refine And.intro (leAs_of_eq rfl) ?_); (try refine And.intro (leOL_of_eq rfl) ?_); simp (maxSteps := 9999999) (disch := omega) only [go_sem]; first | done | (repeat' (first | rfl | (refine And.intro ?_ ?_))))); (focus (simp (maxSteps := 9999999) (disch := omega) only [go_sem]; rfl)))); (try simp (maxSteps := 9999999) (disch := omega) only [go_sem]); (try (refine And.intro ?_ ?_; (focus (first | omega | (simp only [go_sem]; done) | (simp; done) | (simp; omega) | assumption))))) | ((first | refine CondP.split (fun hif => ?_) (fun hif => ?_) | refine Runs.part (fun hif => ?_) (fun hif => ?_)) <;> ((try simp only [hif]); (try simp only [decide_eq_true_eq, decide_eq_false_iff_not, Bool.not_eq_true, Bool.not_eq_false, Bool.not_eq_true', Bool.not_eq_false', beq_iff_eq, bne_iff_ne, bne_eq_false_iff_eq, beq_eq_false_iff_ne, ne_eq, Bool.and_eq_true, Bool.or_eq_true, Bool.or_eq_false_iff] at hif); (try (have h9 : _ = true := hif; simp only [h9])); (try (have h9 : _ = false := hif; simp only [h9])); (try simp (maxSteps := 9999999) (disch := omega) only [go_sem]); (try (refine And.intro ?_ ?_; (focus (first | omega | (simp only [go_sem]; done) | (simp; done) | (simp; omega) | assumption)))); (try (exfalso; omega; done))))))
  all_goals try omega
  (apply Ret.det [288]; (focus (first | exact .inl rfl | exact .inr rfl)); (focus (simp (maxSteps := 9999999) (disch := omega) only [go_sem]; rfl)); (simp (maxSteps := 9999999) (disch := omega) only [go_sem]; (try (repeat' (first | done | trivial | rfl | exact leAs_rfl _ | decide | (refine And.intro ?_ ?_) | (simp; done) | omega | (simp; decide))))))
theorem new_site (s f : Int) (h1 : s < 0 ∨ 12 ≤ s) : ACall Try.prog 36 [I s, I f] [] (Det (.tup [nilP, I 1]) []) := by
  refine ACall.startA c36_ok Try.func36 rfl Try.ntmps36 (by kernel_rfl) res36_ok rfl rfl rfl ?_; simp (maxSteps := 9999999) (disch := omega) only [go_sem]
  (repeat' (first | refine AWpA.seq ?_ | refine AWpA.block ?_ | (with_reducible refine CondP.tt ?_) | (with_reducible refine CondP.ff ?_) | refine AWpA.condv (by simp (maxSteps := 9999999) (disch := omega) only [go_sem]; rfl) ?_ | ((first | (apply AWpA.region; (focus (simp (maxSteps := 9999999) (disch := omega) only [go_sem]; rfl))) | (apply AWpA.draw [] [] follows; (focus (first | rfl | decide)); (focus (simp (maxSteps := 9999999) (disch := omega) only [go_sem]; rfl)); (focus (simp (maxSteps := 9999999) (disch := omega) only [go_sem]; first | done | trivial)); (focus (simp (maxSteps := 9999999) (disch := omega) only [go_sem]; rfl))) | (apply TailK.go; (focus (simp (maxSteps := 9999999) (disch := omega) only [go_sem]; rfl))) | refine AWpA.skip ?_ | refine AWpA.exit ?_ | refine AWpA.ret ?_ | (with_reducible refine ARoundsA.succ ?_) | ((first | refine Runs.kt (by assumption) (fun h9 => ?_) | refine Runs.kf (by assumption) (fun h9 => ?_) | refine Runs.nt (by assumption) (fun h9 => ?_) | refine Runs.nf (by assumption) (fun h9 => ?_) | refine CondP.ht (by assumption) (fun h9 => ?_) | refine CondP.hf (by assumption) (fun h9 => ?_) | refine CondP.nt (by assumption) (fun h9 => ?_) | refine CondP.nf (by assumption) (fun h9 => ?_)); (try simp only [h9]); clear h9) | ((first | (with_reducible apply CallG.plain1 [_] (astore_any _ _ [I _])) | (with_reducible apply CallG.draw1 [_] (astore_any _ _ [I _]))); (focus ((try refine And.intro (leAs_of_eq rfl) ?_); (try refine And.intro (leOL_of_eq rfl) ?_); simp (maxSteps := 9999999) (disch := omega) only [go_sem]; first | done | (repeat' (first | rfl | (refine And.intro ?_ ?_))))); (focus (simp (maxSteps := 9999999) (disch := omega) only [go_sem]; rfl)))); (try simp (maxSteps := 9999999) (disch := omega) only [go_sem]); (try (refine And.intro ?_ ?_; (focus (first | omega | (simp only [go_sem]; done) | (simp; done) | (simp; omega) | assumption))))) | ((first | refine CondP.split (fun hif => ?_) (fun hif => ?_) | refine Runs.part (fun hif => ?_) (fun hif => ?_)) <;> ((try simp only [hif]); (try simp only [decide_eq_true_eq, decide_eq_false_iff_not, Bool.not_eq_true, Bool.not_eq_false, Bool.not_eq_true', Bool.not_eq_false', beq_iff_eq, bne_iff_ne, bne_eq_false_iff_eq, beq_eq_false_iff_ne, ne_eq, Bool.and_eq_true, Bool.or_eq_true, Bool.or_eq_false_iff] at hif); (try (have h9 : _ = true := hif; simp only [h9])); (try (have h9 : _ = false := hif; simp only [h9])); (try simp (maxSteps := 9999999) (disch := omega) only [go_sem]); (try (refine And.intro ?_ ?_; (focus (first | omega | (simp only [go_sem]; done) | (simp; done) | (simp; omega) | assumption)))); (try (exfalso; omega; done))))))
  all_goals try omega
  all_goals
    (apply Ret.det []; (focus (first | exact .inl rfl | exact .inr rfl)); (focus (simp (maxSteps := 9999999) (disch := omega) only [go_sem]; rfl)); (simp (maxSteps := 9999999) (disch := omega) only [go_sem]; (try (repeat' (first | done | trivial | rfl | exact leAs_rfl _ | decide | (refine And.intro ?_ ?_) | (simp; done) | omega | (simp; decide))))))
theorem new_from (s f : Int) (h1 : 0 ≤ s) (h2 : s < 12) (h3 : f < 0 ∨ 4294967295 < f) : ACall Try.prog 36 [I s, I f] [] (Det (.tup [nilP, I 2]) []) := by
  refine ACall.startA c36_ok Try.func36 rfl Try.ntmps36 (by kernel_rfl) res36_ok rfl rfl rfl ?_; simp (maxSteps := 9999999) (disch := omega) only [go_sem]
  (repeat' (first | refine AWpA.seq ?_ | refine AWpA.block ?_ | (with_reducible refine CondP.tt ?_) | (with_reducible refine CondP.ff ?_) | refine AWpA.condv (by simp (maxSteps := 9999999) (disch := omega) only [go_sem]; rfl) ?_ | ((first | (apply AWpA.region; (focus (simp (maxSteps := 9999999) (disch := omega) only [go_sem]; rfl))) | (apply AWpA.draw [] [] follows; (focus (first | rfl | decide)); (focus (simp (maxSteps := 9999999) (disch := omega) only [go_sem]; rfl)); (focus (simp (maxSteps := 9999999) (disch := omega) only [go_sem]; first | done | trivial)); (focus (simp (maxSteps := 9999999) (disch := omega) only [go_sem]; rfl))) | (apply TailK.go; (focus (simp (maxSteps := 9999999) (disch := omega) only [go_sem]; rfl))) | refine AWpA.skip ?_ | refine AWpA.exit ?_ | refine AWpA.ret ?_ | (with_reducible refine ARoundsA.succ ?_) | ((first | refine Runs.kt (by assumption) (fun h9 => ?_) | refine Runs.kf (by assumption) (fun h9 => ?_) | refine Runs.nt (by assumption) (fun h9 => ?_) | refine Runs.nf (by assumption) (fun h9 => ?_) | refine CondP.ht (by assumption) (fun h9 => ?_) | refine CondP.hf (by assumption) (fun h9 => ?_) | refine CondP.nt (by assumption) (fun h9 => ?_) | refine CondP.nf (by assumption) (fun h9 => ?_)); (try simp only [h9]); clear h9) | ((first | (with_reducible apply CallG.plain1 [_] (astore_any _ _ [I _])) | (with_reducible apply CallG.draw1 [_] (astore_any _ _ [I _]))); (focus ((try refine And.intro (leAs_of_eq rfl) ?_); (try refine And.intro (leOL_of_eq rfl) ?_); simp (maxSteps := 9999999) (disch := omega) only [go_sem]; first | done | (repeat' (first | rfl | (refine And.intro ?_ ?_))))); (focus (simp (maxSteps := 9999999) (disch := omega) only [go_sem]; rfl)))); (try simp (maxSteps := 9999999) (disch := omega) only [go_sem]); (try (refine And.intro ?_ ?_; (focus (first | omega | (simp only [go_sem]; done) | (simp; done) | (simp; omega) | assumption))))) | ((first | refine CondP.split (fun hif => ?_) (fun hif => ?_) | refine Runs.part (fun hif => ?_) (fun hif => ?_)) <;> ((try simp only [hif]); (try simp only [decide_eq_true_eq, decide_eq_false_iff_not, Bool.not_eq_true, Bool.not_eq_false, Bool.not_eq_true', Bool.not_eq_false', beq_iff_eq, bne_iff_ne, bne_eq_false_iff_eq, beq_eq_false_iff_ne, ne_eq, Bool.and_eq_true, Bool.or_eq_true, Bool.or_eq_false_iff] at hif); (try (have h9 : _ = true := hif; simp only [h9])); (try (have h9 : _ = false := hif; simp only [h9])); (try simp (maxSteps := 9999999) (disch := omega) only [go_sem]); (try (refine And.intro ?_ ?_; (focus (first | omega | (simp only [go_sem]; done) | (simp; done) | (simp; omega) | assumption)))); (try (exfalso; omega; done))))))
  all_goals try omega
  all_goals
    (apply Ret.det []; (focus (first | exact .inl rfl | exact .inr rfl)); (focus (simp (maxSteps := 9999999) (disch := omega) only [go_sem]; rfl)); (simp (maxSteps := 9999999) (disch := omega) only [go_sem]; (try (repeat' (first | done | trivial | rfl | exact leAs_rfl _ | decide | (refine And.intro ?_ ?_) | (simp; done) | omega | (simp; decide))))))
/-- What Next tells: the counter afterwards, the stamp, the error's number. -/
def nextC (n : Int) : Int := if 4294967295 ≤ n then n else n + 1
def nextT (n s : Int) : St := ⟨if 4294967295 ≤ n then 0 else n + 1, if 4294967295 ≤ n then 0 else s⟩
def nextE (n : Int) : Int := if 4294967295 ≤ n then 8 else 0
theorem next_any (n s : Int) (h : 0 ≤ n) (h' : n ≤ 4294967295) : ACall Try.prog 41 [.ptr 0 0] [Clk n s] (Det (.tup [StA (nextT n s), I (nextE n)]) [Clk (nextC n) s]) := by
  refine ACall.startA c41_ok Try.func41 rfl Try.ntmps41 (by kernel_rfl) res41_ok rfl rfl rfl ?_; simp (maxSteps := 9999999) (disch := omega) only [go_sem]
  (repeat' (first | refine AWpA.seq ?_ | refine AWpA.block ?_ | (with_reducible refine CondP.tt ?_) | (with_reducible refine CondP.ff ?_) | refine AWpA.condv (by simp (maxSteps := 9999999) (disch := omega) only [go_sem]; rfl) ?_ | ((first | (apply AWpA.region; (focus (simp (maxSteps := 9999999) (disch := omega) only [go_sem]; rfl))) | (apply AWpA.draw [] [] follows; (focus (first | rfl | decide)); (focus (simp (maxSteps := 9999999) (disch := omega) only [go_sem]; rfl)); (focus (simp (maxSteps := 9999999) (disch := omega) only [go_sem]; first | done | trivial)); (focus (simp (maxSteps := 9999999) (disch := omega) only [go_sem]; rfl))) | (apply TailK.go; (focus (simp (maxSteps := 9999999) (disch := omega) only [go_sem]; rfl))) | refine AWpA.skip ?_ | refine AWpA.exit ?_ | refine AWpA.ret ?_ | (with_reducible refine ARoundsA.succ ?_) | ((first | refine Runs.kt (by assumption) (fun h9 => ?_) | refine Runs.kf (by assumption) (fun h9 => ?_) | refine Runs.nt (by assumption) (fun h9 => ?_) | refine Runs.nf (by assumption) (fun h9 => ?_) | refine CondP.ht (by assumption) (fun h9 => ?_) | refine CondP.hf (by assumption) (fun h9 => ?_) | refine CondP.nt (by assumption) (fun h9 => ?_) | refine CondP.nf (by assumption) (fun h9 => ?_)); (try simp only [h9]); clear h9)); (try simp (maxSteps := 9999999) (disch := omega) only [go_sem]); (try (refine And.intro ?_ ?_; (focus (first | omega | (simp only [go_sem]; done) | (simp; done) | (simp; omega) | assumption))))) | ((first | refine CondP.split (fun hif => ?_) (fun hif => ?_) | refine Runs.part (fun hif => ?_) (fun hif => ?_)) <;> ((try simp only [hif]); (try simp only [decide_eq_true_eq, decide_eq_false_iff_not, Bool.not_eq_true, Bool.not_eq_false, Bool.not_eq_true', Bool.not_eq_false', beq_iff_eq, bne_iff_ne, bne_eq_false_iff_eq, beq_eq_false_iff_ne, ne_eq, Bool.and_eq_true, Bool.or_eq_true, Bool.or_eq_false_iff] at hif); (try (have h9 : _ = true := hif; simp only [h9])); (try (have h9 : _ = false := hif; simp only [h9])); (try simp (maxSteps := 9999999) (disch := omega) only [go_sem]); (try (refine And.intro ?_ ?_; (focus (first | omega | (simp only [go_sem]; done) | (simp; done) | (simp; omega) | assumption)))); (try (exfalso; omega; done))))))
  refine AWpA.rounds 1 ?_
  (repeat' (first | refine AWpA.seq ?_ | refine AWpA.block ?_ | (with_reducible refine CondP.tt ?_) | (with_reducible refine CondP.ff ?_) | refine AWpA.condv (by simp (maxSteps := 9999999) (disch := omega) only [go_sem]; rfl) ?_ | ((first | (apply AWpA.region; (focus (simp (maxSteps := 9999999) (disch := omega) only [go_sem]; rfl))) | (apply AWpA.draw [] [] follows; (focus (first | rfl | decide)); (focus (simp (maxSteps := 9999999) (disch := omega) only [go_sem]; rfl)); (focus (simp (maxSteps := 9999999) (disch := omega) only [go_sem]; first | done | trivial)); (focus (simp (maxSteps := 9999999) (disch := omega) only [go_sem]; rfl))) | (apply TailK.go; (focus (simp (maxSteps := 9999999) (disch := omega) only [go_sem]; rfl))) | refine AWpA.skip ?_ | refine AWpA.exit ?_ | refine AWpA.ret ?_ | (with_reducible refine ARoundsA.succ ?_) | ((first | refine Runs.kt (by assumption) (fun h9 => ?_) | refine Runs.kf (by assumption) (fun h9 => ?_) | refine Runs.nt (by assumption) (fun h9 => ?_) | refine Runs.nf (by assumption) (fun h9 => ?_) | refine CondP.ht (by assumption) (fun h9 => ?_) | refine CondP.hf (by assumption) (fun h9 => ?_) | refine CondP.nt (by assumption) (fun h9 => ?_) | refine CondP.nf (by assumption) (fun h9 => ?_)); (try simp only [h9]); clear h9) | ((first | (with_reducible apply CallG.plain1 [_] (aload_any _ [I _])) | (with_reducible apply CallG.plain1 [_] (acas_any _ _ [I _])) | (with_reducible apply CallG.draw1 [_] (aload_any _ [I _])) | (with_reducible apply CallG.draw1 [_] (acas_any _ _ [I _]))); (focus ((try refine And.intro (leAs_of_eq rfl) ?_); (try refine And.intro (leOL_of_eq rfl) ?_); simp (maxSteps := 9999999) (disch := omega) only [go_sem]; first | done | (repeat' (first | rfl | (refine And.intro ?_ ?_))))); (focus (simp (maxSteps := 9999999) (disch := omega) only [go_sem]; rfl)))); (try simp (maxSteps := 9999999) (disch := omega) only [go_sem]); (try (refine And.intro ?_ ?_; (focus (first | omega | (simp only [go_sem]; done) | (simp; done) | (simp; omega) | assumption))))) | ((first | refine CondP.split (fun hif => ?_) (fun hif => ?_) | refine Runs.part (fun hif => ?_) (fun hif => ?_)) <;> ((try simp only [hif]); (try simp only [decide_eq_true_eq, decide_eq_false_iff_not, Bool.not_eq_true, Bool.not_eq_false, Bool.not_eq_true', Bool.not_eq_false', beq_iff_eq, bne_iff_ne, bne_eq_false_iff_eq, beq_eq_false_iff_ne, ne_eq, Bool.and_eq_true, Bool.or_eq_true, Bool.or_eq_false_iff] at hif); (try (have h9 : _ = true := hif; simp only [h9])); (try (have h9 : _ = false := hif; simp only [h9])); (try simp (maxSteps := 9999999) (disch := omega) only [go_sem]); (try (refine And.intro ?_ ?_; (focus (first | omega | (simp only [go_sem]; done) | (simp; done) | (simp; omega) | assumption)))); (try (exfalso; omega; done))))))
  all_goals
    (apply Ret.det [0]; (focus (first | exact .inl rfl | exact .inr rfl)); (focus (simp (maxSteps := 9999999) (disch := omega) only [go_sem]; rfl)); (simp (maxSteps := 9999999) (disch := omega) only [go_sem]; (try (repeat' (first | done | trivial | rfl | exact leAs_rfl _ | decide | (refine And.intro ?_ ?_) | (simp; done) | omega | (simp; decide))))))
    all_goals (simp [nextC, nextT, nextE, *])
/-- What See does. -/
def seeB (n : Int) (t : St) : Bool := goodB t && decide (n < t.c)
def seeC (n : Int) (t : St) : Int := if seeB n t = true then t.c else n
theorem see_any (n s : Int) (t : St) : ACall Try.prog 37 [.ptr 0 0, StA t] [Clk n s] (Det (Bo (seeB n t)) [Clk (seeC n t) s]) := by
  refine ACall.startA c37_ok Try.func37 rfl Try.ntmps37 (by kernel_rfl) res37_ok rfl rfl rfl ?_; simp (maxSteps := 9999999) (disch := omega) only [go_sem]
  (repeat' (first | refine AWpA.seq ?_ | refine AWpA.block ?_ | (with_reducible refine CondP.tt ?_) | (with_reducible refine CondP.ff ?_) | refine AWpA.condv (by simp (maxSteps := 9999999) (disch := omega) only [go_sem]; rfl) ?_ | ((first | (apply AWpA.region; (focus (simp (maxSteps := 9999999) (disch := omega) only [go_sem]; rfl))) | (apply AWpA.draw [] [] follows; (focus (first | rfl | decide)); (focus (simp (maxSteps := 9999999) (disch := omega) only [go_sem]; rfl)); (focus (simp (maxSteps := 9999999) (disch := omega) only [go_sem]; first | done | trivial)); (focus (simp (maxSteps := 9999999) (disch := omega) only [go_sem]; rfl))) | (apply TailK.go; (focus (simp (maxSteps := 9999999) (disch := omega) only [go_sem]; rfl))) | refine AWpA.skip ?_ | refine AWpA.exit ?_ | refine AWpA.ret ?_ | (with_reducible refine ARoundsA.succ ?_) | ((first | refine Runs.kt (by assumption) (fun h9 => ?_) | refine Runs.kf (by assumption) (fun h9 => ?_) | refine Runs.nt (by assumption) (fun h9 => ?_) | refine Runs.nf (by assumption) (fun h9 => ?_) | refine CondP.ht (by assumption) (fun h9 => ?_) | refine CondP.hf (by assumption) (fun h9 => ?_) | refine CondP.nt (by assumption) (fun h9 => ?_) | refine CondP.nf (by assumption) (fun h9 => ?_)); (try simp only [h9]); clear h9) | ((first | (with_reducible apply CallG.plain1 [] (good_any _)) | (with_reducible apply CallG.draw1 [] (good_any _))); (focus ((try refine And.intro (leAs_of_eq rfl) ?_); (try refine And.intro (leOL_of_eq rfl) ?_); simp (maxSteps := 9999999) (disch := omega) only [go_sem]; first | done | (repeat' (first | rfl | (refine And.intro ?_ ?_))))); (focus (simp (maxSteps := 9999999) (disch := omega) only [go_sem]; rfl)))); (try simp (maxSteps := 9999999) (disch := omega) only [go_sem]); (try (refine And.intro ?_ ?_; (focus (first | omega | (simp only [go_sem]; done) | (simp; done) | (simp; omega) | assumption))))) | ((first | refine CondP.split (fun hif => ?_) (fun hif => ?_) | refine Runs.part (fun hif => ?_) (fun hif => ?_)) <;> ((try simp only [hif]); (try simp only [decide_eq_true_eq, decide_eq_false_iff_not, Bool.not_eq_true, Bool.not_eq_false, Bool.not_eq_true', Bool.not_eq_false', beq_iff_eq, bne_iff_ne, bne_eq_false_iff_eq, beq_eq_false_iff_ne, ne_eq, Bool.and_eq_true, Bool.or_eq_true, Bool.or_eq_false_iff] at hif); (try (have h9 : _ = true := hif; simp only [h9])); (try (have h9 : _ = false := hif; simp only [h9])); (try simp (maxSteps := 9999999) (disch := omega) only [go_sem]); (try (refine And.intro ?_ ?_; (focus (first | omega | (simp only [go_sem]; done) | (simp; done) | (simp; omega) | assumption)))); (try (exfalso; omega; done))))))
  · (apply Ret.det [0]; (focus (first | exact .inl rfl | exact .inr rfl)); (focus (simp (maxSteps := 9999999) (disch := omega) only [go_sem]; rfl)); (simp (maxSteps := 9999999) (disch := omega) only [go_sem]; (try (repeat' (first | done | trivial | rfl | exact leAs_rfl _ | decide | (refine And.intro ?_ ?_) | (simp; done) | omega | (simp; decide))))))
    all_goals (simp_all [seeC, seeB])
  · refine AWpA.rounds 1 ?_
    (repeat' (first | refine AWpA.seq ?_ | refine AWpA.block ?_ | (with_reducible refine CondP.tt ?_) | (with_reducible refine CondP.ff ?_) | refine AWpA.condv (by simp (maxSteps := 9999999) (disch := omega) only [go_sem]; rfl) ?_ | ((first | (apply AWpA.region; (focus (simp (maxSteps := 9999999) (disch := omega) only [go_sem]; rfl))) | (apply AWpA.draw [0] [] follows; (focus (first | rfl | decide)); (focus (simp (maxSteps := 9999999) (disch := omega) only [go_sem]; rfl)); (focus (simp (maxSteps := 9999999) (disch := omega) only [go_sem]; first | done | trivial)); (focus (simp (maxSteps := 9999999) (disch := omega) only [go_sem]; rfl))) | (apply TailK.go; (focus (simp (maxSteps := 9999999) (disch := omega) only [go_sem]; rfl))) | refine AWpA.skip ?_ | refine AWpA.exit ?_ | refine AWpA.ret ?_ | (with_reducible refine ARoundsA.succ ?_) | ((first | refine Runs.kt (by assumption) (fun h9 => ?_) | refine Runs.kf (by assumption) (fun h9 => ?_) | refine Runs.nt (by assumption) (fun h9 => ?_) | refine Runs.nf (by assumption) (fun h9 => ?_) | refine CondP.ht (by assumption) (fun h9 => ?_) | refine CondP.hf (by assumption) (fun h9 => ?_) | refine CondP.nt (by assumption) (fun h9 => ?_) | refine CondP.nf (by assumption) (fun h9 => ?_)); (try simp only [h9]); clear h9) | ((first | (with_reducible apply CallG.plain1 [_] (aload_any _ [I _])) | (with_reducible apply CallG.plain1 [_] (acas_any _ _ [I _])) | (with_reducible apply CallG.draw1 [_] (aload_any _ [I _])) | (with_reducible apply CallG.draw1 [_] (acas_any _ _ [I _]))); (focus ((try refine And.intro (leAs_of_eq rfl) ?_); (try refine And.intro (leOL_of_eq rfl) ?_); simp (maxSteps := 9999999) (disch := omega) only [go_sem]; first | done | (repeat' (first | rfl | (refine And.intro ?_ ?_))))); (focus (simp (maxSteps := 9999999) (disch := omega) only [go_sem]; rfl)))); (try simp (maxSteps := 9999999) (disch := omega) only [go_sem]); (try (refine And.intro ?_ ?_; (focus (first | omega | (simp only [go_sem]; done) | (simp; done) | (simp; omega) | assumption))))) | ((first | refine CondP.split (fun hif => ?_) (fun hif => ?_) | refine Runs.part (fun hif => ?_) (fun hif => ?_)) <;> ((try simp only [hif]); (try simp only [decide_eq_true_eq, decide_eq_false_iff_not, Bool.not_eq_true, Bool.not_eq_false, Bool.not_eq_true', Bool.not_eq_false', beq_iff_eq, bne_iff_ne, bne_eq_false_iff_eq, beq_eq_false_iff_ne, ne_eq, Bool.and_eq_true, Bool.or_eq_true, Bool.or_eq_false_iff] at hif); (try (have h9 : _ = true := hif; simp only [h9])); (try (have h9 : _ = false := hif; simp only [h9])); (try simp (maxSteps := 9999999) (disch := omega) only [go_sem]); (try (refine And.intro ?_ ?_; (focus (first | omega | (simp only [go_sem]; done) | (simp; done) | (simp; omega) | assumption)))); (try (exfalso; omega; done))))))
    all_goals
      (apply Ret.det [0]; (focus (first | exact .inl rfl | exact .inr rfl)); (focus (simp (maxSteps := 9999999) (disch := omega) only [go_sem]; rfl)); (simp (maxSteps := 9999999) (disch := omega) only [go_sem]; (try (repeat' (first | done | trivial | rfl | exact leAs_rfl _ | decide | (refine And.intro ?_ ?_) | (simp; done) | omega | (simp; decide))))))
      all_goals (simp_all [seeC, seeB]; try omega)
theorem now_any (n s : Int) : ACall Try.prog 42 [.ptr 0 0] [ClkR n s] (Det (I n) [ClkR n s]) := by
  refine ACall.startA c42_ok Try.func42 rfl Try.ntmps42 (by kernel_rfl) res42_ok rfl rfl rfl ?_; simp (maxSteps := 9999999) (disch := omega) only [go_sem]
  (repeat' (first | refine AWpA.seq ?_ | refine AWpA.block ?_ | (with_reducible refine CondP.tt ?_) | (with_reducible refine CondP.ff ?_) | refine AWpA.condv (by simp (maxSteps := 9999999) (disch := omega) only [go_sem]; rfl) ?_ | ((first | (apply AWpA.region; (focus (simp (maxSteps := 9999999) (disch := omega) only [go_sem]; rfl))) | (apply AWpA.draw [] [] follows; (focus (first | rfl | decide)); (focus (simp (maxSteps := 9999999) (disch := omega) only [go_sem]; rfl)); (focus (simp (maxSteps := 9999999) (disch := omega) only [go_sem]; first | done | trivial)); (focus (simp (maxSteps := 9999999) (disch := omega) only [go_sem]; rfl))) | (apply TailK.go; (focus (simp (maxSteps := 9999999) (disch := omega) only [go_sem]; rfl))) | refine AWpA.skip ?_ | refine AWpA.exit ?_ | refine AWpA.ret ?_ | (with_reducible refine ARoundsA.succ ?_) | ((first | refine Runs.kt (by assumption) (fun h9 => ?_) | refine Runs.kf (by assumption) (fun h9 => ?_) | refine Runs.nt (by assumption) (fun h9 => ?_) | refine Runs.nf (by assumption) (fun h9 => ?_) | refine CondP.ht (by assumption) (fun h9 => ?_) | refine CondP.hf (by assumption) (fun h9 => ?_) | refine CondP.nt (by assumption) (fun h9 => ?_) | refine CondP.nf (by assumption) (fun h9 => ?_)); (try simp only [h9]); clear h9) | ((first | (with_reducible apply CallG.plain1 [_] (aload_any _ [I _])) | (with_reducible apply CallG.draw1 [_] (aload_any _ [I _]))); (focus ((try refine And.intro (leAs_of_eq rfl) ?_); (try refine And.intro (leOL_of_eq rfl) ?_); simp (maxSteps := 9999999) (disch := omega) only [go_sem]; first | done | (repeat' (first | rfl | (refine And.intro ?_ ?_))))); (focus (simp (maxSteps := 9999999) (disch := omega) only [go_sem]; rfl)))); (try simp (maxSteps := 9999999) (disch := omega) only [go_sem]); (try (refine And.intro ?_ ?_; (focus (first | omega | (simp only [go_sem]; done) | (simp; done) | (simp; omega) | assumption))))) | ((first | refine CondP.split (fun hif => ?_) (fun hif => ?_) | refine Runs.part (fun hif => ?_) (fun hif => ?_)) <;> ((try simp only [hif]); (try simp only [decide_eq_true_eq, decide_eq_false_iff_not, Bool.not_eq_true, Bool.not_eq_false, Bool.not_eq_true', Bool.not_eq_false', beq_iff_eq, bne_iff_ne, bne_eq_false_iff_eq, beq_eq_false_iff_ne, ne_eq, Bool.and_eq_true, Bool.or_eq_true, Bool.or_eq_false_iff] at hif); (try (have h9 : _ = true := hif; simp only [h9])); (try (have h9 : _ = false := hif; simp only [h9])); (try simp (maxSteps := 9999999) (disch := omega) only [go_sem]); (try (refine And.intro ?_ ?_; (focus (first | omega | (simp only [go_sem]; done) | (simp; done) | (simp; omega) | assumption)))); (try (exfalso; omega; done))))))
  (apply Ret.det [0]; (focus (first | exact .inl rfl | exact .inr rfl)); (focus (simp (maxSteps := 9999999) (disch := omega) only [go_sem]; rfl)); (simp (maxSteps := 9999999) (disch := omega) only [go_sem]; (try (repeat' (first | done | trivial | rfl | exact leAs_rfl _ | decide | (refine And.intro ?_ ?_) | (simp; done) | omega | (simp; decide))))))
theorem csite_any (n s : Int) : ACall Try.prog 47 [.ptr 0 0] [ClkR n s] (Det (I s) [ClkR n s]) := by
  refine ACall.startA c47_ok Try.func47 rfl Try.ntmps47 (by kernel_rfl) res47_ok rfl rfl rfl ?_; simp (maxSteps := 9999999) (disch := omega) only [go_sem]
  (repeat' (first | refine AWpA.seq ?_ | refine AWpA.block ?_ | (with_reducible refine CondP.tt ?_) | (with_reducible refine CondP.ff ?_) | refine AWpA.condv (by simp (maxSteps := 9999999) (disch := omega) only [go_sem]; rfl) ?_ | ((first | (apply AWpA.region; (focus (simp (maxSteps := 9999999) (disch := omega) only [go_sem]; rfl))) | (apply AWpA.draw [] [] follows; (focus (first | rfl | decide)); (focus (simp (maxSteps := 9999999) (disch := omega) only [go_sem]; rfl)); (focus (simp (maxSteps := 9999999) (disch := omega) only [go_sem]; first | done | trivial)); (focus (simp (maxSteps := 9999999) (disch := omega) only [go_sem]; rfl))) | (apply TailK.go; (focus (simp (maxSteps := 9999999) (disch := omega) only [go_sem]; rfl))) | refine AWpA.skip ?_ | refine AWpA.exit ?_ | refine AWpA.ret ?_ | (with_reducible refine ARoundsA.succ ?_) | ((first | refine Runs.kt (by assumption) (fun h9 => ?_) | refine Runs.kf (by assumption) (fun h9 => ?_) | refine Runs.nt (by assumption) (fun h9 => ?_) | refine Runs.nf (by assumption) (fun h9 => ?_) | refine CondP.ht (by assumption) (fun h9 => ?_) | refine CondP.hf (by assumption) (fun h9 => ?_) | refine CondP.nt (by assumption) (fun h9 => ?_) | refine CondP.nf (by assumption) (fun h9 => ?_)); (try simp only [h9]); clear h9)); (try simp (maxSteps := 9999999) (disch := omega) only [go_sem]); (try (refine And.intro ?_ ?_; (focus (first | omega | (simp only [go_sem]; done) | (simp; done) | (simp; omega) | assumption))))) | ((first | refine CondP.split (fun hif => ?_) (fun hif => ?_) | refine Runs.part (fun hif => ?_) (fun hif => ?_)) <;> ((try simp only [hif]); (try simp only [decide_eq_true_eq, decide_eq_false_iff_not, Bool.not_eq_true, Bool.not_eq_false, Bool.not_eq_true', Bool.not_eq_false', beq_iff_eq, bne_iff_ne, bne_eq_false_iff_eq, beq_eq_false_iff_ne, ne_eq, Bool.and_eq_true, Bool.or_eq_true, Bool.or_eq_false_iff] at hif); (try (have h9 : _ = true := hif; simp only [h9])); (try (have h9 : _ = false := hif; simp only [h9])); (try simp (maxSteps := 9999999) (disch := omega) only [go_sem]); (try (refine And.intro ?_ ?_; (focus (first | omega | (simp only [go_sem]; done) | (simp; done) | (simp; omega) | assumption)))); (try (exfalso; omega; done))))))
  (apply Ret.det [0]; (focus (first | exact .inl rfl | exact .inr rfl)); (focus (simp (maxSteps := 9999999) (disch := omega) only [go_sem]; rfl)); (simp (maxSteps := 9999999) (disch := omega) only [go_sem]; (try (repeat' (first | done | trivial | rfl | exact leAs_rfl _ | decide | (refine And.intro ?_ ?_) | (simp; done) | omega | (simp; decide))))))
def rnewE (s f : Int) : Int := if siteB s = true then (if 0 ≤ f ∧ f ≤ 4294967295 then 0 else 2) else 1
def rnewS (s f : Int) : Int := if rnewE s f = 0 then s else 0
def rnewC (s f : Int) : Int := if rnewE s f = 0 then f else 0
theorem rnew_any (s f : Int) : ACall Try.prog 44 [I s, I f] [] (Det (.tup [.agg [I (rnewS s f), I (rnewC s f)], I (rnewE s f)]) []) := by
  refine ACall.startA c44_ok Try.func44 rfl Try.ntmps44 (by kernel_rfl) res44_ok rfl rfl rfl ?_; simp (maxSteps := 9999999) (disch := omega) only [go_sem]
  (repeat' (first | refine AWpA.seq ?_ | refine AWpA.block ?_ | (with_reducible refine CondP.tt ?_) | (with_reducible refine CondP.ff ?_) | refine AWpA.condv (by simp (maxSteps := 9999999) (disch := omega) only [go_sem]; rfl) ?_ | ((first | (apply AWpA.region; (focus (simp (maxSteps := 9999999) (disch := omega) only [go_sem]; rfl))) | (apply AWpA.draw [] [] follows; (focus (first | rfl | decide)); (focus (simp (maxSteps := 9999999) (disch := omega) only [go_sem]; rfl)); (focus (simp (maxSteps := 9999999) (disch := omega) only [go_sem]; first | done | trivial)); (focus (simp (maxSteps := 9999999) (disch := omega) only [go_sem]; rfl))) | (apply TailK.go; (focus (simp (maxSteps := 9999999) (disch := omega) only [go_sem]; rfl))) | refine AWpA.skip ?_ | refine AWpA.exit ?_ | refine AWpA.ret ?_ | (with_reducible refine ARoundsA.succ ?_) | ((first | refine Runs.kt (by assumption) (fun h9 => ?_) | refine Runs.kf (by assumption) (fun h9 => ?_) | refine Runs.nt (by assumption) (fun h9 => ?_) | refine Runs.nf (by assumption) (fun h9 => ?_) | refine CondP.ht (by assumption) (fun h9 => ?_) | refine CondP.hf (by assumption) (fun h9 => ?_) | refine CondP.nt (by assumption) (fun h9 => ?_) | refine CondP.nf (by assumption) (fun h9 => ?_)); (try simp only [h9]); clear h9) | ((first | (with_reducible apply CallG.plain1 [] (site_any _)) | (with_reducible apply CallG.draw1 [] (site_any _))); (focus ((try refine And.intro (leAs_of_eq rfl) ?_); (try refine And.intro (leOL_of_eq rfl) ?_); simp (maxSteps := 9999999) (disch := omega) only [go_sem]; first | done | (repeat' (first | rfl | (refine And.intro ?_ ?_))))); (focus (simp (maxSteps := 9999999) (disch := omega) only [go_sem]; rfl)))); (try simp (maxSteps := 9999999) (disch := omega) only [go_sem]); (try (refine And.intro ?_ ?_; (focus (first | omega | (simp only [go_sem]; done) | (simp; done) | (simp; omega) | assumption))))) | ((first | refine CondP.split (fun hif => ?_) (fun hif => ?_) | refine Runs.part (fun hif => ?_) (fun hif => ?_)) <;> ((try simp only [hif]); (try simp only [decide_eq_true_eq, decide_eq_false_iff_not, Bool.not_eq_true, Bool.not_eq_false, Bool.not_eq_true', Bool.not_eq_false', beq_iff_eq, bne_iff_ne, bne_eq_false_iff_eq, beq_eq_false_iff_ne, ne_eq, Bool.and_eq_true, Bool.or_eq_true, Bool.or_eq_false_iff] at hif); (try (have h9 : _ = true := hif; simp only [h9])); (try (have h9 : _ = false := hif; simp only [h9])); (try simp (maxSteps := 9999999) (disch := omega) only [go_sem]); (try (refine And.intro ?_ ?_; (focus (first | omega | (simp only [go_sem]; done) | (simp; done) | (simp; omega) | assumption)))); (try (exfalso; omega; done))))))
  all_goals
    (apply Ret.det []; (focus (first | exact .inl rfl | exact .inr rfl)); (focus (simp (maxSteps := 9999999) (disch := omega) only [go_sem]; rfl)); (simp (maxSteps := 9999999) (disch := omega) only [go_sem]; (try (repeat' (first | done | trivial | rfl | exact leAs_rfl _ | decide | (refine And.intro ?_ ?_) | (simp; done) | omega | (simp; decide))))))
    all_goals (simp_all [rnewS, rnewC, rnewE]; try omega)
theorem rnext_any (n s : Int) (h : 0 ≤ n) (h' : n ≤ 4294967295) : ACall Try.prog 45 [.agg [I s, I n]] [] (Det (.tup [.agg [I s, I (nextC n)], StA (nextT n s), I (nextE n)]) []) := by
  refine ACall.startA c45_ok Try.func45 rfl Try.ntmps45 (by kernel_rfl) res45_ok rfl rfl rfl ?_; simp (maxSteps := 9999999) (disch := omega) only [go_sem]
  (repeat' (first | refine AWpA.seq ?_ | refine AWpA.block ?_ | (with_reducible refine CondP.tt ?_) | (with_reducible refine CondP.ff ?_) | refine AWpA.condv (by simp (maxSteps := 9999999) (disch := omega) only [go_sem]; rfl) ?_ | ((first | (apply AWpA.region; (focus (simp (maxSteps := 9999999) (disch := omega) only [go_sem]; rfl))) | (apply AWpA.draw [16, 32] [] follows; (focus (first | rfl | decide)); (focus (simp (maxSteps := 9999999) (disch := omega) only [go_sem]; rfl)); (focus (simp (maxSteps := 9999999) (disch := omega) only [go_sem]; first | done | trivial)); (focus (simp (maxSteps := 9999999) (disch := omega) only [go_sem]; rfl))) | (apply TailK.go; (focus (simp (maxSteps := 9999999) (disch := omega) only [go_sem]; rfl))) | refine AWpA.skip ?_ | refine AWpA.exit ?_ | refine AWpA.ret ?_ | (with_reducible refine ARoundsA.succ ?_) | ((first | refine Runs.kt (by assumption) (fun h9 => ?_) | refine Runs.kf (by assumption) (fun h9 => ?_) | refine Runs.nt (by assumption) (fun h9 => ?_) | refine Runs.nf (by assumption) (fun h9 => ?_) | refine CondP.ht (by assumption) (fun h9 => ?_) | refine CondP.hf (by assumption) (fun h9 => ?_) | refine CondP.nt (by assumption) (fun h9 => ?_) | refine CondP.nf (by assumption) (fun h9 => ?_)); (try simp only [h9]); clear h9)); (try simp (maxSteps := 9999999) (disch := omega) only [go_sem]); (try (refine And.intro ?_ ?_; (focus (first | omega | (simp only [go_sem]; done) | (simp; done) | (simp; omega) | assumption))))) | ((first | refine CondP.split (fun hif => ?_) (fun hif => ?_) | refine Runs.part (fun hif => ?_) (fun hif => ?_)) <;> ((try simp only [hif]); (try simp only [decide_eq_true_eq, decide_eq_false_iff_not, Bool.not_eq_true, Bool.not_eq_false, Bool.not_eq_true', Bool.not_eq_false', beq_iff_eq, bne_iff_ne, bne_eq_false_iff_eq, beq_eq_false_iff_ne, ne_eq, Bool.and_eq_true, Bool.or_eq_true, Bool.or_eq_false_iff] at hif); (try (have h9 : _ = true := hif; simp only [h9])); (try (have h9 : _ = false := hif; simp only [h9])); (try simp (maxSteps := 9999999) (disch := omega) only [go_sem]); (try (refine And.intro ?_ ?_; (focus (first | omega | (simp only [go_sem]; done) | (simp; done) | (simp; omega) | assumption)))); (try (exfalso; omega; done))))))
  all_goals
    (apply Ret.det []; (focus (first | exact .inl rfl | exact .inr rfl)); (focus (simp (maxSteps := 9999999) (disch := omega) only [go_sem]; rfl)); (simp (maxSteps := 9999999) (disch := omega) only [go_sem]; (try (repeat' (first | done | trivial | rfl | exact leAs_rfl _ | decide | (refine And.intro ?_ ?_) | (simp; done) | omega | (simp; decide))))))
    all_goals (simp_all [nextC, nextT, nextE]; try omega)
theorem rsee_any (n s : Int) (t : St) : ACall Try.prog 46 [.agg [I s, I n], StA t] [] (Det (.tup [.agg [I s, I (seeC n t)], Bo (seeB n t)]) []) := by
  refine ACall.startA c46_ok Try.func46 rfl Try.ntmps46 (by kernel_rfl) res46_ok rfl rfl rfl ?_; simp (maxSteps := 9999999) (disch := omega) only [go_sem]
  (repeat' (first | refine AWpA.seq ?_ | refine AWpA.block ?_ | (with_reducible refine CondP.tt ?_) | (with_reducible refine CondP.ff ?_) | refine AWpA.condv (by simp (maxSteps := 9999999) (disch := omega) only [go_sem]; rfl) ?_ | ((first | (apply AWpA.region; (focus (simp (maxSteps := 9999999) (disch := omega) only [go_sem]; rfl))) | (apply AWpA.draw [] [] follows; (focus (first | rfl | decide)); (focus (simp (maxSteps := 9999999) (disch := omega) only [go_sem]; rfl)); (focus (simp (maxSteps := 9999999) (disch := omega) only [go_sem]; first | done | trivial)); (focus (simp (maxSteps := 9999999) (disch := omega) only [go_sem]; rfl))) | (apply TailK.go; (focus (simp (maxSteps := 9999999) (disch := omega) only [go_sem]; rfl))) | refine AWpA.skip ?_ | refine AWpA.exit ?_ | refine AWpA.ret ?_ | (with_reducible refine ARoundsA.succ ?_) | ((first | refine Runs.kt (by assumption) (fun h9 => ?_) | refine Runs.kf (by assumption) (fun h9 => ?_) | refine Runs.nt (by assumption) (fun h9 => ?_) | refine Runs.nf (by assumption) (fun h9 => ?_) | refine CondP.ht (by assumption) (fun h9 => ?_) | refine CondP.hf (by assumption) (fun h9 => ?_) | refine CondP.nt (by assumption) (fun h9 => ?_) | refine CondP.nf (by assumption) (fun h9 => ?_)); (try simp only [h9]); clear h9) | ((first | (with_reducible apply CallG.plain1 [] (rgood_any t)) | (with_reducible apply CallG.draw1 [] (rgood_any t))); (focus ((try refine And.intro (leAs_of_eq rfl) ?_); (try refine And.intro (leOL_of_eq rfl) ?_); simp (maxSteps := 9999999) (disch := omega) only [go_sem]; first | done | (repeat' (first | rfl | (refine And.intro ?_ ?_))))); (focus (simp (maxSteps := 9999999) (disch := omega) only [go_sem]; rfl)))); (try simp (maxSteps := 9999999) (disch := omega) only [go_sem]); (try (refine And.intro ?_ ?_; (focus (first | omega | (simp only [go_sem]; done) | (simp; done) | (simp; omega) | assumption))))) | ((first | refine CondP.split (fun hif => ?_) (fun hif => ?_) | refine Runs.part (fun hif => ?_) (fun hif => ?_)) <;> ((try simp only [hif]); (try simp only [decide_eq_true_eq, decide_eq_false_iff_not, Bool.not_eq_true, Bool.not_eq_false, Bool.not_eq_true', Bool.not_eq_false', beq_iff_eq, bne_iff_ne, bne_eq_false_iff_eq, beq_eq_false_iff_ne, ne_eq, Bool.and_eq_true, Bool.or_eq_true, Bool.or_eq_false_iff] at hif); (try (have h9 : _ = true := hif; simp only [h9])); (try (have h9 : _ = false := hif; simp only [h9])); (try simp (maxSteps := 9999999) (disch := omega) only [go_sem]); (try (refine And.intro ?_ ?_; (focus (first | omega | (simp only [go_sem]; done) | (simp; done) | (simp; omega) | assumption)))); (try (exfalso; omega; done))))))
  all_goals
    (apply Ret.det []; (focus (first | exact .inl rfl | exact .inr rfl)); (focus (simp (maxSteps := 9999999) (disch := omega) only [go_sem]; rfl)); (simp (maxSteps := 9999999) (disch := omega) only [go_sem]; (try (repeat' (first | done | trivial | rfl | exact leAs_rfl _ | decide | (refine And.intro ?_ ?_) | (simp; done) | omega | (simp; decide))))))
    all_goals (simp_all [seeC, seeB]; try omega)
theorem speaks04 : ACall Try.prog 35 [] [] (Det (Bo true) []) := by
  refine ACall.startA c35_ok Try.func35 rfl Try.ntmps35 (by kernel_rfl) res35_ok rfl rfl rfl ?_; simp (maxSteps := 9999999) (disch := omega) only [go_sem]
  (repeat' (first | refine AWpA.seq ?_ | refine AWpA.block ?_ | (with_reducible refine CondP.tt ?_) | (with_reducible refine CondP.ff ?_) | refine AWpA.condv (by simp (maxSteps := 9999999) (disch := omega) only [go_sem, nextC, nextT, nextE, seeC, seeB, goodB, Int.reduceLE]; rfl) ?_ | ((first | (apply AWpA.region; (focus (simp (maxSteps := 9999999) (disch := omega) only [go_sem, nextC, nextT, nextE, seeC, seeB, goodB, Int.reduceLE]; rfl))) | (apply AWpA.draw [] [] follows; (focus (first | rfl | decide)); (focus (simp (maxSteps := 9999999) (disch := omega) only [go_sem, nextC, nextT, nextE, seeC, seeB, goodB, Int.reduceLE]; rfl)); (focus (simp (maxSteps := 9999999) (disch := omega) only [go_sem, nextC, nextT, nextE, seeC, seeB, goodB, Int.reduceLE]; first | done | trivial)); (focus (simp (maxSteps := 9999999) (disch := omega) only [go_sem, nextC, nextT, nextE, seeC, seeB, goodB, Int.reduceLE]; rfl))) | (apply TailK.go; (focus (simp (maxSteps := 9999999) (disch := omega) only [go_sem, nextC, nextT, nextE, seeC, seeB, goodB, Int.reduceLE]; rfl))) | refine AWpA.skip ?_ | refine AWpA.exit ?_ | refine AWpA.ret ?_ | (with_reducible refine ARoundsA.succ ?_) | ((first | refine Runs.kt (by assumption) (fun h9 => ?_) | refine Runs.kf (by assumption) (fun h9 => ?_) | refine Runs.nt (by assumption) (fun h9 => ?_) | refine Runs.nf (by assumption) (fun h9 => ?_) | refine CondP.ht (by assumption) (fun h9 => ?_) | refine CondP.hf (by assumption) (fun h9 => ?_) | refine CondP.nt (by assumption) (fun h9 => ?_) | refine CondP.nf (by assumption) (fun h9 => ?_)); (try simp only [h9]); clear h9) | ((first | (with_reducible apply CallG.plain1 [_] (next_any 5 2 (by decide) (by decide))) | (with_reducible apply CallG.draw1 [_] (next_any 5 2 (by decide) (by decide)))); (focus ((try refine And.intro (leAs_of_eq rfl) ?_); (try refine And.intro (leOL_of_eq rfl) ?_); simp (maxSteps := 9999999) (disch := omega) only [go_sem, nextC, nextT, nextE, seeC, seeB, goodB, Int.reduceLE]; first | done | (repeat' (first | rfl | (refine And.intro ?_ ?_))))); (focus (simp (maxSteps := 9999999) (disch := omega) only [go_sem, nextC, nextT, nextE, seeC, seeB, goodB, Int.reduceLE]; rfl))) | ((first | (with_reducible apply CallG.plain1 [_] (next_any 9 2 (by decide) (by decide))) | (with_reducible apply CallG.draw1 [_] (next_any 9 2 (by decide) (by decide)))); (focus ((try refine And.intro (leAs_of_eq rfl) ?_); (try refine And.intro (leOL_of_eq rfl) ?_); simp (maxSteps := 9999999) (disch := omega) only [go_sem, nextC, nextT, nextE, seeC, seeB, goodB, Int.reduceLE]; first | done | (repeat' (first | rfl | (refine And.intro ?_ ?_))))); (focus (simp (maxSteps := 9999999) (disch := omega) only [go_sem, nextC, nextT, nextE, seeC, seeB, goodB, Int.reduceLE]; rfl))) | ((first | (with_reducible apply CallG.plain1 [] (new_ok 2 5 (by decide) (by decide) (by decide) (by decide))) | (with_reducible apply CallG.plain1 [_] (see_any 6 2 ⟨9, 0⟩)) | (with_reducible apply CallG.draw1 [] (new_ok 2 5 (by decide) (by decide) (by decide) (by decide))) | (with_reducible apply CallG.draw1 [_] (see_any 6 2 ⟨9, 0⟩))); (focus ((try refine And.intro (leAs_of_eq rfl) ?_); (try refine And.intro (leOL_of_eq rfl) ?_); simp (maxSteps := 9999999) (disch := omega) only [go_sem, nextC, nextT, nextE, seeC, seeB, goodB, Int.reduceLE]; first | done | (repeat' (first | rfl | (refine And.intro ?_ ?_))))); (focus (simp (maxSteps := 9999999) (disch := omega) only [go_sem, nextC, nextT, nextE, seeC, seeB, goodB, Int.reduceLE]; rfl)))); (try simp (maxSteps := 9999999) (disch := omega) only [go_sem, nextC, nextT, nextE, seeC, seeB, goodB, Int.reduceLE]); (try (refine And.intro ?_ ?_; (focus (first | omega | (simp only [go_sem]; done) | (simp; done) | (simp; omega) | assumption))))) | ((first | refine CondP.split (fun hif => ?_) (fun hif => ?_) | refine Runs.part (fun hif => ?_) (fun hif => ?_)) <;> ((try simp only [hif]); (try simp only [decide_eq_true_eq, decide_eq_false_iff_not, Bool.not_eq_true, Bool.not_eq_false, Bool.not_eq_true', Bool.not_eq_false', beq_iff_eq, bne_iff_ne, bne_eq_false_iff_eq, beq_eq_false_iff_ne, ne_eq, Bool.and_eq_true, Bool.or_eq_true, Bool.or_eq_false_iff] at hif); (try (have h9 : _ = true := hif; simp only [h9])); (try (have h9 : _ = false := hif; simp only [h9])); (try simp (maxSteps := 9999999) (disch := omega) only [go_sem, nextC, nextT, nextE, seeC, seeB, goodB, Int.reduceLE]); (try (refine And.intro ?_ ?_; (focus (first | omega | (simp only [go_sem]; done) | (simp; done) | (simp; omega) | assumption)))); (try (exfalso; omega; done))))))
  (apply Ret.det []; (focus (first | exact .inl rfl | exact .inr rfl)); (focus (simp (maxSteps := 9999999) (disch := omega) only [go_sem]; rfl)); (simp (maxSteps := 9999999) (disch := omega) only [go_sem]; (try (repeat' (first | done | trivial | rfl | exact leAs_rfl _ | decide | (refine And.intro ?_ ?_) | (simp; done) | omega | (simp; decide))))))
end Go.Proofs.Ytjcjmeeajkdlhaa
