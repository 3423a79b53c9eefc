/- Contracts: a reader's numbers, flags, texts; the document's cursor. -/
import Derived.Test.YtkdikmfnchmphaaAo9
namespace Go.Proofs.Ytkdikmfnchmphaa
set_option linter.unusedSimpArgs false
set_option linter.unusedVariables false
set_option maxHeartbeats 4000000
open Go Go.Am
set_option maxRecDepth 100000
/- quidnunc/quidnuncref01.Width -/
noncomputable def c93_1 : ACode := .region false [⟨some 2, .move, [.c (.val (.bool false))], none⟩] [] [] [0] false [] []
noncomputable def c93_3 : ACode := .region false [⟨some 3, .move, [.t 0], none⟩,
  ⟨some 4, .bin .geq, [.t 3, .c (.val (.int .i64 1))], none⟩,
  ⟨some 5, .move, [.t 4], none⟩,
  ⟨some 6, .move, [.t 0], some (some 5, true)⟩,
  ⟨some 7, .bin .leq, [.t 6, .c (.val (.int .i64 8))], some (some 5, true)⟩,
  ⟨some 8, .pick, [.t 5, .t 7, .c (.val (.bool false))], none⟩,
  ⟨some 2, .move, [.t 8], none⟩] [] [] [2] false [] []
noncomputable def c93_2 : ACode := .seq c93_3 .ret
noncomputable def c93_0 : ACode := .seq c93_1 c93_2
noncomputable def code93 : Code := (Try.f93.body).getD .skip
theorem c93_ok : compC Try.prog 9 code93 = some (strip c93_0) := by kernel_rfl
theorem res93_ok : Try.f93.results.toList.mapM (resC Try.prog) = some [(2, none)] := by kernel_rfl
/- quidnunc/quidnuncref01.Value -/
noncomputable def c96_1 : ACode := .region false [⟨some 2, .move, [.c (.val (.int .u64 0))], none⟩] [] [] [0] false [] []
noncomputable def c96_3 : ACode := .region false [⟨some 3, .move, [.c (.val (.int .u64 0))], none⟩] [] [] [0, 3] false [] []
noncomputable def c96_6 : ACode := .region false [⟨some 5, .move, [.t 0], none⟩,
  ⟨some 6, .len, [.t 5], none⟩,
  ⟨some 7, .bin .sub, [.t 6, .c (.val (.int .i64 1))], none⟩,
  ⟨some 4, .move, [.t 7], none⟩] [] [] [0, 3, 4] false [] []
noncomputable def c96_11 : ACode := .region false [⟨some 8, .move, [.t 4], none⟩,
  ⟨some 9, .bin .geq, [.t 8, .c (.val (.int .i64 0))], none⟩] [] [] [0, 3, 4, 9] false [] []
noncomputable def c96_12 : ACode := .cond (.t 9) .skip (.exit 0)
noncomputable def c96_10 : ACode := .seq c96_11 c96_12
noncomputable def c96_15 : ACode := .region false [⟨some 12, .move, [.t 3], none⟩,
  ⟨some 13, .bin .mul, [.c (.val (.int .u64 256)), .t 12], none⟩,
  ⟨some 14, .move, [.t 0], none⟩,
  ⟨some 15, .move, [.t 4], none⟩,
  ⟨some 16, .ixS 1, [.t 14, .t 15], none⟩,
  ⟨some 17, .load false 1, [.t 16], none⟩,
  ⟨some 18, .conv .u64, [.t 17], none⟩,
  ⟨some 19, .bin .add, [.t 13, .t 18], none⟩,
  ⟨some 3, .move, [.t 19], none⟩] [] [] [0, 3, 4] false [] []
noncomputable def c96_14 : ACode := .block 1 c96_15
noncomputable def c96_16 : ACode := .region false [⟨some 10, .move, [.t 4], none⟩,
  ⟨some 11, .bin .sub, [.t 10, .c (.val (.int .i64 1))], none⟩,
  ⟨some 4, .move, [.t 11], none⟩] [] [] [0, 3, 4] false [] []
noncomputable def c96_13 : ACode := .seq c96_14 c96_16
noncomputable def c96_9 : ACode := .seq c96_10 c96_13
noncomputable def c96_8 : ACode := .loop c96_9
noncomputable def c96_7 : ACode := .block 0 c96_8
noncomputable def c96_5 : ACode := .seq c96_6 c96_7
noncomputable def c96_18 : ACode := .region false [⟨some 20, .move, [.t 3], none⟩,
  ⟨some 2, .move, [.t 20], none⟩] [] [] [2] false [] []
noncomputable def c96_17 : ACode := .seq c96_18 .ret
noncomputable def c96_4 : ACode := .seq c96_5 c96_17
noncomputable def c96_2 : ACode := .seq c96_3 c96_4
noncomputable def c96_0 : ACode := .seq c96_1 c96_2
noncomputable def code96 : Code := (Try.f96.body).getD .skip
theorem c96_ok : compC Try.prog 21 code96 = some (strip c96_0) := by kernel_rfl
theorem res96_ok : Try.f96.results.toList.mapM (resC Try.prog) = some [(2, none)] := by kernel_rfl
/- quidnunc/quidnuncref01.fail -/
noncomputable def c94_1 : ACode := .region false [⟨some 2, .box 0, [.t 0], none⟩,
  ⟨some 4, .alloc [(.slice none 0 0), (.int .i64 0), (.int .i64 0)], [], none⟩] [] [] [1, 2, 4] true [] []
noncomputable def c94_4 : ACode := .region false [⟨some 5, .addr 2, [.t 2], none⟩,
  ⟨some 6, .load false 1, [.t 5], none⟩,
  ⟨some 7, .bin .eql, [.t 6, .c (.val (.int .i64 0))], none⟩] [] [] [1, 2, 4, 7] false [] []
noncomputable def c94_6 : ACode := .region false [⟨some 8, .move, [.t 1], none⟩,
  ⟨some 9, .addr 2, [.t 2], none⟩,
  ⟨none, .store 1, [.t 9, .t 8], none⟩] [] [] [2, 4] true [] []
noncomputable def c94_5 : ACode := .cond (.t 7) c94_6 .skip
noncomputable def c94_3 : ACode := .seq c94_4 c94_5
noncomputable def c94_8 : ACode := .region false [⟨some 10, .load true 3, [.t 2], none⟩,
  ⟨none, .store 3, [.t 4, .t 10], none⟩] [] [] [4] true [] []
noncomputable def c94_7 : ACode := .seq c94_8 .ret
noncomputable def c94_2 : ACode := .seq c94_3 c94_7
noncomputable def c94_0 : ACode := .seq c94_1 c94_2
noncomputable def code94 : Code := (Try.f94.body).getD .skip
theorem c94_ok : compC Try.prog 11 code94 = some (strip c94_0) := by kernel_rfl
theorem res94_ok : Try.f94.results.toList.mapM (resC Try.prog) = some [(4, some (true, 3))] := by kernel_rfl
/- quidnunc/quidnuncref01.Raw -/
noncomputable def c95_1 : ACode := .region false [⟨some 2, .box 0, [.t 0], none⟩,
  ⟨some 4, .alloc [(.slice none 0 0), (.int .i64 0), (.int .i64 0)], [], none⟩,
  ⟨some 5, .move, [.c (.val (.slice none 0 0))], none⟩] [] [] [1, 2, 4] true [] []
noncomputable def c95_4 : ACode := .region false [⟨some 7, .move, [.t 1], none⟩,
  ⟨some 8, .bin .lss, [.t 7, .c (.val (.int .i64 0))], none⟩] [] [] [1, 2, 4, 8] false [] []
noncomputable def c95_7 : ACode := .region false [⟨some 9, .load true 3, [.t 2], none⟩,
  ⟨some 10, .call 94, [.t 9, .c (.val (.int .i64 1))], none⟩,
  ⟨none, .store 3, [.t 4, .t 10], none⟩,
  ⟨some 5, .move, [.c (.val (.slice none 0 0))], none⟩] [] [] [4, 5] true [] []
noncomputable def c95_6 : ACode := .seq c95_7 .ret
noncomputable def c95_5 : ACode := .cond (.t 8) c95_6 .skip
noncomputable def c95_3 : ACode := .seq c95_4 c95_5
noncomputable def c95_10 : ACode := .region false [⟨some 11, .move, [.t 1], none⟩,
  ⟨some 12, .addr 0, [.t 2], none⟩,
  ⟨some 13, .load false 1, [.t 12], none⟩,
  ⟨some 14, .len, [.t 13], none⟩,
  ⟨some 15, .addr 1, [.t 2], none⟩,
  ⟨some 16, .load false 1, [.t 15], none⟩,
  ⟨some 17, .bin .sub, [.t 14, .t 16], none⟩,
  ⟨some 18, .bin .gtr, [.t 11, .t 17], none⟩] [] [] [1, 2, 4, 18] false [] []
noncomputable def c95_13 : ACode := .region false [⟨some 19, .load true 3, [.t 2], none⟩,
  ⟨some 20, .call 94, [.t 19, .c (.val (.int .i64 6))], none⟩,
  ⟨none, .store 3, [.t 4, .t 20], none⟩,
  ⟨some 5, .move, [.c (.val (.slice none 0 0))], none⟩] [] [] [4, 5] true [] []
noncomputable def c95_12 : ACode := .seq c95_13 .ret
noncomputable def c95_11 : ACode := .cond (.t 18) c95_12 .skip
noncomputable def c95_9 : ACode := .seq c95_10 c95_11
noncomputable def c95_16 : ACode := .region false [⟨some 21, .addr 2, [.t 2], none⟩,
  ⟨some 22, .load false 1, [.t 21], none⟩,
  ⟨some 23, .bin .neq, [.t 22, .c (.val (.int .i64 0))], none⟩] [] [] [1, 2, 4, 23] false [] []
noncomputable def c95_19 : ACode := .region false [⟨some 24, .load true 3, [.t 2], none⟩,
  ⟨none, .store 3, [.t 4, .t 24], none⟩,
  ⟨some 5, .move, [.c (.val (.slice none 0 0))], none⟩] [] [] [4, 5] true [] []
noncomputable def c95_18 : ACode := .seq c95_19 .ret
noncomputable def c95_17 : ACode := .cond (.t 23) c95_18 .skip
noncomputable def c95_15 : ACode := .seq c95_16 c95_17
noncomputable def c95_21 : ACode := .region false [⟨some 25, .addr 0, [.t 2], none⟩,
  ⟨some 26, .load false 1, [.t 25], none⟩,
  ⟨some 27, .addr 1, [.t 2], none⟩,
  ⟨some 28, .load false 1, [.t 27], none⟩,
  ⟨some 29, .addr 1, [.t 2], none⟩,
  ⟨some 30, .load false 1, [.t 29], none⟩,
  ⟨some 31, .move, [.t 1], none⟩,
  ⟨some 32, .bin .add, [.t 30, .t 31], none⟩,
  ⟨some 33, .slS 1 true true false, [.t 26, .t 28, .t 32], none⟩,
  ⟨some 6, .move, [.t 33], none⟩] [] [] [1, 2, 4, 6] false [] []
noncomputable def c95_23 : ACode := .region false [⟨some 34, .addr 1, [.t 2], none⟩,
  ⟨some 35, .load false 1, [.t 34], none⟩,
  ⟨some 36, .move, [.t 1], none⟩,
  ⟨some 37, .bin .add, [.t 35, .t 36], none⟩,
  ⟨some 38, .addr 1, [.t 2], none⟩,
  ⟨none, .store 1, [.t 38, .t 37], none⟩] [] [] [2, 4, 6] true [] []
noncomputable def c95_25 : ACode := .region false [⟨some 39, .load true 3, [.t 2], none⟩,
  ⟨some 40, .move, [.t 6], none⟩,
  ⟨none, .store 3, [.t 4, .t 39], none⟩,
  ⟨some 5, .move, [.t 40], none⟩] [] [] [4, 5] true [] []
noncomputable def c95_24 : ACode := .seq c95_25 .ret
noncomputable def c95_22 : ACode := .seq c95_23 c95_24
noncomputable def c95_20 : ACode := .seq c95_21 c95_22
noncomputable def c95_14 : ACode := .seq c95_15 c95_20
noncomputable def c95_8 : ACode := .seq c95_9 c95_14
noncomputable def c95_2 : ACode := .seq c95_3 c95_8
noncomputable def c95_0 : ACode := .seq c95_1 c95_2
noncomputable def code95 : Code := (Try.f95.body).getD .skip
theorem c95_ok : compC Try.prog 41 code95 = some (strip c95_0) := by kernel_rfl
theorem res95_ok : Try.f95.results.toList.mapM (resC Try.prog) = some [(4, some (true, 3)), (5, none)] := by kernel_rfl
/- quidnunc/quidnuncref01.Take -/
noncomputable def c76_1 : ACode := .region false [⟨some 2, .box 0, [.t 0], none⟩,
  ⟨some 4, .alloc [(.slice none 0 0), (.int .i64 0), (.int .i64 0)], [], none⟩,
  ⟨some 5, .move, [.c (.val (.int .u64 0))], none⟩] [] [] [1, 2, 4] true [] []
noncomputable def c76_4 : ACode := .region false [⟨some 8, .move, [.t 1], none⟩,
  ⟨some 9, .call 93, [.t 8], none⟩,
  ⟨some 10, .un .not, [.t 9], none⟩] [] [] [1, 2, 4, 10] true [] []
noncomputable def c76_7 : ACode := .region false [⟨some 11, .load true 3, [.t 2], none⟩,
  ⟨some 12, .call 94, [.t 11, .c (.val (.int .i64 1))], none⟩,
  ⟨none, .store 3, [.t 4, .t 12], none⟩,
  ⟨some 5, .move, [.c (.val (.int .u64 0))], none⟩] [] [] [4, 5] true [] []
noncomputable def c76_6 : ACode := .seq c76_7 .ret
noncomputable def c76_5 : ACode := .cond (.t 10) c76_6 .skip
noncomputable def c76_3 : ACode := .seq c76_4 c76_5
noncomputable def c76_9 : ACode := .region false [⟨some 14, .load true 3, [.t 2], none⟩,
  ⟨some 15, .move, [.t 1], none⟩,
  ⟨some 16, .call 95, [.t 14, .t 15], none⟩,
  ⟨some 13, .move, [.t 16], none⟩,
  ⟨some 17, .ext 0, [.t 13], none⟩,
  ⟨some 18, .ext 1, [.t 13], none⟩,
  ⟨some 6, .alloc [(.slice none 0 0), (.int .i64 0), (.int .i64 0)], [], none⟩,
  ⟨none, .store 3, [.t 6, .t 17], none⟩,
  ⟨some 7, .move, [.t 18], none⟩] [] [] [4, 6, 7] true [] []
noncomputable def c76_11 : ACode := .region true [⟨some 19, .load true 3, [.t 6], none⟩,
  ⟨some 20, .move, [.t 7], none⟩,
  ⟨some 21, .call 96, [.t 20], none⟩,
  ⟨none, .store 3, [.t 4, .t 19], none⟩,
  ⟨some 5, .move, [.t 21], none⟩] [] [] [4, 5] true [4] []
noncomputable def c76_10 : ACode := .seq c76_11 .ret
noncomputable def c76_8 : ACode := .seq c76_9 c76_10
noncomputable def c76_2 : ACode := .seq c76_3 c76_8
noncomputable def c76_0 : ACode := .seq c76_1 c76_2
noncomputable def code76 : Code := (Try.f76.body).getD .skip
theorem c76_ok : compC Try.prog 22 code76 = some (strip c76_0) := by kernel_rfl
theorem res76_ok : Try.f76.results.toList.mapM (resC Try.prog) = some [(4, some (true, 3)), (5, none)] := by kernel_rfl
/- quidnunc/quidnuncref01.Done -/
noncomputable def c77_1 : ACode := .region false [⟨some 1, .box 0, [.t 0], none⟩,
  ⟨some 2, .alloc [(.slice none 0 0), (.int .i64 0), (.int .i64 0)], [], none⟩] [] [] [1, 2] true [] []
noncomputable def c77_4 : ACode := .region false [⟨some 3, .addr 1, [.t 1], none⟩,
  ⟨some 4, .load false 1, [.t 3], none⟩,
  ⟨some 5, .addr 0, [.t 1], none⟩,
  ⟨some 6, .load false 1, [.t 5], none⟩,
  ⟨some 7, .len, [.t 6], none⟩,
  ⟨some 8, .bin .lss, [.t 4, .t 7], none⟩] [] [] [1, 2, 8] false [] []
noncomputable def c77_7 : ACode := .region false [⟨some 9, .load true 3, [.t 1], none⟩,
  ⟨some 10, .call 94, [.t 9, .c (.val (.int .i64 4))], none⟩,
  ⟨none, .store 3, [.t 2, .t 10], none⟩] [] [] [2] true [] []
noncomputable def c77_6 : ACode := .seq c77_7 .ret
noncomputable def c77_5 : ACode := .cond (.t 8) c77_6 .skip
noncomputable def c77_3 : ACode := .seq c77_4 c77_5
noncomputable def c77_9 : ACode := .region false [⟨some 11, .load true 3, [.t 1], none⟩,
  ⟨none, .store 3, [.t 2, .t 11], none⟩] [] [] [2] true [] []
noncomputable def c77_8 : ACode := .seq c77_9 .ret
noncomputable def c77_2 : ACode := .seq c77_3 c77_8
noncomputable def c77_0 : ACode := .seq c77_1 c77_2
noncomputable def code77 : Code := (Try.f77.body).getD .skip
theorem c77_ok : compC Try.prog 12 code77 = some (strip c77_0) := by kernel_rfl
theorem res77_ok : Try.f77.results.toList.mapM (resC Try.prog) = some [(2, some (true, 3))] := by kernel_rfl
/- (*quidnunc/octets.Reader).Number -/
noncomputable def c74_1 : ACode := .region false [⟨some 4, .move, [.c (.val (.int .u64 0))], none⟩] [] [] [0, 1] false [] []
noncomputable def c74_4 : ACode := .region false [⟨some 8, .move, [.t 1], none⟩,
  ⟨some 9, .bin .lss, [.t 8, .c (.val (.int .i64 1))], none⟩,
  ⟨some 10, .move, [.t 9], none⟩,
  ⟨some 11, .move, [.t 1], some (some 10, false)⟩,
  ⟨some 12, .bin .gtr, [.t 11, .c (.val (.int .i64 8))], some (some 10, false)⟩,
  ⟨some 13, .pick, [.t 10, .c (.val (.bool true)), .t 12], none⟩] [] [] [0, 1, 13] false [] []
noncomputable def c74_7 : ACode := .region false [⟨some 14, .move, [.t 0], none⟩,
  ⟨some 15, .nilChk, [.t 14], none⟩,
  ⟨some 16, .addr 0, [.t 15], none⟩,
  ⟨some 17, .call 90, [.t 16, .c (.val (.int .i64 1))], none⟩] [] [] [] true [] []
noncomputable def c74_9 : ACode := .region false [⟨some 4, .move, [.c (.val (.int .u64 0))], none⟩] [] [] [4] false [] []
noncomputable def c74_8 : ACode := .seq c74_9 .ret
noncomputable def c74_6 : ACode := .seq c74_7 c74_8
noncomputable def c74_5 : ACode := .cond (.t 13) c74_6 .skip
noncomputable def c74_3 : ACode := .seq c74_4 c74_5
noncomputable def c74_12 : ACode := .region false [⟨some 18, .move, [.t 0], none⟩,
  ⟨some 19, .move, [.t 1], none⟩,
  ⟨some 20, .call 91, [.t 18, .t 19], none⟩,
  ⟨some 21, .un .not, [.t 20], none⟩] [] [] [0, 1, 21] true [] []
noncomputable def c74_15 : ACode := .region false [⟨some 4, .move, [.c (.val (.int .u64 0))], none⟩] [] [] [4] false [] []
noncomputable def c74_14 : ACode := .seq c74_15 .ret
noncomputable def c74_13 : ACode := .cond (.t 21) c74_14 .skip
noncomputable def c74_11 : ACode := .seq c74_12 c74_13
noncomputable def c74_17 : ACode := .region false [⟨some 5, .move, [.c (.val (.int .u64 0))], none⟩] [] [] [0, 1, 5] false [] []
noncomputable def c74_20 : ACode := .region false [⟨some 22, .move, [.t 0], none⟩,
  ⟨some 23, .move, [.t 1], none⟩,
  ⟨some 24, .call 92, [.t 22, .t 23], none⟩,
  ⟨some 25, .len, [.t 24], none⟩,
  ⟨some 26, .move, [.c (.val (.int .i64 0))], none⟩] [] [] [5, 24, 25, 26] true [] []
noncomputable def c74_24 : ACode := .region false [⟨some 27, .bin .lss, [.t 26, .t 25], none⟩] [] [] [5, 24, 25, 26, 27] false [] []
noncomputable def c74_26 : ACode := .cond (.t 27) .skip (.exit 0)
noncomputable def c74_30 : ACode := .region false [⟨some 28, .move, [.t 26], none⟩,
  ⟨some 29, .ixS 1, [.t 24, .t 26], none⟩,
  ⟨some 30, .load false 1, [.t 29], none⟩,
  ⟨some 6, .move, [.t 28], none⟩,
  ⟨some 7, .move, [.t 30], none⟩] [] [] [5, 6, 7, 24, 25, 26] false [] []
noncomputable def c74_31 : ACode := .region false [⟨some 31, .move, [.t 5], none⟩,
  ⟨some 32, .move, [.t 7], none⟩,
  ⟨some 33, .conv .u64, [.t 32], none⟩,
  ⟨some 34, .move, [.t 6], none⟩,
  ⟨some 35, .bin .mul, [.c (.val (.int .i64 8)), .t 34], none⟩,
  ⟨some 36, .bin .shl, [.t 33, .t 35], none⟩,
  ⟨some 37, .bin .or, [.t 31, .t 36], none⟩,
  ⟨some 5, .move, [.t 37], none⟩] [] [] [5, 24, 25, 26] false [] []
noncomputable def c74_29 : ACode := .seq c74_30 c74_31
noncomputable def c74_28 : ACode := .block 1 c74_29
noncomputable def c74_32 : ACode := .region false [⟨some 38, .bin .add, [.t 26, .c (.val (.int .i64 1))], none⟩,
  ⟨some 26, .move, [.t 38], none⟩] [] [] [5, 24, 25, 26] false [] []
noncomputable def c74_27 : ACode := .seq c74_28 c74_32
noncomputable def c74_25 : ACode := .seq c74_26 c74_27
noncomputable def c74_23 : ACode := .seq c74_24 c74_25
noncomputable def c74_22 : ACode := .loop c74_23
noncomputable def c74_21 : ACode := .block 0 c74_22
noncomputable def c74_19 : ACode := .seq c74_20 c74_21
noncomputable def c74_34 : ACode := .region false [⟨some 39, .move, [.t 5], none⟩,
  ⟨some 4, .move, [.t 39], none⟩] [] [] [4] false [] []
noncomputable def c74_33 : ACode := .seq c74_34 .ret
noncomputable def c74_18 : ACode := .seq c74_19 c74_33
noncomputable def c74_16 : ACode := .seq c74_17 c74_18
noncomputable def c74_10 : ACode := .seq c74_11 c74_16
noncomputable def c74_2 : ACode := .seq c74_3 c74_10
noncomputable def c74_0 : ACode := .seq c74_1 c74_2
noncomputable def code74 : Code := (Try.f74.body).getD .skip
theorem c74_ok : compC Try.prog 40 code74 = some (strip c74_0) := by kernel_rfl
theorem res74_ok : Try.f74.results.toList.mapM (resC Try.prog) = some [(4, none)] := by kernel_rfl
abbrev U64 (n : Int) : AV := .val (.int .u64 n)
theorem _root_.Go.Am.Seg.get {P : List AV} {o : Nat} {l : List Int} (s : Seg P o l) (i : Nat) (h : i < l.length) : P.getD (o + i) .bad = U8 l[i] := by
  have h1 := congrArg (fun q => q[i]?) s.seg
  simp only [List.getElem?_take, h, if_true, List.getElem?_drop] at h1
  rw [List.getD_eq_getElem?_getD, h1]
  simp [bA, h]
theorem width_any (n : Int) : ACall Try.prog 93 [I n] [] (Det (Bo (wideB n)) []) := by
  refine ACall.startA c93_ok Try.func93 rfl Try.ntmps93 (by kernel_rfl) res93_ok rfl rfl rfl ?_; simp (maxSteps := 9999999) (disch := omega) only [go_sem]
  (repeat' (first | refine AWpA.seq ?_ | refine AWpA.block ?_ | (with_reducible refine CondP.tt ?_) | (with_reducible refine CondP.ff ?_) | refine AWpA.condv (by simp (maxSteps := 9999999) (disch := omega) only [go_sem]; rfl) ?_ | ((first | (apply AWpA.region; (focus (simp (maxSteps := 9999999) (disch := omega) only [go_sem]; rfl))) | (apply AWpA.draw [] follows; (focus (simp (maxSteps := 9999999) (disch := omega) only [go_sem]; rfl)); (focus (simp (maxSteps := 9999999) (disch := omega) only [go_sem]; first | done | trivial)); (focus (simp (maxSteps := 9999999) (disch := omega) only [go_sem]; rfl))) | (apply TailK.go; (focus (simp (maxSteps := 9999999) (disch := omega) only [go_sem]; rfl))) | refine AWpA.skip ?_ | refine AWpA.exit ?_ | refine AWpA.ret ?_ | (with_reducible refine ARoundsA.succ ?_) | ((first | refine Runs.kt (by assumption) (fun h9 => ?_) | refine Runs.kf (by assumption) (fun h9 => ?_) | refine Runs.nt (by assumption) (fun h9 => ?_) | refine Runs.nf (by assumption) (fun h9 => ?_) | refine CondP.ht (by assumption) (fun h9 => ?_) | refine CondP.hf (by assumption) (fun h9 => ?_) | refine CondP.nt (by assumption) (fun h9 => ?_) | refine CondP.nf (by assumption) (fun h9 => ?_)); (try simp only [h9]); clear h9)); (try simp (maxSteps := 9999999) (disch := omega) only [go_sem]); (try (refine And.intro ?_ ?_; (focus (first | omega | (simp only [go_sem]; done) | (simp; done) | (simp; omega) | assumption))))) | ((first | refine CondP.split (fun hif => ?_) (fun hif => ?_) | refine Runs.part (fun hif => ?_) (fun hif => ?_)) <;> ((try simp only [hif]); (try simp only [decide_eq_true_eq, decide_eq_false_iff_not, Bool.not_eq_true, Bool.not_eq_false, Bool.not_eq_true', Bool.not_eq_false', beq_iff_eq, bne_iff_ne, bne_eq_false_iff_eq, beq_eq_false_iff_ne, ne_eq, Bool.and_eq_true, Bool.or_eq_true, Bool.or_eq_false_iff] at hif); (try (have h9 : _ = true := hif; simp only [h9])); (try (have h9 : _ = false := hif; simp only [h9])); (try simp (maxSteps := 9999999) (disch := omega) only [go_sem]); (try (refine And.intro ?_ ?_; (focus (first | omega | (simp only [go_sem]; done) | (simp; done) | (simp; omega) | assumption)))); (try (exfalso; omega; done))))))
  all_goals
    (apply Ret.det []; (focus (first | exact .inl rfl | exact .inr rfl)); (focus (simp (maxSteps := 9999999) (disch := omega) only [go_sem]; rfl)); (simp (maxSteps := 9999999) (disch := omega) only [go_sem]; (try (repeat' (first | done | trivial | rfl | exact leAs_rfl _ | decide | (refine And.intro ?_ ?_) | (simp; done) | omega | (simp; decide))))))
    all_goals (simp_all [wideB]; try first | omega | (intros; omega) | (rw [Bool.eq_iff_iff]; simp; omega))
theorem bytesB_drop {l : List Int} (h : bytesB l) (n : Nat) : bytesB (l.drop n) := fun c hc => h c (List.mem_of_mem_drop hc)
theorem bytesB_take {l : List Int} (h : bytesB l) (n : Nat) : bytesB (l.take n) := fun c hc => h c (List.mem_of_mem_take hc)
theorem pow_le8 {k : Nat} (h : k ≤ 8) : (256 : Int) ^ k ≤ 18446744073709551616 := by
  match k, h with
  | 0, _ | 1, _ | 2, _ | 3, _ | 4, _ | 5, _ | 6, _ | 7, _ | 8, _ => decide
theorem valI_u64 {l : List Int} (h : bytesB l) (h8 : l.length ≤ 8) : 0 ≤ valI l ∧ valI l ≤ 18446744073709551615 := by
  have h1 := valI_lt h
  have h2 := pow_le8 h8
  omega
theorem value_any {P : List AV} {off : Nat} {l : List Int} (s : Seg P off l) (hb : bytesB l) (h8 : l.length ≤ 8) : ACall Try.prog 96 [.sl 0 off l.length 1 none] [.cells true P] (Det (U64 (valI l)) [.cells true P]) := by
  have hle := s.le
  refine ACall.startA c96_ok Try.func96 rfl Try.ntmps96 (by kernel_rfl) res96_ok rfl rfl rfl ?_; simp (maxSteps := 9999999) (disch := omega) only [go_sem]
  (repeat' (first | refine AWpA.seq ?_ | refine AWpA.block ?_ | (with_reducible refine CondP.tt ?_) | (with_reducible refine CondP.ff ?_) | refine AWpA.condv (by simp (maxSteps := 9999999) (disch := omega) only [go_sem, s.ren]; rfl) ?_ | ((first | (apply AWpA.region; (focus (simp (maxSteps := 9999999) (disch := omega) only [go_sem, s.ren]; rfl))) | (apply AWpA.draw [] follows; (focus (simp (maxSteps := 9999999) (disch := omega) only [go_sem, s.ren]; rfl)); (focus (simp (maxSteps := 9999999) (disch := omega) only [go_sem, s.ren]; first | done | trivial)); (focus (simp (maxSteps := 9999999) (disch := omega) only [go_sem, s.ren]; rfl))) | (apply TailK.go; (focus (simp (maxSteps := 9999999) (disch := omega) only [go_sem, s.ren]; rfl))) | refine AWpA.skip ?_ | refine AWpA.exit ?_ | refine AWpA.ret ?_ | (with_reducible refine ARoundsA.succ ?_) | ((first | refine Runs.kt (by assumption) (fun h9 => ?_) | refine Runs.kf (by assumption) (fun h9 => ?_) | refine Runs.nt (by assumption) (fun h9 => ?_) | refine Runs.nf (by assumption) (fun h9 => ?_) | refine CondP.ht (by assumption) (fun h9 => ?_) | refine CondP.hf (by assumption) (fun h9 => ?_) | refine CondP.nt (by assumption) (fun h9 => ?_) | refine CondP.nf (by assumption) (fun h9 => ?_)); (try simp only [h9]); clear h9)); (try simp (maxSteps := 9999999) (disch := omega) only [go_sem, s.ren]); (try (refine And.intro ?_ ?_; (focus (first | omega | (simp only [go_sem]; done) | (simp; done) | (simp; omega) | assumption))))) | ((first | refine CondP.split (fun hif => ?_) (fun hif => ?_) | refine Runs.part (fun hif => ?_) (fun hif => ?_)) <;> ((try simp only [hif]); (try simp only [decide_eq_true_eq, decide_eq_false_iff_not, Bool.not_eq_true, Bool.not_eq_false, Bool.not_eq_true', Bool.not_eq_false', beq_iff_eq, bne_iff_ne, bne_eq_false_iff_eq, beq_eq_false_iff_ne, ne_eq, Bool.and_eq_true, Bool.or_eq_true, Bool.or_eq_false_iff] at hif); (try (have h9 : _ = true := hif; simp only [h9])); (try (have h9 : _ = false := hif; simp only [h9])); (try simp (maxSteps := 9999999) (disch := omega) only [go_sem, s.ren]); (try (refine And.intro ?_ ?_; (focus (first | omega | (simp only [go_sem]; done) | (simp; done) | (simp; omega) | assumption)))); (try (exfalso; omega; done))))))
  (apply AWpA.loopL (fun m : Nat => [(0, .sl 0 off l.length 1 none), (3, U64 (valI (l.drop m))), (4, I ((m : Int) - 1))]) (fun _ => [.cells true P]) (fun m => m) (fun m => m ≤ l.length) (l.length) [0]; rotate_left; (focus (simp (maxSteps := 9999999) (disch := omega) only [go_sem, s.ren, List.drop_length, valI]; (try (repeat' (first | done | trivial | rfl | exact leAs_rfl _ | decide | (refine And.intro ?_ ?_) | (simp; done) | omega | (simp; decide)))))); rotate_right)
  · exact Nat.le_refl _
  rintro m hm
  (try simp only at hm)
  cases m with
  | zero =>
    (try simp (maxSteps := 9999999) (disch := omega) only [go_sem])
    (repeat' (first | refine AWpA.seq ?_ | refine AWpA.block ?_ | (with_reducible refine CondP.tt ?_) | (with_reducible refine CondP.ff ?_) | refine AWpA.condv (by simp (maxSteps := 9999999) (disch := omega) only [go_sem, s.ren, List.drop_zero]; rfl) ?_ | ((first | (apply AWpA.region; (focus (simp (maxSteps := 9999999) (disch := omega) only [go_sem, s.ren, List.drop_zero]; rfl))) | (apply AWpA.draw [] follows; (focus (simp (maxSteps := 9999999) (disch := omega) only [go_sem, s.ren, List.drop_zero]; rfl)); (focus (simp (maxSteps := 9999999) (disch := omega) only [go_sem, s.ren, List.drop_zero]; first | done | trivial)); (focus (simp (maxSteps := 9999999) (disch := omega) only [go_sem, s.ren, List.drop_zero]; rfl))) | (apply TailK.go; (focus (simp (maxSteps := 9999999) (disch := omega) only [go_sem, s.ren, List.drop_zero]; rfl))) | refine AWpA.skip ?_ | refine AWpA.exit ?_ | refine AWpA.ret ?_ | (with_reducible refine ARoundsA.succ ?_) | ((first | refine Runs.kt (by assumption) (fun h9 => ?_) | refine Runs.kf (by assumption) (fun h9 => ?_) | refine Runs.nt (by assumption) (fun h9 => ?_) | refine Runs.nf (by assumption) (fun h9 => ?_) | refine CondP.ht (by assumption) (fun h9 => ?_) | refine CondP.hf (by assumption) (fun h9 => ?_) | refine CondP.nt (by assumption) (fun h9 => ?_) | refine CondP.nf (by assumption) (fun h9 => ?_)); (try simp only [h9]); clear h9)); (try simp (maxSteps := 9999999) (disch := omega) only [go_sem, s.ren, List.drop_zero]); (try (refine And.intro ?_ ?_; (focus (first | omega | (simp only [go_sem]; done) | (simp; done) | (simp; omega) | assumption))))) | ((first | refine CondP.split (fun hif => ?_) (fun hif => ?_) | refine Runs.part (fun hif => ?_) (fun hif => ?_)) <;> ((try simp only [hif]); (try simp only [decide_eq_true_eq, decide_eq_false_iff_not, Bool.not_eq_true, Bool.not_eq_false, Bool.not_eq_true', Bool.not_eq_false', beq_iff_eq, bne_iff_ne, bne_eq_false_iff_eq, beq_eq_false_iff_ne, ne_eq, Bool.and_eq_true, Bool.or_eq_true, Bool.or_eq_false_iff] at hif); (try (have h9 : _ = true := hif; simp only [h9])); (try (have h9 : _ = false := hif; simp only [h9])); (try simp (maxSteps := 9999999) (disch := omega) only [go_sem, s.ren, List.drop_zero]); (try (refine And.intro ?_ ?_; (focus (first | omega | (simp only [go_sem]; done) | (simp; done) | (simp; omega) | assumption)))); (try (exfalso; omega; done))))))
    (apply Ret.det [0]; (focus (first | exact .inl rfl | exact .inr rfl)); (focus (simp (maxSteps := 9999999) (disch := omega) only [go_sem, s.ren]; rfl)); (simp (maxSteps := 9999999) (disch := omega) only [go_sem, s.ren]; (try (repeat' (first | done | trivial | rfl | exact leAs_rfl _ | decide | (refine And.intro ?_ ?_) | (simp; done) | omega | (simp; decide))))))
  | succ i =>
    have hx := s.get i (by omega)
    have hd : l.drop i = l[i] :: l.drop (i + 1) := List.drop_eq_getElem_cons (by omega)
    have hv : valI (l.drop i) = l[i] + 256 * valI (l.drop (i + 1)) := by rw [hd]; rfl
    have hc := hb l[i] (List.getElem_mem _)
    have hu := valI_u64 (bytesB_drop hb i) (by simp; omega)
    have hu1 := valI_u64 (bytesB_drop hb (i + 1)) (by simp; omega)
    have e0 : (((i + 1 : Nat) : Int) - 1) = (i : Int) := by omega
    rw [e0]
    generalize l[i] = c at hx hd hv hc
    (try simp (maxSteps := 9999999) (disch := omega) only [go_sem])
    (repeat' (first | refine AWpA.seq ?_ | refine AWpA.block ?_ | (with_reducible refine CondP.tt ?_) | (with_reducible refine CondP.ff ?_) | refine AWpA.condv (by simp (maxSteps := 9999999) (disch := omega) only [go_sem, s.ren, hx, e0]; rfl) ?_ | ((first | (apply AWpA.region; (focus (simp (maxSteps := 9999999) (disch := omega) only [go_sem, s.ren, hx, e0]; rfl))) | (apply AWpA.draw [] follows; (focus (simp (maxSteps := 9999999) (disch := omega) only [go_sem, s.ren, hx, e0]; rfl)); (focus (simp (maxSteps := 9999999) (disch := omega) only [go_sem, s.ren, hx, e0]; first | done | trivial)); (focus (simp (maxSteps := 9999999) (disch := omega) only [go_sem, s.ren, hx, e0]; rfl))) | (apply TailK.go; (focus (simp (maxSteps := 9999999) (disch := omega) only [go_sem, s.ren, hx, e0]; rfl))) | refine AWpA.skip ?_ | refine AWpA.exit ?_ | refine AWpA.ret ?_ | (with_reducible refine ARoundsA.succ ?_) | ((first | refine Runs.kt (by assumption) (fun h9 => ?_) | refine Runs.kf (by assumption) (fun h9 => ?_) | refine Runs.nt (by assumption) (fun h9 => ?_) | refine Runs.nf (by assumption) (fun h9 => ?_) | refine CondP.ht (by assumption) (fun h9 => ?_) | refine CondP.hf (by assumption) (fun h9 => ?_) | refine CondP.nt (by assumption) (fun h9 => ?_) | refine CondP.nf (by assumption) (fun h9 => ?_)); (try simp only [h9]); clear h9)); (try simp (maxSteps := 9999999) (disch := omega) only [go_sem, s.ren, hx, e0]); (try (refine And.intro ?_ ?_; (focus (first | omega | (simp only [go_sem]; done) | (simp; done) | (simp; omega) | assumption))))) | ((first | refine CondP.split (fun hif => ?_) (fun hif => ?_) | refine Runs.part (fun hif => ?_) (fun hif => ?_)) <;> ((try simp only [hif]); (try simp only [decide_eq_true_eq, decide_eq_false_iff_not, Bool.not_eq_true, Bool.not_eq_false, Bool.not_eq_true', Bool.not_eq_false', beq_iff_eq, bne_iff_ne, bne_eq_false_iff_eq, beq_eq_false_iff_ne, ne_eq, Bool.and_eq_true, Bool.or_eq_true, Bool.or_eq_false_iff] at hif); (try (have h9 : _ = true := hif; simp only [h9])); (try (have h9 : _ = false := hif; simp only [h9])); (try simp (maxSteps := 9999999) (disch := omega) only [go_sem, s.ren, hx, e0]); (try (refine And.intro ?_ ?_; (focus (first | omega | (simp only [go_sem]; done) | (simp; done) | (simp; omega) | assumption)))); (try (exfalso; omega; done))))))
    (apply Back.to i [0]; (focus ((try simp (maxSteps := 9999999) (disch := omega) only [go_sem, s.ren]); first | done | omega)); rotate_left; (focus (simp (maxSteps := 9999999) (disch := omega) only [go_sem, s.ren]; (try (repeat' (first | done | trivial | rfl | exact leAs_rfl _ | decide | (refine And.intro ?_ ?_) | (simp; done) | omega | (simp; decide)))))))
    · rw [hv, Int.add_comm]
    · omega
/-- A cursor of bytes. -/
abbrev CurA (off n a : Nat) (e : Int) : AV := .agg [.sl 0 off n 1 none, I (a : Int), I e]
theorem cfail_any {P : List AV} (hr : ∀ ρ, renL ρ P = P) (off n a : Nat) (e k : Int) : ACall Try.prog 94 [CurA off n a e, I k] [.cells true P] (Det (CurA off n a (failI e k)) [.cells true P]) := by
  refine ACall.startA c94_ok Try.func94 rfl Try.ntmps94 (by kernel_rfl) res94_ok rfl rfl rfl ?_; simp (maxSteps := 9999999) (disch := omega) only [go_sem]
  (repeat' (first | refine AWpA.seq ?_ | refine AWpA.block ?_ | (with_reducible refine CondP.tt ?_) | (with_reducible refine CondP.ff ?_) | refine AWpA.condv (by simp (maxSteps := 9999999) (disch := omega) only [go_sem, hr]; rfl) ?_ | ((first | (apply AWpA.region; (focus (simp (maxSteps := 9999999) (disch := omega) only [go_sem, hr]; rfl))) | (apply AWpA.draw [] follows; (focus (simp (maxSteps := 9999999) (disch := omega) only [go_sem, hr]; rfl)); (focus (simp (maxSteps := 9999999) (disch := omega) only [go_sem, hr]; first | done | trivial)); (focus (simp (maxSteps := 9999999) (disch := omega) only [go_sem, hr]; rfl))) | (apply TailK.go; (focus (simp (maxSteps := 9999999) (disch := omega) only [go_sem, hr]; rfl))) | refine AWpA.skip ?_ | refine AWpA.exit ?_ | refine AWpA.ret ?_ | (with_reducible refine ARoundsA.succ ?_) | ((first | refine Runs.kt (by assumption) (fun h9 => ?_) | refine Runs.kf (by assumption) (fun h9 => ?_) | refine Runs.nt (by assumption) (fun h9 => ?_) | refine Runs.nf (by assumption) (fun h9 => ?_) | refine CondP.ht (by assumption) (fun h9 => ?_) | refine CondP.hf (by assumption) (fun h9 => ?_) | refine CondP.nt (by assumption) (fun h9 => ?_) | refine CondP.nf (by assumption) (fun h9 => ?_)); (try simp only [h9]); clear h9)); (try simp (maxSteps := 9999999) (disch := omega) only [go_sem, hr]); (try (refine And.intro ?_ ?_; (focus (first | omega | (simp only [go_sem]; done) | (simp; done) | (simp; omega) | assumption))))) | ((first | refine CondP.split (fun hif => ?_) (fun hif => ?_) | refine Runs.part (fun hif => ?_) (fun hif => ?_)) <;> ((try simp only [hif]); (try simp only [decide_eq_true_eq, decide_eq_false_iff_not, Bool.not_eq_true, Bool.not_eq_false, Bool.not_eq_true', Bool.not_eq_false', beq_iff_eq, bne_iff_ne, bne_eq_false_iff_eq, beq_eq_false_iff_ne, ne_eq, Bool.and_eq_true, Bool.or_eq_true, Bool.or_eq_false_iff] at hif); (try (have h9 : _ = true := hif; simp only [h9])); (try (have h9 : _ = false := hif; simp only [h9])); (try simp (maxSteps := 9999999) (disch := omega) only [go_sem, hr]); (try (refine And.intro ?_ ?_; (focus (first | omega | (simp only [go_sem]; done) | (simp; done) | (simp; omega) | assumption)))); (try (exfalso; omega; done))))))
  all_goals
    (apply Ret.det [0]; (focus (first | exact .inl rfl | exact .inr rfl)); (focus (simp (maxSteps := 9999999) (disch := omega) only [go_sem, hr]; rfl)); (simp (maxSteps := 9999999) (disch := omega) only [go_sem, hr]; (try (repeat' (first | done | trivial | rfl | exact leAs_rfl _ | decide | (refine And.intro ?_ ?_) | (simp; done) | omega | (simp; decide))))))
    all_goals (simp [failI, *])
theorem craw_any {P : List AV} {off : Nat} {L : List Int} (s : Seg P off L) (a : Nat) (ha : a ≤ L.length) (e n : Int) : ACall Try.prog 95 [CurA off L.length a e, I n] [.cells true P] (Det (.tup [CurA off L.length (rawA e n (L.length - a : Nat) a) (rawE e n (L.length - a : Nat)), .sl 0 (off + a) (rawL e n (L.length - a : Nat) a L).length 1 none]) [.cells true P]) := by
  have hle := s.le
  have hsm := s.small
  by_cases h0 : n < 0
  · have e0 : rawOk e n (L.length - a : Nat) = false := by
      unfold rawOk
      rw [decide_eq_false (by omega)]
      rfl
    have e1 : rawL e n (L.length - a : Nat) a L = [] := by simp [rawL, e0]
    have e2 : rawA e n (L.length - a : Nat) a = a := by simp [rawA, e0]
    have e3 : rawE e n (L.length - a : Nat) = failI e 1 := by simp [rawE, h0]
    rw [e1, e2, e3]
    refine ACall.startA c95_ok Try.func95 rfl Try.ntmps95 (by kernel_rfl) res95_ok rfl rfl rfl ?_; simp (maxSteps := 9999999) (disch := omega) only [go_sem]
    (repeat' (first | refine AWpA.seq ?_ | refine AWpA.block ?_ | (with_reducible refine CondP.tt ?_) | (with_reducible refine CondP.ff ?_) | refine AWpA.condv (by simp (maxSteps := 9999999) (disch := omega) only [go_sem, s.ren, eq_true h0]; rfl) ?_ | ((first | (apply AWpA.region; (focus (simp (maxSteps := 9999999) (disch := omega) only [go_sem, s.ren, eq_true h0]; rfl))) | (apply AWpA.draw [] follows; (focus (simp (maxSteps := 9999999) (disch := omega) only [go_sem, s.ren, eq_true h0]; rfl)); (focus (simp (maxSteps := 9999999) (disch := omega) only [go_sem, s.ren, eq_true h0]; first | done | trivial)); (focus (simp (maxSteps := 9999999) (disch := omega) only [go_sem, s.ren, eq_true h0]; rfl))) | (apply TailK.go; (focus (simp (maxSteps := 9999999) (disch := omega) only [go_sem, s.ren, eq_true h0]; rfl))) | refine AWpA.skip ?_ | refine AWpA.exit ?_ | refine AWpA.ret ?_ | (with_reducible refine ARoundsA.succ ?_) | ((first | refine Runs.kt (by assumption) (fun h9 => ?_) | refine Runs.kf (by assumption) (fun h9 => ?_) | refine Runs.nt (by assumption) (fun h9 => ?_) | refine Runs.nf (by assumption) (fun h9 => ?_) | refine CondP.ht (by assumption) (fun h9 => ?_) | refine CondP.hf (by assumption) (fun h9 => ?_) | refine CondP.nt (by assumption) (fun h9 => ?_) | refine CondP.nf (by assumption) (fun h9 => ?_)); (try simp only [h9]); clear h9) | ((first | (with_reducible apply CallG.plain1 [0] (cfail_any s.ren off L.length a e 1)) | (with_reducible apply CallG.draw1 [0] (cfail_any s.ren off L.length a e 1))); (focus ((try refine And.intro (leAs_of_eq rfl) ?_); (try refine And.intro (leOL_of_eq rfl) ?_); simp (maxSteps := 9999999) (disch := omega) only [go_sem, s.ren, eq_true h0]; first | done | (repeat' (first | rfl | (refine And.intro ?_ ?_))))); (focus (simp (maxSteps := 9999999) (disch := omega) only [go_sem, s.ren, eq_true h0]; rfl)))); (try simp (maxSteps := 9999999) (disch := omega) only [go_sem, s.ren, eq_true h0]); (try (refine And.intro ?_ ?_; (focus (first | omega | (simp only [go_sem]; done) | (simp; done) | (simp; omega) | assumption))))) | ((first | refine CondP.split (fun hif => ?_) (fun hif => ?_) | refine Runs.part (fun hif => ?_) (fun hif => ?_)) <;> ((try simp only [hif]); (try simp only [decide_eq_true_eq, decide_eq_false_iff_not, Bool.not_eq_true, Bool.not_eq_false, Bool.not_eq_true', Bool.not_eq_false', beq_iff_eq, bne_iff_ne, bne_eq_false_iff_eq, beq_eq_false_iff_ne, ne_eq, Bool.and_eq_true, Bool.or_eq_true, Bool.or_eq_false_iff] at hif); (try (have h9 : _ = true := hif; simp only [h9])); (try (have h9 : _ = false := hif; simp only [h9])); (try simp (maxSteps := 9999999) (disch := omega) only [go_sem, s.ren, eq_true h0]); (try (refine And.intro ?_ ?_; (focus (first | omega | (simp only [go_sem]; done) | (simp; done) | (simp; omega) | assumption)))); (try (exfalso; omega; done))))))
    (apply Ret.det [0]; (focus (first | exact .inl rfl | exact .inr rfl)); (focus (simp (maxSteps := 9999999) (disch := omega) only [go_sem, s.ren]; rfl)); (simp (maxSteps := 9999999) (disch := omega) only [go_sem, s.ren]; (try (repeat' (first | done | trivial | rfl | exact leAs_rfl _ | decide | (refine And.intro ?_ ?_) | (simp; done) | omega | (simp; decide))))))
  by_cases h1 : ((L.length : Int) - (a : Int)) < n
  · have h1' : ((L.length - a : Nat) : Int) < n := by omega
    have e0 : rawOk e n (L.length - a : Nat) = false := by
      unfold rawOk
      rw [decide_eq_false (by omega)]
      rfl
    have e1 : rawL e n (L.length - a : Nat) a L = [] := by simp [rawL, e0]
    have e2 : rawA e n (L.length - a : Nat) a = a := by simp [rawA, e0]
    have e3 : rawE e n (L.length - a : Nat) = failI e 6 := by simp [rawE, h0, hasE, h1']
    rw [e1, e2, e3]
    refine ACall.startA c95_ok Try.func95 rfl Try.ntmps95 (by kernel_rfl) res95_ok rfl rfl rfl ?_; simp (maxSteps := 9999999) (disch := omega) only [go_sem]
    (repeat' (first | refine AWpA.seq ?_ | refine AWpA.block ?_ | (with_reducible refine CondP.tt ?_) | (with_reducible refine CondP.ff ?_) | refine AWpA.condv (by simp (maxSteps := 9999999) (disch := omega) only [go_sem, s.ren, eq_false h0, eq_true h1]; rfl) ?_ | ((first | (apply AWpA.region; (focus (simp (maxSteps := 9999999) (disch := omega) only [go_sem, s.ren, eq_false h0, eq_true h1]; rfl))) | (apply AWpA.draw [] follows; (focus (simp (maxSteps := 9999999) (disch := omega) only [go_sem, s.ren, eq_false h0, eq_true h1]; rfl)); (focus (simp (maxSteps := 9999999) (disch := omega) only [go_sem, s.ren, eq_false h0, eq_true h1]; first | done | trivial)); (focus (simp (maxSteps := 9999999) (disch := omega) only [go_sem, s.ren, eq_false h0, eq_true h1]; rfl))) | (apply TailK.go; (focus (simp (maxSteps := 9999999) (disch := omega) only [go_sem, s.ren, eq_false h0, eq_true h1]; rfl))) | refine AWpA.skip ?_ | refine AWpA.exit ?_ | refine AWpA.ret ?_ | (with_reducible refine ARoundsA.succ ?_) | ((first | refine Runs.kt (by assumption) (fun h9 => ?_) | refine Runs.kf (by assumption) (fun h9 => ?_) | refine Runs.nt (by assumption) (fun h9 => ?_) | refine Runs.nf (by assumption) (fun h9 => ?_) | refine CondP.ht (by assumption) (fun h9 => ?_) | refine CondP.hf (by assumption) (fun h9 => ?_) | refine CondP.nt (by assumption) (fun h9 => ?_) | refine CondP.nf (by assumption) (fun h9 => ?_)); (try simp only [h9]); clear h9) | ((first | (with_reducible apply CallG.plain1 [0] (cfail_any s.ren off L.length a e 6)) | (with_reducible apply CallG.draw1 [0] (cfail_any s.ren off L.length a e 6))); (focus ((try refine And.intro (leAs_of_eq rfl) ?_); (try refine And.intro (leOL_of_eq rfl) ?_); simp (maxSteps := 9999999) (disch := omega) only [go_sem, s.ren, eq_false h0, eq_true h1]; first | done | (repeat' (first | rfl | (refine And.intro ?_ ?_))))); (focus (simp (maxSteps := 9999999) (disch := omega) only [go_sem, s.ren, eq_false h0, eq_true h1]; rfl)))); (try simp (maxSteps := 9999999) (disch := omega) only [go_sem, s.ren, eq_false h0, eq_true h1]); (try (refine And.intro ?_ ?_; (focus (first | omega | (simp only [go_sem]; done) | (simp; done) | (simp; omega) | assumption))))) | ((first | refine CondP.split (fun hif => ?_) (fun hif => ?_) | refine Runs.part (fun hif => ?_) (fun hif => ?_)) <;> ((try simp only [hif]); (try simp only [decide_eq_true_eq, decide_eq_false_iff_not, Bool.not_eq_true, Bool.not_eq_false, Bool.not_eq_true', Bool.not_eq_false', beq_iff_eq, bne_iff_ne, bne_eq_false_iff_eq, beq_eq_false_iff_ne, ne_eq, Bool.and_eq_true, Bool.or_eq_true, Bool.or_eq_false_iff] at hif); (try (have h9 : _ = true := hif; simp only [h9])); (try (have h9 : _ = false := hif; simp only [h9])); (try simp (maxSteps := 9999999) (disch := omega) only [go_sem, s.ren, eq_false h0, eq_true h1]); (try (refine And.intro ?_ ?_; (focus (first | omega | (simp only [go_sem]; done) | (simp; done) | (simp; omega) | assumption)))); (try (exfalso; omega; done))))))
    (apply Ret.det [0]; (focus (first | exact .inl rfl | exact .inr rfl)); (focus (simp (maxSteps := 9999999) (disch := omega) only [go_sem, s.ren]; rfl)); (simp (maxSteps := 9999999) (disch := omega) only [go_sem, s.ren]; (try (repeat' (first | done | trivial | rfl | exact leAs_rfl _ | decide | (refine And.intro ?_ ?_) | (simp; done) | omega | (simp; decide))))))
  obtain ⟨k, rfl⟩ : ∃ k : Nat, n = (k : Int) := ⟨n.toNat, by omega⟩
  have e3 : rawE e (k : Int) (L.length - a : Nat) = e := by
    have h1' : ¬ ((L.length - a : Nat) : Int) < (k : Int) := by omega
    simp [rawE, h0, hasE, h1']
  cases he : (e == 0) with
  | false =>
    have e0 : rawOk e (k : Int) (L.length - a : Nat) = false := by
      unfold rawOk
      rw [he, Bool.and_false]
    have e1 : rawL e (k : Int) (L.length - a : Nat) a L = [] := by simp [rawL, e0]
    have e2 : rawA e (k : Int) (L.length - a : Nat) a = a := by simp [rawA, e0]
    have he' : (e != 0) = true := by simpa [bne] using he
    rw [e1, e2, e3]
    refine ACall.startA c95_ok Try.func95 rfl Try.ntmps95 (by kernel_rfl) res95_ok rfl rfl rfl ?_; simp (maxSteps := 9999999) (disch := omega) only [go_sem]
    (repeat' (first | refine AWpA.seq ?_ | refine AWpA.block ?_ | (with_reducible refine CondP.tt ?_) | (with_reducible refine CondP.ff ?_) | refine AWpA.condv (by simp (maxSteps := 9999999) (disch := omega) only [go_sem, s.ren, eq_false h0, eq_false h1, he']; rfl) ?_ | ((first | (apply AWpA.region; (focus (simp (maxSteps := 9999999) (disch := omega) only [go_sem, s.ren, eq_false h0, eq_false h1, he']; rfl))) | (apply AWpA.draw [] follows; (focus (simp (maxSteps := 9999999) (disch := omega) only [go_sem, s.ren, eq_false h0, eq_false h1, he']; rfl)); (focus (simp (maxSteps := 9999999) (disch := omega) only [go_sem, s.ren, eq_false h0, eq_false h1, he']; first | done | trivial)); (focus (simp (maxSteps := 9999999) (disch := omega) only [go_sem, s.ren, eq_false h0, eq_false h1, he']; rfl))) | (apply TailK.go; (focus (simp (maxSteps := 9999999) (disch := omega) only [go_sem, s.ren, eq_false h0, eq_false h1, he']; rfl))) | refine AWpA.skip ?_ | refine AWpA.exit ?_ | refine AWpA.ret ?_ | (with_reducible refine ARoundsA.succ ?_) | ((first | refine Runs.kt (by assumption) (fun h9 => ?_) | refine Runs.kf (by assumption) (fun h9 => ?_) | refine Runs.nt (by assumption) (fun h9 => ?_) | refine Runs.nf (by assumption) (fun h9 => ?_) | refine CondP.ht (by assumption) (fun h9 => ?_) | refine CondP.hf (by assumption) (fun h9 => ?_) | refine CondP.nt (by assumption) (fun h9 => ?_) | refine CondP.nf (by assumption) (fun h9 => ?_)); (try simp only [h9]); clear h9)); (try simp (maxSteps := 9999999) (disch := omega) only [go_sem, s.ren, eq_false h0, eq_false h1, he']); (try (refine And.intro ?_ ?_; (focus (first | omega | (simp only [go_sem]; done) | (simp; done) | (simp; omega) | assumption))))) | ((first | refine CondP.split (fun hif => ?_) (fun hif => ?_) | refine Runs.part (fun hif => ?_) (fun hif => ?_)) <;> ((try simp only [hif]); (try simp only [decide_eq_true_eq, decide_eq_false_iff_not, Bool.not_eq_true, Bool.not_eq_false, Bool.not_eq_true', Bool.not_eq_false', beq_iff_eq, bne_iff_ne, bne_eq_false_iff_eq, beq_eq_false_iff_ne, ne_eq, Bool.and_eq_true, Bool.or_eq_true, Bool.or_eq_false_iff] at hif); (try (have h9 : _ = true := hif; simp only [h9])); (try (have h9 : _ = false := hif; simp only [h9])); (try simp (maxSteps := 9999999) (disch := omega) only [go_sem, s.ren, eq_false h0, eq_false h1, he']); (try (refine And.intro ?_ ?_; (focus (first | omega | (simp only [go_sem]; done) | (simp; done) | (simp; omega) | assumption)))); (try (exfalso; omega; done))))))
    (apply Ret.det [0]; (focus (first | exact .inl rfl | exact .inr rfl)); (focus (simp (maxSteps := 9999999) (disch := omega) only [go_sem, s.ren]; rfl)); (simp (maxSteps := 9999999) (disch := omega) only [go_sem, s.ren]; (try (repeat' (first | done | trivial | rfl | exact leAs_rfl _ | decide | (refine And.intro ?_ ?_) | (simp; done) | omega | (simp; decide))))))
  | true =>
    have e0 : rawOk e (k : Int) (L.length - a : Nat) = true := by
      unfold rawOk
      rw [he, decide_eq_true (by omega)]
      rfl
    have e1 : (rawL e (k : Int) (L.length - a : Nat) a L).length = k := by simp [rawL, e0]; omega
    have e2 : rawA e (k : Int) (L.length - a : Nat) a = a + k := by simp [rawA, e0]
    have he' : (e != 0) = false := by simpa [bne] using he
    rw [e1, e2, e3]
    refine ACall.startA c95_ok Try.func95 rfl Try.ntmps95 (by kernel_rfl) res95_ok rfl rfl rfl ?_; simp (maxSteps := 9999999) (disch := omega) only [go_sem]
    (repeat' (first | refine AWpA.seq ?_ | refine AWpA.block ?_ | (with_reducible refine CondP.tt ?_) | (with_reducible refine CondP.ff ?_) | refine AWpA.condv (by simp (maxSteps := 9999999) (disch := omega) only [go_sem, s.ren, eq_false h0, eq_false h1, he']; rfl) ?_ | ((first | (apply AWpA.region; (focus (simp (maxSteps := 9999999) (disch := omega) only [go_sem, s.ren, eq_false h0, eq_false h1, he']; rfl))) | (apply AWpA.draw [] follows; (focus (simp (maxSteps := 9999999) (disch := omega) only [go_sem, s.ren, eq_false h0, eq_false h1, he']; rfl)); (focus (simp (maxSteps := 9999999) (disch := omega) only [go_sem, s.ren, eq_false h0, eq_false h1, he']; first | done | trivial)); (focus (simp (maxSteps := 9999999) (disch := omega) only [go_sem, s.ren, eq_false h0, eq_false h1, he']; rfl))) | (apply TailK.go; (focus (simp (maxSteps := 9999999) (disch := omega) only [go_sem, s.ren, eq_false h0, eq_false h1, he']; rfl))) | refine AWpA.skip ?_ | refine AWpA.exit ?_ | refine AWpA.ret ?_ | (with_reducible refine ARoundsA.succ ?_) | ((first | refine Runs.kt (by assumption) (fun h9 => ?_) | refine Runs.kf (by assumption) (fun h9 => ?_) | refine Runs.nt (by assumption) (fun h9 => ?_) | refine Runs.nf (by assumption) (fun h9 => ?_) | refine CondP.ht (by assumption) (fun h9 => ?_) | refine CondP.hf (by assumption) (fun h9 => ?_) | refine CondP.nt (by assumption) (fun h9 => ?_) | refine CondP.nf (by assumption) (fun h9 => ?_)); (try simp only [h9]); clear h9)); (try simp (maxSteps := 9999999) (disch := omega) only [go_sem, s.ren, eq_false h0, eq_false h1, he']); (try (refine And.intro ?_ ?_; (focus (first | omega | (simp only [go_sem]; done) | (simp; done) | (simp; omega) | assumption))))) | ((first | refine CondP.split (fun hif => ?_) (fun hif => ?_) | refine Runs.part (fun hif => ?_) (fun hif => ?_)) <;> ((try simp only [hif]); (try simp only [decide_eq_true_eq, decide_eq_false_iff_not, Bool.not_eq_true, Bool.not_eq_false, Bool.not_eq_true', Bool.not_eq_false', beq_iff_eq, bne_iff_ne, bne_eq_false_iff_eq, beq_eq_false_iff_ne, ne_eq, Bool.and_eq_true, Bool.or_eq_true, Bool.or_eq_false_iff] at hif); (try (have h9 : _ = true := hif; simp only [h9])); (try (have h9 : _ = false := hif; simp only [h9])); (try simp (maxSteps := 9999999) (disch := omega) only [go_sem, s.ren, eq_false h0, eq_false h1, he']); (try (refine And.intro ?_ ?_; (focus (first | omega | (simp only [go_sem]; done) | (simp; done) | (simp; omega) | assumption)))); (try (exfalso; omega; done))))))
    (apply Ret.det [0]; (focus (first | exact .inl rfl | exact .inr rfl)); (focus (simp (maxSteps := 9999999) (disch := omega) only [go_sem, s.ren]; rfl)); (simp (maxSteps := 9999999) (disch := omega) only [go_sem, s.ren]; (try (repeat' (first | done | trivial | rfl | exact leAs_rfl _ | decide | (refine And.intro ?_ ?_) | (simp; done) | omega | (simp; decide))))))
/-- Where a reader stands, and its error. -/
structure Cu where
  a : Nat
  e : Int
abbrev Cu.left (L : List Int) (c : Cu) : Int := ((L.length - c.a : Nat) : Int)
theorem failI_ne (e k : Int) (h : k ≠ 0) : failI e k ≠ 0 := by
  unfold failI
  split
  · exact h
  · rename_i h1; simpa using h1
theorem rawOk_yes {e n left : Int} (h : rawOk e n left = true) : e = 0 ∧ 0 ≤ n ∧ n ≤ left ∧ rawE e n left = 0 ∧ (∀ a, rawA e n left a = a + n.toNat) ∧ ∀ a L, rawL e n left a L = (L.drop a).take n.toNat := by
  have h' := h
  simp only [rawOk, Bool.and_eq_true, decide_eq_true_eq, beq_iff_eq] at h'
  obtain ⟨⟨h1, h2⟩, h3⟩ := h'
  refine ⟨h3, h1, h2, ?_, fun a => by simp [rawA, h], fun a L => by simp [rawL, h]⟩
  unfold rawE hasE
  rw [decide_eq_false (by omega), decide_eq_false (by omega), h3]
  rfl
theorem rawOk_no {e n left : Int} (h : rawOk e n left = false) : rawE e n left ≠ 0 ∧ (∀ a, rawA e n left a = a) ∧ ∀ a L, rawL e n left a L = [] := by
  refine ⟨?_, fun a => by simp [rawA, h], fun a L => by simp [rawL, h]⟩
  unfold rawE hasE
  by_cases h1 : n < 0
  · rw [decide_eq_true h1]; exact failI_ne e 1 (by decide)
  · rw [decide_eq_false h1]
    by_cases h2 : left < n
    · rw [decide_eq_true h2]; exact failI_ne e 6 (by decide)
    · rw [decide_eq_false h2]
      simp only [rawOk, decide_eq_true (show 0 ≤ n ∧ n ≤ left by omega), Bool.true_and] at h
      simpa using h
theorem rawE_has {e n left : Int} (h : 0 ≤ n) : rawE e n left = hasE e n left := by
  unfold rawE
  rw [decide_eq_false (by omega)]; rfl
theorem has_ok {e n left : Int} (h : 0 ≤ n) : (hasE e n left == 0) = rawOk e n left := by
  rw [← rawE_has h]
  cases h1 : rawOk e n left with
  | true => rw [(rawOk_yes h1).2.2.2.1]; rfl
  | false => simpa using (rawOk_no h1).1
def rawC (L : List Int) (n : Int) (c : Cu) : Cu := ⟨rawA c.e n (c.left L) c.a, rawE c.e n (c.left L)⟩
def rawV (L : List Int) (n : Int) (c : Cu) : List Int := rawL c.e n (c.left L) c.a L
def numC (L : List Int) (w : Int) (c : Cu) : Cu := cond (wideB w) (rawC L w c) ⟨c.a, failI c.e 1⟩
def numV (L : List Int) (w : Int) (c : Cu) : Int := cond (wideB w) (valI (rawV L w c)) 0
def flagC (L : List Int) (c : Cu) : Cu := cond (rawOk c.e 1 (c.left L)) (cond (decide (1 < L.getD c.a 0)) ⟨c.a, 4⟩ ⟨c.a + 1, 0⟩) ⟨c.a, rawE c.e 1 (c.left L)⟩
def flagV (L : List Int) (c : Cu) : Bool := rawOk c.e 1 (c.left L) && (L.getD c.a 0 == 1)
/-- Bytes as a text. -/
def baI (l : List Int) : ByteArray := ⟨(toB l).toArray⟩
def textC (L : List Int) (m : Int) (c : Cu) : Cu := cond (rawOk c.e 1 (c.left L)) (cond (decide (m < L.getD c.a 0)) ⟨c.a, 4⟩ (cond (decide (1 + L.getD c.a 0 ≤ c.left L)) ⟨c.a + (1 + (L.getD c.a 0).toNat), 0⟩ ⟨c.a, 6⟩)) ⟨c.a, rawE c.e 1 (c.left L)⟩
def textV (L : List Int) (m : Int) (c : Cu) : ByteArray := cond (rawOk c.e 1 (c.left L) && (!decide (m < L.getD c.a 0) && decide (1 + L.getD c.a 0 ≤ c.left L))) (baI ((L.drop (c.a + 1)).take (L.getD c.a 0).toNat)) ByteArray.empty
def doneC (L : List Int) (c : Cu) : Cu := ⟨c.a, doneE c.e (L.length - c.a)⟩
theorem getD_get {L : List Int} {a : Nat} (h : a < L.length) : L.getD a 0 = L[a] := by simp [List.getD_eq_getElem?_getD, h]
theorem wideB_yes {n : Int} (h : wideB n = true) : 0 < n ∧ n < 9 := by simpa [wideB] using h
theorem rawL_len8 {e n left : Int} {a : Nat} {L : List Int} (h : wideB n = true) : (rawL e n left a L).length ≤ 8 := by
  have := wideB_yes h
  unfold rawL
  cases rawOk e n left
  · simp
  · simp; omega
theorem rawL_bytes {e n left : Int} {a : Nat} {L : List Int} (h : bytesB L) : bytesB (rawL e n left a L) := by
  unfold rawL
  cases rawOk e n left
  · intro c hc; cases hc
  · exact bytesB_take (bytesB_drop h a) _
theorem _root_.Go.Am.Seg.sub {P : List AV} {o : Nat} {l : List Int} (s : Seg P o l) {e n : Int} {a : Nat} (ha : a ≤ l.length) : Seg P (o + a) (rawL e n (l.length - a : Nat) a l) := by
  have h1 := s.le
  have h2 := s.small
  cases h : rawOk e n (l.length - a : Nat) with
  | true =>
    obtain ⟨-, h3, h4, -, -, h5⟩ := rawOk_yes h
    rw [h5]
    have hl : ((l.drop a).take n.toNat).length = n.toNat := by simp; omega
    refine ⟨?_, by rw [hl]; omega, s.ren, by rw [hl]; omega⟩
    have h6 := congrArg (fun q => (q.drop a).take n.toNat) s.seg
    simp only [List.drop_take, List.drop_drop, List.take_take, bA_drop, bA_take] at h6
    rw [hl, ← h6, Nat.min_eq_left (by omega)]
  | false =>
    rw [(rawOk_no h).2.2]
    exact ⟨by simp [bA_nil], by simp; omega, s.ren, by simp⟩
theorem ctake_any {P : List AV} {off : Nat} {L : List Int} (s : Seg P off L) (hb : bytesB L) (c : Cu) (ha : c.a ≤ L.length) (w : Int) : ACall Try.prog 76 [CurA off L.length c.a c.e, I w] [.cells true P] (Det (.tup [CurA off L.length (numC L w c).a (numC L w c).e, U64 (numV L w c)]) [.cells true P]) := by
  have hle := s.le
  have hsm := s.small
  obtain ⟨a, e⟩ := c
  simp only at ha
  cases hw : wideB w with
  | false =>
    have e1 : numC L w ⟨a, e⟩ = ⟨a, failI e 1⟩ := by simp [numC, hw]
    have e2 : numV L w ⟨a, e⟩ = 0 := by simp [numV, hw]
    rw [e1, e2]
    refine ACall.startA c76_ok Try.func76 rfl Try.ntmps76 (by kernel_rfl) res76_ok rfl rfl rfl ?_; simp (maxSteps := 9999999) (disch := omega) only [go_sem]
    (repeat' (first | refine AWpA.seq ?_ | refine AWpA.block ?_ | (with_reducible refine CondP.tt ?_) | (with_reducible refine CondP.ff ?_) | refine AWpA.condv (by simp (maxSteps := 9999999) (disch := omega) only [go_sem, s.ren, hw]; rfl) ?_ | ((first | (apply AWpA.region; (focus (simp (maxSteps := 9999999) (disch := omega) only [go_sem, s.ren, hw]; rfl))) | (apply AWpA.draw [] follows; (focus (simp (maxSteps := 9999999) (disch := omega) only [go_sem, s.ren, hw]; rfl)); (focus (simp (maxSteps := 9999999) (disch := omega) only [go_sem, s.ren, hw]; first | done | trivial)); (focus (simp (maxSteps := 9999999) (disch := omega) only [go_sem, s.ren, hw]; rfl))) | (apply TailK.go; (focus (simp (maxSteps := 9999999) (disch := omega) only [go_sem, s.ren, hw]; rfl))) | refine AWpA.skip ?_ | refine AWpA.exit ?_ | refine AWpA.ret ?_ | (with_reducible refine ARoundsA.succ ?_) | ((first | refine Runs.kt (by assumption) (fun h9 => ?_) | refine Runs.kf (by assumption) (fun h9 => ?_) | refine Runs.nt (by assumption) (fun h9 => ?_) | refine Runs.nf (by assumption) (fun h9 => ?_) | refine CondP.ht (by assumption) (fun h9 => ?_) | refine CondP.hf (by assumption) (fun h9 => ?_) | refine CondP.nt (by assumption) (fun h9 => ?_) | refine CondP.nf (by assumption) (fun h9 => ?_)); (try simp only [h9]); clear h9) | ((first | (with_reducible apply CallG.plain1 [] (width_any w)) | (with_reducible apply CallG.plain1 [0] (cfail_any s.ren off L.length a e 1)) | (with_reducible apply CallG.draw1 [] (width_any w)) | (with_reducible apply CallG.draw1 [0] (cfail_any s.ren off L.length a e 1))); (focus ((try refine And.intro (leAs_of_eq rfl) ?_); (try refine And.intro (leOL_of_eq rfl) ?_); simp (maxSteps := 9999999) (disch := omega) only [go_sem, s.ren, hw]; first | done | (repeat' (first | rfl | (refine And.intro ?_ ?_))))); (focus (simp (maxSteps := 9999999) (disch := omega) only [go_sem, s.ren, hw]; rfl)))); (try simp (maxSteps := 9999999) (disch := omega) only [go_sem, s.ren, hw]); (try (refine And.intro ?_ ?_; (focus (first | omega | (simp only [go_sem]; done) | (simp; done) | (simp; omega) | assumption))))) | ((first | refine CondP.split (fun hif => ?_) (fun hif => ?_) | refine Runs.part (fun hif => ?_) (fun hif => ?_)) <;> ((try simp only [hif]); (try simp only [decide_eq_true_eq, decide_eq_false_iff_not, Bool.not_eq_true, Bool.not_eq_false, Bool.not_eq_true', Bool.not_eq_false', beq_iff_eq, bne_iff_ne, bne_eq_false_iff_eq, beq_eq_false_iff_ne, ne_eq, Bool.and_eq_true, Bool.or_eq_true, Bool.or_eq_false_iff] at hif); (try (have h9 : _ = true := hif; simp only [h9])); (try (have h9 : _ = false := hif; simp only [h9])); (try simp (maxSteps := 9999999) (disch := omega) only [go_sem, s.ren, hw]); (try (refine And.intro ?_ ?_; (focus (first | omega | (simp only [go_sem]; done) | (simp; done) | (simp; omega) | assumption)))); (try (exfalso; omega; done))))))
    (apply Ret.det [0]; (focus (first | exact .inl rfl | exact .inr rfl)); (focus (simp (maxSteps := 9999999) (disch := omega) only [go_sem, s.ren]; rfl)); (simp (maxSteps := 9999999) (disch := omega) only [go_sem, s.ren]; (try (repeat' (first | done | trivial | rfl | exact leAs_rfl _ | decide | (refine And.intro ?_ ?_) | (simp; done) | omega | (simp; decide))))))
  | true =>
    have e1 : numC L w ⟨a, e⟩ = ⟨rawA e w (L.length - a : Nat) a, rawE e w (L.length - a : Nat)⟩ := by simp [numC, hw, rawC]
    have e2 : numV L w ⟨a, e⟩ = valI (rawL e w (L.length - a : Nat) a L) := by simp [numV, hw, rawV]
    rw [e1, e2]
    have hv := value_any (s.sub (e := e) (n := w) ha) (rawL_bytes hb) (rawL_len8 hw)
    refine ACall.startA c76_ok Try.func76 rfl Try.ntmps76 (by kernel_rfl) res76_ok rfl rfl rfl ?_; simp (maxSteps := 9999999) (disch := omega) only [go_sem]
    (repeat' (first | refine AWpA.seq ?_ | refine AWpA.block ?_ | (with_reducible refine CondP.tt ?_) | (with_reducible refine CondP.ff ?_) | refine AWpA.condv (by simp (maxSteps := 9999999) (disch := omega) only [go_sem, s.ren, hw]; rfl) ?_ | ((first | (apply AWpA.region; (focus (simp (maxSteps := 9999999) (disch := omega) only [go_sem, s.ren, hw]; rfl))) | (apply AWpA.draw [] follows; (focus (simp (maxSteps := 9999999) (disch := omega) only [go_sem, s.ren, hw]; rfl)); (focus (simp (maxSteps := 9999999) (disch := omega) only [go_sem, s.ren, hw]; first | done | trivial)); (focus (simp (maxSteps := 9999999) (disch := omega) only [go_sem, s.ren, hw]; rfl))) | (apply TailK.go; (focus (simp (maxSteps := 9999999) (disch := omega) only [go_sem, s.ren, hw]; rfl))) | refine AWpA.skip ?_ | refine AWpA.exit ?_ | refine AWpA.ret ?_ | (with_reducible refine ARoundsA.succ ?_) | ((first | refine Runs.kt (by assumption) (fun h9 => ?_) | refine Runs.kf (by assumption) (fun h9 => ?_) | refine Runs.nt (by assumption) (fun h9 => ?_) | refine Runs.nf (by assumption) (fun h9 => ?_) | refine CondP.ht (by assumption) (fun h9 => ?_) | refine CondP.hf (by assumption) (fun h9 => ?_) | refine CondP.nt (by assumption) (fun h9 => ?_) | refine CondP.nf (by assumption) (fun h9 => ?_)); (try simp only [h9]); clear h9) | ((first | (with_reducible apply CallG.plain1 [] (width_any w)) | (with_reducible apply CallG.plain1 [0] (craw_any s a ha e w)) | (with_reducible apply CallG.plain1 [0] (hv)) | (with_reducible apply CallG.draw1 [] (width_any w)) | (with_reducible apply CallG.draw1 [0] (craw_any s a ha e w)) | (with_reducible apply CallG.draw1 [0] (hv))); (focus ((try refine And.intro (leAs_of_eq rfl) ?_); (try refine And.intro (leOL_of_eq rfl) ?_); simp (maxSteps := 9999999) (disch := omega) only [go_sem, s.ren, hw]; first | done | (repeat' (first | rfl | (refine And.intro ?_ ?_))))); (focus (simp (maxSteps := 9999999) (disch := omega) only [go_sem, s.ren, hw]; rfl)))); (try simp (maxSteps := 9999999) (disch := omega) only [go_sem, s.ren, hw]); (try (refine And.intro ?_ ?_; (focus (first | omega | (simp only [go_sem]; done) | (simp; done) | (simp; omega) | assumption))))) | ((first | refine CondP.split (fun hif => ?_) (fun hif => ?_) | refine Runs.part (fun hif => ?_) (fun hif => ?_)) <;> ((try simp only [hif]); (try simp only [decide_eq_true_eq, decide_eq_false_iff_not, Bool.not_eq_true, Bool.not_eq_false, Bool.not_eq_true', Bool.not_eq_false', beq_iff_eq, bne_iff_ne, bne_eq_false_iff_eq, beq_eq_false_iff_ne, ne_eq, Bool.and_eq_true, Bool.or_eq_true, Bool.or_eq_false_iff] at hif); (try (have h9 : _ = true := hif; simp only [h9])); (try (have h9 : _ = false := hif; simp only [h9])); (try simp (maxSteps := 9999999) (disch := omega) only [go_sem, s.ren, hw]); (try (refine And.intro ?_ ?_; (focus (first | omega | (simp only [go_sem]; done) | (simp; done) | (simp; omega) | assumption)))); (try (exfalso; omega; done))))))
    (apply Ret.det [0]; (focus (first | exact .inl rfl | exact .inr rfl)); (focus (simp (maxSteps := 9999999) (disch := omega) only [go_sem, s.ren]; rfl)); (simp (maxSteps := 9999999) (disch := omega) only [go_sem, s.ren]; (try (repeat' (first | done | trivial | rfl | exact leAs_rfl _ | decide | (refine And.intro ?_ ?_) | (simp; done) | omega | (simp; decide))))))
theorem cdone_any {P : List AV} {off : Nat} {L : List Int} (s : Seg P off L) (c : Cu) (ha : c.a ≤ L.length) : ACall Try.prog 77 [CurA off L.length c.a c.e] [.cells true P] (Det (CurA off L.length (doneC L c).a (doneC L c).e) [.cells true P]) := by
  obtain ⟨a, e⟩ := c
  by_cases h : 0 < L.length - a
  · have e1 : doneC L ⟨a, e⟩ = ⟨a, failI e 4⟩ := by simp [doneC, doneE, h]
    have h1 : ((a : Int) < (L.length : Int)) = True := eq_true (by omega)
    rw [e1]
    refine ACall.startA c77_ok Try.func77 rfl Try.ntmps77 (by kernel_rfl) res77_ok rfl rfl rfl ?_; simp (maxSteps := 9999999) (disch := omega) only [go_sem]
    (repeat' (first | refine AWpA.seq ?_ | refine AWpA.block ?_ | (with_reducible refine CondP.tt ?_) | (with_reducible refine CondP.ff ?_) | refine AWpA.condv (by simp (maxSteps := 9999999) (disch := omega) only [go_sem, s.ren, h1]; rfl) ?_ | ((first | (apply AWpA.region; (focus (simp (maxSteps := 9999999) (disch := omega) only [go_sem, s.ren, h1]; rfl))) | (apply AWpA.draw [] follows; (focus (simp (maxSteps := 9999999) (disch := omega) only [go_sem, s.ren, h1]; rfl)); (focus (simp (maxSteps := 9999999) (disch := omega) only [go_sem, s.ren, h1]; first | done | trivial)); (focus (simp (maxSteps := 9999999) (disch := omega) only [go_sem, s.ren, h1]; rfl))) | (apply TailK.go; (focus (simp (maxSteps := 9999999) (disch := omega) only [go_sem, s.ren, h1]; rfl))) | refine AWpA.skip ?_ | refine AWpA.exit ?_ | refine AWpA.ret ?_ | (with_reducible refine ARoundsA.succ ?_) | ((first | refine Runs.kt (by assumption) (fun h9 => ?_) | refine Runs.kf (by assumption) (fun h9 => ?_) | refine Runs.nt (by assumption) (fun h9 => ?_) | refine Runs.nf (by assumption) (fun h9 => ?_) | refine CondP.ht (by assumption) (fun h9 => ?_) | refine CondP.hf (by assumption) (fun h9 => ?_) | refine CondP.nt (by assumption) (fun h9 => ?_) | refine CondP.nf (by assumption) (fun h9 => ?_)); (try simp only [h9]); clear h9) | ((first | (with_reducible apply CallG.plain1 [0] (cfail_any s.ren off L.length a e 4)) | (with_reducible apply CallG.draw1 [0] (cfail_any s.ren off L.length a e 4))); (focus ((try refine And.intro (leAs_of_eq rfl) ?_); (try refine And.intro (leOL_of_eq rfl) ?_); simp (maxSteps := 9999999) (disch := omega) only [go_sem, s.ren, h1]; first | done | (repeat' (first | rfl | (refine And.intro ?_ ?_))))); (focus (simp (maxSteps := 9999999) (disch := omega) only [go_sem, s.ren, h1]; rfl)))); (try simp (maxSteps := 9999999) (disch := omega) only [go_sem, s.ren, h1]); (try (refine And.intro ?_ ?_; (focus (first | omega | (simp only [go_sem]; done) | (simp; done) | (simp; omega) | assumption))))) | ((first | refine CondP.split (fun hif => ?_) (fun hif => ?_) | refine Runs.part (fun hif => ?_) (fun hif => ?_)) <;> ((try simp only [hif]); (try simp only [decide_eq_true_eq, decide_eq_false_iff_not, Bool.not_eq_true, Bool.not_eq_false, Bool.not_eq_true', Bool.not_eq_false', beq_iff_eq, bne_iff_ne, bne_eq_false_iff_eq, beq_eq_false_iff_ne, ne_eq, Bool.and_eq_true, Bool.or_eq_true, Bool.or_eq_false_iff] at hif); (try (have h9 : _ = true := hif; simp only [h9])); (try (have h9 : _ = false := hif; simp only [h9])); (try simp (maxSteps := 9999999) (disch := omega) only [go_sem, s.ren, h1]); (try (refine And.intro ?_ ?_; (focus (first | omega | (simp only [go_sem]; done) | (simp; done) | (simp; omega) | assumption)))); (try (exfalso; omega; done))))))
    (apply Ret.det [0]; (focus (first | exact .inl rfl | exact .inr rfl)); (focus (simp (maxSteps := 9999999) (disch := omega) only [go_sem, s.ren]; rfl)); (simp (maxSteps := 9999999) (disch := omega) only [go_sem, s.ren]; (try (repeat' (first | done | trivial | rfl | exact leAs_rfl _ | decide | (refine And.intro ?_ ?_) | (simp; done) | omega | (simp; decide))))))
  · have e1 : doneC L ⟨a, e⟩ = ⟨a, e⟩ := by simp [doneC, doneE, h]
    have h1 : ((a : Int) < (L.length : Int)) = False := eq_false (by omega)
    rw [e1]
    refine ACall.startA c77_ok Try.func77 rfl Try.ntmps77 (by kernel_rfl) res77_ok rfl rfl rfl ?_; simp (maxSteps := 9999999) (disch := omega) only [go_sem]
    (repeat' (first | refine AWpA.seq ?_ | refine AWpA.block ?_ | (with_reducible refine CondP.tt ?_) | (with_reducible refine CondP.ff ?_) | refine AWpA.condv (by simp (maxSteps := 9999999) (disch := omega) only [go_sem, s.ren, h1]; rfl) ?_ | ((first | (apply AWpA.region; (focus (simp (maxSteps := 9999999) (disch := omega) only [go_sem, s.ren, h1]; rfl))) | (apply AWpA.draw [] follows; (focus (simp (maxSteps := 9999999) (disch := omega) only [go_sem, s.ren, h1]; rfl)); (focus (simp (maxSteps := 9999999) (disch := omega) only [go_sem, s.ren, h1]; first | done | trivial)); (focus (simp (maxSteps := 9999999) (disch := omega) only [go_sem, s.ren, h1]; rfl))) | (apply TailK.go; (focus (simp (maxSteps := 9999999) (disch := omega) only [go_sem, s.ren, h1]; rfl))) | refine AWpA.skip ?_ | refine AWpA.exit ?_ | refine AWpA.ret ?_ | (with_reducible refine ARoundsA.succ ?_) | ((first | refine Runs.kt (by assumption) (fun h9 => ?_) | refine Runs.kf (by assumption) (fun h9 => ?_) | refine Runs.nt (by assumption) (fun h9 => ?_) | refine Runs.nf (by assumption) (fun h9 => ?_) | refine CondP.ht (by assumption) (fun h9 => ?_) | refine CondP.hf (by assumption) (fun h9 => ?_) | refine CondP.nt (by assumption) (fun h9 => ?_) | refine CondP.nf (by assumption) (fun h9 => ?_)); (try simp only [h9]); clear h9)); (try simp (maxSteps := 9999999) (disch := omega) only [go_sem, s.ren, h1]); (try (refine And.intro ?_ ?_; (focus (first | omega | (simp only [go_sem]; done) | (simp; done) | (simp; omega) | assumption))))) | ((first | refine CondP.split (fun hif => ?_) (fun hif => ?_) | refine Runs.part (fun hif => ?_) (fun hif => ?_)) <;> ((try simp only [hif]); (try simp only [decide_eq_true_eq, decide_eq_false_iff_not, Bool.not_eq_true, Bool.not_eq_false, Bool.not_eq_true', Bool.not_eq_false', beq_iff_eq, bne_iff_ne, bne_eq_false_iff_eq, beq_eq_false_iff_ne, ne_eq, Bool.and_eq_true, Bool.or_eq_true, Bool.or_eq_false_iff] at hif); (try (have h9 : _ = true := hif; simp only [h9])); (try (have h9 : _ = false := hif; simp only [h9])); (try simp (maxSteps := 9999999) (disch := omega) only [go_sem, s.ren, h1]); (try (refine And.intro ?_ ?_; (focus (first | omega | (simp only [go_sem]; done) | (simp; done) | (simp; omega) | assumption)))); (try (exfalso; omega; done))))))
    (apply Ret.det [0]; (focus (first | exact .inl rfl | exact .inr rfl)); (focus (simp (maxSteps := 9999999) (disch := omega) only [go_sem, s.ren]; rfl)); (simp (maxSteps := 9999999) (disch := omega) only [go_sem, s.ren]; (try (repeat' (first | done | trivial | rfl | exact leAs_rfl _ | decide | (refine And.intro ?_ ?_) | (simp; done) | omega | (simp; decide))))))
end Go.Proofs.Ytkdikmfnchmphaa
