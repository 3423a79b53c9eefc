/- Contracts: entries put, woken; the document's. -/
import Derived.Test.YteggjhihpjjloaaAc8
namespace Go.Proofs.Yteggjhihpjjloaa
set_option linter.unusedSimpArgs false
set_option linter.unusedVariables false
set_option maxHeartbeats 4000000
open Go Go.Am Go.RowKit Go.ChangeShapes Go.WideShapes Go.ChangeAt
open Go.ChangeMaps (open_string shut_string)
set_option maxRecDepth 100000
/- quidnunc/entry.Put -/
noncomputable def c54_1 : ACode := .region false [⟨some 5, .box 0, [.t 2], none⟩,
  ⟨some 6, .alloc [(.string ⟨#[]⟩), (.string ⟨#[]⟩), (.bool false), (.int .i64 0), (.int .i64 0), (.int .i64 0), (.int .i64 0), (.int .i64 0), (.int .i64 0)], [], none⟩,
  ⟨some 7, .move, [.c (.val (.int .i64 0))], none⟩] [] [] [0, 1, 5, 6] true [] []
noncomputable def c54_3 : ACode := .region false [⟨some 8, .move, [.t 0], none⟩,
  ⟨some 9, .move, [.t 1], none⟩,
  ⟨some 10, .load true 2, [.t 5], none⟩,
  ⟨some 11, .load true 2, [.t 5], none⟩,
  ⟨some 12, .build [(.string ⟨#[]⟩), (.string ⟨#[]⟩), (.bool false), (.int .i64 0), (.int .i64 0), (.int .i64 0), (.int .i64 0), (.int .i64 0), (.int .i64 0)] [(0, 1), (1, 1), (3, 2), (5, 2)], [.t 8, .t 9, .t 10, .t 11], none⟩,
  ⟨some 13, .call 101, [.t 12], none⟩,
  ⟨some 14, .ext 0, [.t 13], none⟩,
  ⟨some 15, .ext 1, [.t 13], none⟩,
  ⟨none, .store 9, [.t 6, .t 14], none⟩,
  ⟨some 7, .move, [.t 15], none⟩] [] [] [6, 7] true [] []
noncomputable def c54_2 : ACode := .seq c54_3 .ret
noncomputable def c54_0 : ACode := .seq c54_1 c54_2
noncomputable def code54 : Code := (Try.f54.body).getD .skip
theorem c54_ok : compC Try.prog 16 code54 = some (strip c54_0) := by kernel_rfl
theorem res54_ok : Try.f54.results.toList.mapM (resC Try.prog) = some [(6, some (true, 9)), (7, none)] := by kernel_rfl
/- quidnunc/entry.Wake -/
noncomputable def c46_1 : ACode := .region false [⟨some 2, .box 0, [.t 0], none⟩,
  ⟨some 3, .box 0, [.t 1], none⟩,
  ⟨some 4, .alloc [(.string ⟨#[]⟩), (.string ⟨#[]⟩), (.bool false), (.int .i64 0), (.int .i64 0), (.int .i64 0), (.int .i64 0), (.int .i64 0), (.int .i64 0)], [], none⟩,
  ⟨some 5, .move, [.c (.val (.int .i64 0))], none⟩] [] [] [2, 3, 4] true [] []
noncomputable def c46_4 : ACode := .region false [⟨some 7, .load true 9, [.t 2], none⟩,
  ⟨some 8, .call 78, [.t 7], none⟩,
  ⟨some 6, .move, [.t 8], none⟩] [] [] [2, 3, 4, 6] true [] []
noncomputable def c46_6 : ACode := .region false [⟨some 9, .move, [.t 6], none⟩,
  ⟨some 10, .bin .neq, [.t 9, .c (.val (.int .i64 0))], none⟩] [] [] [2, 3, 4, 6, 10] false [] []
noncomputable def c46_9 : ACode := .region false [⟨some 11, .build [(.string ⟨#[]⟩), (.string ⟨#[]⟩), (.bool false), (.int .i64 0), (.int .i64 0), (.int .i64 0), (.int .i64 0), (.int .i64 0), (.int .i64 0)] [], [], none⟩,
  ⟨some 12, .move, [.t 6], none⟩,
  ⟨none, .store 9, [.t 4, .t 11], none⟩,
  ⟨some 5, .move, [.t 12], none⟩] [] [] [4, 5] true [] []
noncomputable def c46_8 : ACode := .seq c46_9 .ret
noncomputable def c46_7 : ACode := .cond (.t 10) c46_8 .skip
noncomputable def c46_5 : ACode := .seq c46_6 c46_7
noncomputable def c46_3 : ACode := .seq c46_4 c46_5
noncomputable def c46_12 : ACode := .region false [⟨some 13, .addr 2, [.t 2], none⟩,
  ⟨some 14, .load false 1, [.t 13], none⟩,
  ⟨some 15, .un .not, [.t 14], none⟩,
  ⟨some 16, .move, [.t 15], none⟩,
  ⟨some 17, .load true 2, [.t 3], some (some 16, false)⟩,
  ⟨some 18, .call 97, [.t 17], some (some 16, false)⟩,
  ⟨some 19, .un .not, [.t 18], some (some 16, false)⟩,
  ⟨some 20, .pick, [.t 16, .c (.val (.bool true)), .t 19], none⟩,
  ⟨some 21, .move, [.t 20], none⟩,
  ⟨some 22, .load true 2, [.t 3], some (some 21, false)⟩,
  ⟨some 23, .addr 5, [.t 2], some (some 21, false)⟩,
  ⟨some 24, .load true 2, [.t 23], some (some 21, false)⟩,
  ⟨some 25, .call 98, [.t 22, .t 24], some (some 21, false)⟩,
  ⟨some 26, .bin .leq, [.t 25, .c (.val (.int .i64 0))], some (some 21, false)⟩,
  ⟨some 27, .pick, [.t 21, .c (.val (.bool true)), .t 26], none⟩] [] [] [2, 3, 4, 27] true [] []
noncomputable def c46_15 : ACode := .region false [⟨some 28, .build [(.string ⟨#[]⟩), (.string ⟨#[]⟩), (.bool false), (.int .i64 0), (.int .i64 0), (.int .i64 0), (.int .i64 0), (.int .i64 0), (.int .i64 0)] [], [], none⟩,
  ⟨none, .store 9, [.t 4, .t 28], none⟩,
  ⟨some 5, .move, [.c (.val (.int .i64 1))], none⟩] [] [] [4, 5] true [] []
noncomputable def c46_14 : ACode := .seq c46_15 .ret
noncomputable def c46_13 : ACode := .cond (.t 27) c46_14 .skip
noncomputable def c46_11 : ACode := .seq c46_12 c46_13
noncomputable def c46_17 : ACode := .region false [⟨some 29, .load true 2, [.t 3], none⟩,
  ⟨some 30, .addr 5, [.t 2], none⟩,
  ⟨none, .store 2, [.t 30, .t 29], none⟩,
  ⟨some 31, .addr 8, [.t 2], none⟩,
  ⟨none, .store 1, [.t 31, .c (.val (.int .i64 0))], none⟩] [] [] [2, 4] true [] []
noncomputable def c46_19 : ACode := .region false [⟨some 32, .load true 9, [.t 2], none⟩,
  ⟨none, .store 9, [.t 4, .t 32], none⟩,
  ⟨some 5, .move, [.c (.val (.int .i64 0))], none⟩] [] [] [4, 5] true [] []
noncomputable def c46_18 : ACode := .seq c46_19 .ret
noncomputable def c46_16 : ACode := .seq c46_17 c46_18
noncomputable def c46_10 : ACode := .seq c46_11 c46_16
noncomputable def c46_2 : ACode := .seq c46_3 c46_10
noncomputable def c46_0 : ACode := .seq c46_1 c46_2
noncomputable def code46 : Code := (Try.f46.body).getD .skip
theorem c46_ok : compC Try.prog 33 code46 = some (strip c46_0) := by kernel_rfl
theorem res46_ok : Try.f46.results.toList.mapM (resC Try.prog) = some [(4, some (true, 9)), (5, none)] := by kernel_rfl
/- quidnunc/quidnunclaw05.To -/
noncomputable def c50_1 : ACode := .region false [⟨some 1, .box 0, [.t 0], none⟩,
  ⟨some 2, .alloc [(.string ⟨#[]⟩), (.string ⟨#[]⟩), (.bool false), (.int .i64 0), (.int .i64 0), (.int .i64 0), (.int .i64 0), (.int .i64 0), (.int .i64 0)], [], none⟩] [] [] [1, 2] true [] []
noncomputable def c50_3 : ACode := .region true [⟨some 3, .addr 0, [.t 1], none⟩,
  ⟨some 4, .load false 1, [.t 3], none⟩,
  ⟨some 5, .addr 1, [.t 1], none⟩,
  ⟨some 6, .load false 1, [.t 5], none⟩,
  ⟨some 7, .addr 2, [.t 1], none⟩,
  ⟨some 8, .load false 1, [.t 7], none⟩,
  ⟨some 9, .addr 3, [.t 1], none⟩,
  ⟨some 10, .load true 2, [.t 9], none⟩,
  ⟨some 11, .call 99, [.t 10], none⟩,
  ⟨some 12, .addr 5, [.t 1], none⟩,
  ⟨some 13, .load true 2, [.t 12], none⟩,
  ⟨some 14, .call 99, [.t 13], none⟩,
  ⟨some 15, .addr 7, [.t 1], none⟩,
  ⟨some 16, .load false 1, [.t 15], none⟩,
  ⟨some 17, .addr 8, [.t 1], none⟩,
  ⟨some 18, .load false 1, [.t 17], none⟩,
  ⟨some 19, .build [(.string ⟨#[]⟩), (.string ⟨#[]⟩), (.bool false), (.int .i64 0), (.int .i64 0), (.int .i64 0), (.int .i64 0), (.int .i64 0), (.int .i64 0)] [(0, 1), (1, 1), (2, 1), (3, 2), (5, 2), (7, 1), (8, 1)], [.t 4, .t 6, .t 8, .t 11, .t 14, .t 16, .t 18], none⟩,
  ⟨none, .store 9, [.t 2, .t 19], none⟩] [] [] [2] true [2] []
noncomputable def c50_2 : ACode := .seq c50_3 .ret
noncomputable def c50_0 : ACode := .seq c50_1 c50_2
noncomputable def code50 : Code := (Try.f50.body).getD .skip
theorem c50_ok : compC Try.prog 20 code50 = some (strip c50_0) := by kernel_rfl
theorem res50_ok : Try.f50.results.toList.mapM (resC Try.prog) = some [(2, some (true, 9))] := by kernel_rfl
/- quidnunc/quidnuncref05.Check -/
noncomputable def c49_1 : ACode := .region false [⟨some 1, .box 0, [.t 0], none⟩,
  ⟨some 2, .move, [.c (.val (.int .i64 0))], none⟩] [] [] [1] true [] []
noncomputable def c49_4 : ACode := .region false [⟨some 3, .addr 0, [.t 1], none⟩,
  ⟨some 4, .load false 1, [.t 3], none⟩,
  ⟨some 5, .lenStr, [.t 4], none⟩,
  ⟨some 6, .bin .lss, [.t 5, .c (.val (.int .i64 1))], none⟩,
  ⟨some 7, .move, [.t 6], none⟩,
  ⟨some 8, .addr 0, [.t 1], some (some 7, false)⟩,
  ⟨some 9, .load false 1, [.t 8], some (some 7, false)⟩,
  ⟨some 10, .lenStr, [.t 9], some (some 7, false)⟩,
  ⟨some 11, .bin .gtr, [.t 10, .c (.val (.int .i64 16))], some (some 7, false)⟩,
  ⟨some 12, .pick, [.t 7, .c (.val (.bool true)), .t 11], none⟩] [] [] [1, 12] false [] []
noncomputable def c49_7 : ACode := .region false [⟨some 2, .move, [.c (.val (.int .i64 9))], none⟩] [] [] [2] false [] []
noncomputable def c49_6 : ACode := .seq c49_7 .ret
noncomputable def c49_5 : ACode := .cond (.t 12) c49_6 .skip
noncomputable def c49_3 : ACode := .seq c49_4 c49_5
noncomputable def c49_10 : ACode := .region false [⟨some 13, .addr 1, [.t 1], none⟩,
  ⟨some 14, .load false 1, [.t 13], none⟩,
  ⟨some 15, .lenStr, [.t 14], none⟩,
  ⟨some 16, .bin .gtr, [.t 15, .c (.val (.int .i64 32))], none⟩,
  ⟨some 17, .move, [.t 16], none⟩,
  ⟨some 18, .addr 2, [.t 1], some (some 17, false)⟩,
  ⟨some 19, .load false 1, [.t 18], some (some 17, false)⟩,
  ⟨some 20, .move, [.t 19], some (some 17, false)⟩,
  ⟨some 21, .addr 1, [.t 1], some (some 20, true)⟩,
  ⟨some 22, .load false 1, [.t 21], some (some 20, true)⟩,
  ⟨some 23, .lenStr, [.t 22], some (some 20, true)⟩,
  ⟨some 24, .bin .gtr, [.t 23, .c (.val (.int .i64 0))], some (some 20, true)⟩,
  ⟨some 25, .pick, [.t 20, .t 24, .c (.val (.bool false))], some (some 17, false)⟩,
  ⟨some 26, .pick, [.t 17, .c (.val (.bool true)), .t 25], none⟩] [] [] [1, 26] false [] []
noncomputable def c49_13 : ACode := .region false [⟨some 2, .move, [.c (.val (.int .i64 10))], none⟩] [] [] [2] false [] []
noncomputable def c49_12 : ACode := .seq c49_13 .ret
noncomputable def c49_11 : ACode := .cond (.t 26) c49_12 .skip
noncomputable def c49_9 : ACode := .seq c49_10 c49_11
noncomputable def c49_16 : ACode := .region false [⟨some 27, .addr 3, [.t 1], none⟩,
  ⟨some 28, .load true 2, [.t 27], none⟩,
  ⟨some 29, .call 53, [.t 28], none⟩,
  ⟨some 30, .un .not, [.t 29], none⟩,
  ⟨some 31, .move, [.t 30], none⟩,
  ⟨some 32, .addr 5, [.t 1], some (some 31, false)⟩,
  ⟨some 33, .load true 2, [.t 32], some (some 31, false)⟩,
  ⟨some 34, .call 53, [.t 33], some (some 31, false)⟩,
  ⟨some 35, .un .not, [.t 34], some (some 31, false)⟩,
  ⟨some 36, .pick, [.t 31, .c (.val (.bool true)), .t 35], none⟩,
  ⟨some 37, .move, [.t 36], none⟩,
  ⟨some 38, .addr 3, [.t 1], some (some 37, false)⟩,
  ⟨some 39, .load true 2, [.t 38], some (some 37, false)⟩,
  ⟨some 40, .addr 5, [.t 1], some (some 37, false)⟩,
  ⟨some 41, .load true 2, [.t 40], some (some 37, false)⟩,
  ⟨some 42, .call 52, [.t 39, .t 41], some (some 37, false)⟩,
  ⟨some 43, .pick, [.t 37, .c (.val (.bool true)), .t 42], none⟩] [] [] [1, 43] true [] []
noncomputable def c49_19 : ACode := .region false [⟨some 2, .move, [.c (.val (.int .i64 1))], none⟩] [] [] [2] false [] []
noncomputable def c49_18 : ACode := .seq c49_19 .ret
noncomputable def c49_17 : ACode := .cond (.t 43) c49_18 .skip
noncomputable def c49_15 : ACode := .seq c49_16 c49_17
noncomputable def c49_22 : ACode := .region false [⟨some 44, .addr 2, [.t 1], none⟩,
  ⟨some 45, .load false 1, [.t 44], none⟩,
  ⟨some 46, .un .not, [.t 45], none⟩,
  ⟨some 47, .move, [.t 46], none⟩,
  ⟨some 48, .addr 5, [.t 1], some (some 47, true)⟩,
  ⟨some 49, .load true 2, [.t 48], some (some 47, true)⟩,
  ⟨some 50, .addr 3, [.t 1], some (some 47, true)⟩,
  ⟨some 51, .load true 2, [.t 50], some (some 47, true)⟩,
  ⟨some 52, .eqA true [(0, 0), (1, 0)], [.t 49, .t 51], some (some 47, true)⟩,
  ⟨some 53, .move, [.t 52], some (some 47, true)⟩,
  ⟨some 54, .addr 7, [.t 1], some (some 53, false)⟩,
  ⟨some 55, .load false 1, [.t 54], some (some 53, false)⟩,
  ⟨some 56, .bin .neq, [.t 55, .c (.val (.int .i64 0))], some (some 53, false)⟩,
  ⟨some 57, .pick, [.t 53, .c (.val (.bool true)), .t 56], some (some 47, true)⟩,
  ⟨some 58, .move, [.t 57], some (some 47, true)⟩,
  ⟨some 59, .addr 8, [.t 1], some (some 58, false)⟩,
  ⟨some 60, .load false 1, [.t 59], some (some 58, false)⟩,
  ⟨some 61, .bin .neq, [.t 60, .c (.val (.int .i64 0))], some (some 58, false)⟩,
  ⟨some 62, .pick, [.t 58, .c (.val (.bool true)), .t 61], some (some 47, true)⟩,
  ⟨some 63, .pick, [.t 47, .t 62, .c (.val (.bool false))], none⟩] [] [] [1, 63] false [] []
noncomputable def c49_25 : ACode := .region false [⟨some 2, .move, [.c (.val (.int .i64 1))], none⟩] [] [] [2] false [] []
noncomputable def c49_24 : ACode := .seq c49_25 .ret
noncomputable def c49_23 : ACode := .cond (.t 63) c49_24 .skip
noncomputable def c49_21 : ACode := .seq c49_22 c49_23
noncomputable def c49_28 : ACode := .region false [⟨some 64, .addr 2, [.t 1], none⟩,
  ⟨some 65, .load false 1, [.t 64], none⟩,
  ⟨some 66, .move, [.t 65], none⟩,
  ⟨some 67, .addr 7, [.t 1], some (some 66, true)⟩,
  ⟨some 68, .load false 1, [.t 67], some (some 66, true)⟩,
  ⟨some 69, .bin .lss, [.t 68, .c (.val (.int .i64 1))], some (some 66, true)⟩,
  ⟨some 70, .move, [.t 69], some (some 66, true)⟩,
  ⟨some 71, .addr 7, [.t 1], some (some 70, false)⟩,
  ⟨some 72, .load false 1, [.t 71], some (some 70, false)⟩,
  ⟨some 73, .bin .gtr, [.t 72, .c (.val (.int .i64 4095))], some (some 70, false)⟩,
  ⟨some 74, .pick, [.t 70, .c (.val (.bool true)), .t 73], some (some 66, true)⟩,
  ⟨some 75, .move, [.t 74], some (some 66, true)⟩,
  ⟨some 76, .addr 8, [.t 1], some (some 75, false)⟩,
  ⟨some 77, .load false 1, [.t 76], some (some 75, false)⟩,
  ⟨some 78, .bin .lss, [.t 77, .c (.val (.int .i64 0))], some (some 75, false)⟩,
  ⟨some 79, .pick, [.t 75, .c (.val (.bool true)), .t 78], some (some 66, true)⟩,
  ⟨some 80, .move, [.t 79], some (some 66, true)⟩,
  ⟨some 81, .addr 8, [.t 1], some (some 80, false)⟩,
  ⟨some 82, .load false 1, [.t 81], some (some 80, false)⟩,
  ⟨some 83, .bin .gtr, [.t 82, .c (.val (.int .i64 2147483647))], some (some 80, false)⟩,
  ⟨some 84, .pick, [.t 80, .c (.val (.bool true)), .t 83], some (some 66, true)⟩,
  ⟨some 85, .pick, [.t 66, .t 84, .c (.val (.bool false))], none⟩] [] [] [85] false [] []
noncomputable def c49_31 : ACode := .region false [⟨some 2, .move, [.c (.val (.int .i64 1))], none⟩] [] [] [2] false [] []
noncomputable def c49_30 : ACode := .seq c49_31 .ret
noncomputable def c49_29 : ACode := .cond (.t 85) c49_30 .skip
noncomputable def c49_27 : ACode := .seq c49_28 c49_29
noncomputable def c49_33 : ACode := .region false [⟨some 2, .move, [.c (.val (.int .i64 0))], none⟩] [] [] [2] false [] []
noncomputable def c49_32 : ACode := .seq c49_33 .ret
noncomputable def c49_26 : ACode := .seq c49_27 c49_32
noncomputable def c49_20 : ACode := .seq c49_21 c49_26
noncomputable def c49_14 : ACode := .seq c49_15 c49_20
noncomputable def c49_8 : ACode := .seq c49_9 c49_14
noncomputable def c49_2 : ACode := .seq c49_3 c49_8
noncomputable def c49_0 : ACode := .seq c49_1 c49_2
noncomputable def code49 : Code := (Try.f49.body).getD .skip
theorem c49_ok : compC Try.prog 86 code49 = some (strip c49_0) := by kernel_rfl
theorem res49_ok : Try.f49.results.toList.mapM (resC Try.prog) = some [(2, none)] := by kernel_rfl
/- quidnunc/quidnuncref05.Wake -/
noncomputable def c56_1 : ACode := .region false [⟨some 2, .box 0, [.t 0], none⟩,
  ⟨some 3, .box 0, [.t 1], none⟩,
  ⟨some 4, .alloc [(.string ⟨#[]⟩), (.string ⟨#[]⟩), (.bool false), (.int .i64 0), (.int .i64 0), (.int .i64 0), (.int .i64 0), (.int .i64 0), (.int .i64 0)], [], none⟩,
  ⟨some 5, .move, [.c (.val (.int .i64 0))], none⟩] [] [] [2, 3, 4] true [] []
noncomputable def c56_4 : ACode := .region false [⟨some 7, .load true 9, [.t 2], none⟩,
  ⟨some 8, .call 49, [.t 7], none⟩,
  ⟨some 6, .move, [.t 8], none⟩] [] [] [2, 3, 4, 6] true [] []
noncomputable def c56_6 : ACode := .region false [⟨some 9, .move, [.t 6], none⟩,
  ⟨some 10, .bin .neq, [.t 9, .c (.val (.int .i64 0))], none⟩] [] [] [2, 3, 4, 6, 10] false [] []
noncomputable def c56_9 : ACode := .region false [⟨some 11, .build [(.string ⟨#[]⟩), (.string ⟨#[]⟩), (.bool false), (.int .i64 0), (.int .i64 0), (.int .i64 0), (.int .i64 0), (.int .i64 0), (.int .i64 0)] [], [], none⟩,
  ⟨some 12, .move, [.t 6], none⟩,
  ⟨none, .store 9, [.t 4, .t 11], none⟩,
  ⟨some 5, .move, [.t 12], none⟩] [] [] [4, 5] true [] []
noncomputable def c56_8 : ACode := .seq c56_9 .ret
noncomputable def c56_7 : ACode := .cond (.t 10) c56_8 .skip
noncomputable def c56_5 : ACode := .seq c56_6 c56_7
noncomputable def c56_3 : ACode := .seq c56_4 c56_5
noncomputable def c56_12 : ACode := .region false [⟨some 13, .addr 2, [.t 2], none⟩,
  ⟨some 14, .load false 1, [.t 13], none⟩,
  ⟨some 15, .un .not, [.t 14], none⟩,
  ⟨some 16, .move, [.t 15], none⟩,
  ⟨some 17, .load true 2, [.t 3], some (some 16, false)⟩,
  ⟨some 18, .call 53, [.t 17], some (some 16, false)⟩,
  ⟨some 19, .un .not, [.t 18], some (some 16, false)⟩,
  ⟨some 20, .pick, [.t 16, .c (.val (.bool true)), .t 19], none⟩,
  ⟨some 21, .move, [.t 20], none⟩,
  ⟨some 22, .load true 2, [.t 3], some (some 21, false)⟩,
  ⟨some 23, .addr 5, [.t 2], some (some 21, false)⟩,
  ⟨some 24, .load true 2, [.t 23], some (some 21, false)⟩,
  ⟨some 25, .call 52, [.t 22, .t 24], some (some 21, false)⟩,
  ⟨some 26, .un .not, [.t 25], some (some 21, false)⟩,
  ⟨some 27, .pick, [.t 21, .c (.val (.bool true)), .t 26], none⟩] [] [] [2, 3, 4, 27] true [] []
noncomputable def c56_15 : ACode := .region false [⟨some 28, .build [(.string ⟨#[]⟩), (.string ⟨#[]⟩), (.bool false), (.int .i64 0), (.int .i64 0), (.int .i64 0), (.int .i64 0), (.int .i64 0), (.int .i64 0)] [], [], none⟩,
  ⟨none, .store 9, [.t 4, .t 28], none⟩,
  ⟨some 5, .move, [.c (.val (.int .i64 1))], none⟩] [] [] [4, 5] true [] []
noncomputable def c56_14 : ACode := .seq c56_15 .ret
noncomputable def c56_13 : ACode := .cond (.t 27) c56_14 .skip
noncomputable def c56_11 : ACode := .seq c56_12 c56_13
noncomputable def c56_17 : ACode := .region false [⟨some 29, .load true 2, [.t 3], none⟩,
  ⟨some 30, .addr 5, [.t 2], none⟩,
  ⟨none, .store 2, [.t 30, .t 29], none⟩] [] [] [2, 4] true [] []
noncomputable def c56_19 : ACode := .region false [⟨some 31, .addr 8, [.t 2], none⟩,
  ⟨none, .store 1, [.t 31, .c (.val (.int .i64 0))], none⟩] [] [] [2, 4] true [] []
noncomputable def c56_21 : ACode := .region false [⟨some 32, .load true 9, [.t 2], none⟩,
  ⟨none, .store 9, [.t 4, .t 32], none⟩,
  ⟨some 5, .move, [.c (.val (.int .i64 0))], none⟩] [] [] [4, 5] true [] []
noncomputable def c56_20 : ACode := .seq c56_21 .ret
noncomputable def c56_18 : ACode := .seq c56_19 c56_20
noncomputable def c56_16 : ACode := .seq c56_17 c56_18
noncomputable def c56_10 : ACode := .seq c56_11 c56_16
noncomputable def c56_2 : ACode := .seq c56_3 c56_10
noncomputable def c56_0 : ACode := .seq c56_1 c56_2
noncomputable def code56 : Code := (Try.f56.body).getD .skip
theorem c56_ok : compC Try.prog 33 code56 = some (strip c56_0) := by kernel_rfl
theorem res56_ok : Try.f56.results.toList.mapM (resC Try.prog) = some [(4, some (true, 9)), (5, none)] := by kernel_rfl
theorem to05_any (e : En) : ACall Try.prog 50 [EnA e] [] (Det (EnA e) []) := by
  refine ACall.startA c50_ok Try.func50 rfl Try.ntmps50 (by kernel_rfl) res50_ok rfl rfl rfl ?_; simp (maxSteps := 9999999) (disch := omega) only [go_sem]
  (repeat' (first | refine AWpA.seq ?_ | refine AWpA.block ?_ | (with_reducible refine CondP.tt ?_) | (with_reducible refine CondP.ff ?_) | refine AWpA.condv (by simp (maxSteps := 9999999) (disch := omega) only [go_sem]; rfl) ?_ | ((first | (apply AWpA.region; (focus (simp (maxSteps := 9999999) (disch := omega) only [go_sem]; rfl))) | (apply AWpA.draw [] follows; (focus (simp (maxSteps := 9999999) (disch := omega) only [go_sem]; rfl)); (focus (simp (maxSteps := 9999999) (disch := omega) only [go_sem]; first | done | trivial)); (focus (simp (maxSteps := 9999999) (disch := omega) only [go_sem]; rfl))) | (apply TailK.go; (focus (simp (maxSteps := 9999999) (disch := omega) only [go_sem]; rfl))) | refine AWpA.skip ?_ | refine AWpA.exit ?_ | refine AWpA.ret ?_ | (with_reducible refine ARoundsA.succ ?_) | ((first | refine Runs.kt (by assumption) (fun h9 => ?_) | refine Runs.kf (by assumption) (fun h9 => ?_) | refine Runs.nt (by assumption) (fun h9 => ?_) | refine Runs.nf (by assumption) (fun h9 => ?_) | refine CondP.ht (by assumption) (fun h9 => ?_) | refine CondP.hf (by assumption) (fun h9 => ?_) | refine CondP.nt (by assumption) (fun h9 => ?_) | refine CondP.nf (by assumption) (fun h9 => ?_)); (try simp only [h9]); clear h9) | ((first | (with_reducible apply CallG.plain1 [] (to04_any _)) | (with_reducible apply CallG.draw1 [] (to04_any _))); (focus ((try refine And.intro (leAs_of_eq rfl) ?_); (try refine And.intro (leOL_of_eq rfl) ?_); simp (maxSteps := 9999999) (disch := omega) only [go_sem]; first | done | (repeat' (first | rfl | (refine And.intro ?_ ?_))))); (focus (simp (maxSteps := 9999999) (disch := omega) only [go_sem]; rfl)))); (try simp (maxSteps := 9999999) (disch := omega) only [go_sem]); (try (refine And.intro ?_ ?_; (focus (first | omega | (simp only [go_sem]; done) | (simp; done) | (simp; omega) | assumption))))) | ((first | refine CondP.split (fun hif => ?_) (fun hif => ?_) | refine Runs.part (fun hif => ?_) (fun hif => ?_)) <;> ((try simp only [hif]); (try simp only [decide_eq_true_eq, decide_eq_false_iff_not, Bool.not_eq_true, Bool.not_eq_false, Bool.not_eq_true', Bool.not_eq_false', beq_iff_eq, bne_iff_ne, bne_eq_false_iff_eq, beq_eq_false_iff_ne, ne_eq, Bool.and_eq_true, Bool.or_eq_true, Bool.or_eq_false_iff] at hif); (try (have h9 : _ = true := hif; simp only [h9])); (try (have h9 : _ = false := hif; simp only [h9])); (try simp (maxSteps := 9999999) (disch := omega) only [go_sem]); (try (refine And.intro ?_ ?_; (focus (first | omega | (simp only [go_sem]; done) | (simp; done) | (simp; omega) | assumption)))); (try (exfalso; omega; done))))))
  all_goals (apply Ret.det []; (focus (first | exact .inl rfl | exact .inr rfl)); (focus (simp (maxSteps := 9999999) (disch := omega) only [go_sem]; rfl)); (simp (maxSteps := 9999999) (disch := omega) only [go_sem]; (try (repeat' (first | done | trivial | rfl | exact leAs_rfl _ | decide | (refine And.intro ?_ ?_) | (simp; done) | omega | (simp; decide))))))
theorem val_nil (v : ByteArray) : (v == ⟨#[]⟩) = !decide (0 < (v.size : Int)) := by
  cases v with
  | mk a =>
    by_cases h : a.size = 0
    · have : a = #[] := Array.eq_empty_of_size_eq_zero h
      subst this
      decide
    · have h1 : ((⟨a⟩ : ByteArray) == ⟨#[]⟩) = false := by
        show (a == #[]) = false
        rw [beq_eq_false_iff_ne]
        intro e
        rw [e] at h
        exact h rfl
      rw [h1]
      have : ((⟨a⟩ : ByteArray).size : Int) = a.size := rfl
      simp [this]; omega
set_option maxHeartbeats 20000000 in
theorem rcheck_any (e : En) : ACall Try.prog 49 [EnA e] [] (Det (I (checkI e)) []) := by
  refine ACall.startA c49_ok Try.func49 rfl Try.ntmps49 (by kernel_rfl) res49_ok rfl rfl rfl ?_; simp (maxSteps := 9999999) (disch := omega) only [go_sem]
  (repeat' (first | refine AWpA.seq ?_ | refine AWpA.block ?_ | (with_reducible refine CondP.tt ?_) | (with_reducible refine CondP.ff ?_) | refine AWpA.condv (by simp (maxSteps := 9999999) (disch := omega) only [go_sem]; rfl) ?_ | ((first | (apply AWpA.region; (focus (simp (maxSteps := 9999999) (disch := omega) only [go_sem]; rfl))) | (apply AWpA.draw [] follows; (focus (simp (maxSteps := 9999999) (disch := omega) only [go_sem]; rfl)); (focus (simp (maxSteps := 9999999) (disch := omega) only [go_sem]; first | done | trivial)); (focus (simp (maxSteps := 9999999) (disch := omega) only [go_sem]; rfl))) | (apply TailK.go; (focus (simp (maxSteps := 9999999) (disch := omega) only [go_sem]; rfl))) | refine AWpA.skip ?_ | refine AWpA.exit ?_ | refine AWpA.ret ?_ | (with_reducible refine ARoundsA.succ ?_) | ((first | refine Runs.kt (by assumption) (fun h9 => ?_) | refine Runs.kf (by assumption) (fun h9 => ?_) | refine Runs.nt (by assumption) (fun h9 => ?_) | refine Runs.nf (by assumption) (fun h9 => ?_) | refine CondP.ht (by assumption) (fun h9 => ?_) | refine CondP.hf (by assumption) (fun h9 => ?_) | refine CondP.nt (by assumption) (fun h9 => ?_) | refine CondP.nf (by assumption) (fun h9 => ?_)); (try simp only [h9]); clear h9) | ((first | (with_reducible apply CallG.plain1 [] (rgood_any _)) | (with_reducible apply CallG.plain1 [] (later_any _ _)) | (with_reducible apply CallG.draw1 [] (rgood_any _)) | (with_reducible apply CallG.draw1 [] (later_any _ _))); (focus ((try refine And.intro (leAs_of_eq rfl) ?_); (try refine And.intro (leOL_of_eq rfl) ?_); simp (maxSteps := 9999999) (disch := omega) only [go_sem]; first | done | (repeat' (first | rfl | (refine And.intro ?_ ?_))))); (focus (simp (maxSteps := 9999999) (disch := omega) only [go_sem]; rfl)))); (try simp (maxSteps := 9999999) (disch := omega) only [go_sem]); (try (refine And.intro ?_ ?_; (focus (first | omega | (simp only [go_sem]; done) | (simp; done) | (simp; omega) | assumption))))) | ((first | refine CondP.split (fun hif => ?_) (fun hif => ?_) | refine Runs.part (fun hif => ?_) (fun hif => ?_)) <;> ((try simp only [hif]); (try simp only [decide_eq_true_eq, decide_eq_false_iff_not, Bool.not_eq_true, Bool.not_eq_false, Bool.not_eq_true', Bool.not_eq_false', beq_iff_eq, bne_iff_ne, bne_eq_false_iff_eq, beq_eq_false_iff_ne, ne_eq, Bool.and_eq_true, Bool.or_eq_true, Bool.or_eq_false_iff] at hif); (try (have h9 : _ = true := hif; simp only [h9])); (try (have h9 : _ = false := hif; simp only [h9])); (try simp (maxSteps := 9999999) (disch := omega) only [go_sem]); (try (refine And.intro ?_ ?_; (focus (first | omega | (simp only [go_sem]; done) | (simp; done) | (simp; omega) | assumption)))); (try (exfalso; omega; done))))))
  all_goals
    (apply Ret.det []; (focus (first | exact .inl rfl | exact .inr rfl)); (focus (simp (maxSteps := 9999999) (disch := omega) only [go_sem]; rfl)); (simp (maxSteps := 9999999) (disch := omega) only [go_sem]; (try (repeat' (first | done | trivial | rfl | exact leAs_rfl _ | decide | (refine And.intro ?_ ?_) | (simp; done) | omega | (simp; decide))))))
    all_goals (simp_all [checkI, shapeB, val_nil, keptB, plainB, eqSt]; try omega)
abbrev putEn (key val : ByteArray) (s : St) : En := ⟨key, val, false, s, s, 0, 0⟩
theorem put_any (key val : ByteArray) (s : St) : ACall Try.prog 54 [Str key, Str val, StA s] [] (Det (.tup [EnA (okEn (putEn key val s)), I (checkI (putEn key val s))]) []) := by
  refine ACall.startA c54_ok Try.func54 rfl Try.ntmps54 (by kernel_rfl) res54_ok rfl rfl rfl ?_; simp (maxSteps := 9999999) (disch := omega) only [go_sem]
  (repeat' (first | refine AWpA.seq ?_ | refine AWpA.block ?_ | (with_reducible refine CondP.tt ?_) | (with_reducible refine CondP.ff ?_) | refine AWpA.condv (by simp (maxSteps := 9999999) (disch := omega) only [go_sem]; rfl) ?_ | ((first | (apply AWpA.region; (focus (simp (maxSteps := 9999999) (disch := omega) only [go_sem]; rfl))) | (apply AWpA.draw [] follows; (focus (simp (maxSteps := 9999999) (disch := omega) only [go_sem]; rfl)); (focus (simp (maxSteps := 9999999) (disch := omega) only [go_sem]; first | done | trivial)); (focus (simp (maxSteps := 9999999) (disch := omega) only [go_sem]; rfl))) | (apply TailK.go; (focus (simp (maxSteps := 9999999) (disch := omega) only [go_sem]; rfl))) | refine AWpA.skip ?_ | refine AWpA.exit ?_ | refine AWpA.ret ?_ | (with_reducible refine ARoundsA.succ ?_) | ((first | refine Runs.kt (by assumption) (fun h9 => ?_) | refine Runs.kf (by assumption) (fun h9 => ?_) | refine Runs.nt (by assumption) (fun h9 => ?_) | refine Runs.nf (by assumption) (fun h9 => ?_) | refine CondP.ht (by assumption) (fun h9 => ?_) | refine CondP.hf (by assumption) (fun h9 => ?_) | refine CondP.nt (by assumption) (fun h9 => ?_) | refine CondP.nf (by assumption) (fun h9 => ?_)); (try simp only [h9]); clear h9) | ((first | (with_reducible apply CallG.plain1 [] (checked_any (putEn key val s))) | (with_reducible apply CallG.draw1 [] (checked_any (putEn key val s)))); (focus ((try refine And.intro (leAs_of_eq rfl) ?_); (try refine And.intro (leOL_of_eq rfl) ?_); simp (maxSteps := 9999999) (disch := omega) only [go_sem]; first | done | (repeat' (first | rfl | (refine And.intro ?_ ?_))))); (focus (simp (maxSteps := 9999999) (disch := omega) only [go_sem]; rfl)))); (try simp (maxSteps := 9999999) (disch := omega) only [go_sem]); (try (refine And.intro ?_ ?_; (focus (first | omega | (simp only [go_sem]; done) | (simp; done) | (simp; omega) | assumption))))) | ((first | refine CondP.split (fun hif => ?_) (fun hif => ?_) | refine Runs.part (fun hif => ?_) (fun hif => ?_)) <;> ((try simp only [hif]); (try simp only [decide_eq_true_eq, decide_eq_false_iff_not, Bool.not_eq_true, Bool.not_eq_false, Bool.not_eq_true', Bool.not_eq_false', beq_iff_eq, bne_iff_ne, bne_eq_false_iff_eq, beq_eq_false_iff_ne, ne_eq, Bool.and_eq_true, Bool.or_eq_true, Bool.or_eq_false_iff] at hif); (try (have h9 : _ = true := hif; simp only [h9])); (try (have h9 : _ = false := hif; simp only [h9])); (try simp (maxSteps := 9999999) (disch := omega) only [go_sem]); (try (refine And.intro ?_ ?_; (focus (first | omega | (simp only [go_sem]; done) | (simp; done) | (simp; omega) | assumption)))); (try (exfalso; omega; done))))))
  (apply Ret.det []; (focus (first | exact .inl rfl | exact .inr rfl)); (focus (simp (maxSteps := 9999999) (disch := omega) only [go_sem]; rfl)); (simp (maxSteps := 9999999) (disch := omega) only [go_sem]; (try (repeat' (first | done | trivial | rfl | exact leAs_rfl _ | decide | (refine And.intro ?_ ?_) | (simp; done) | omega | (simp; decide))))))
def wakeI (e : En) (a : St) : Int := if checkI e = 0 then (if e.dead = true then (if goodB a = true then (if laterB a e.act = true then 0 else 1) else 1) else 1) else checkI e
def wakeE (e : En) (a : St) : En := if wakeI e a = 0 then { e with act := a, age := 0 } else noEn
theorem wake_any (e : En) (a : St) : ACall Try.prog 46 [EnA e, StA a] [] (Det (.tup [EnA (wakeE e a), I (wakeI e a)]) []) := by
  refine ACall.startA c46_ok Try.func46 rfl Try.ntmps46 (by kernel_rfl) res46_ok rfl rfl rfl ?_; simp (maxSteps := 9999999) (disch := omega) only [go_sem]
  (repeat' (first | refine AWpA.seq ?_ | refine AWpA.block ?_ | (with_reducible refine CondP.tt ?_) | (with_reducible refine CondP.ff ?_) | refine AWpA.condv (by simp (maxSteps := 9999999) (disch := omega) only [go_sem, cmpS_le]; rfl) ?_ | ((first | (apply AWpA.region; (focus (simp (maxSteps := 9999999) (disch := omega) only [go_sem, cmpS_le]; rfl))) | (apply AWpA.draw [] follows; (focus (simp (maxSteps := 9999999) (disch := omega) only [go_sem, cmpS_le]; rfl)); (focus (simp (maxSteps := 9999999) (disch := omega) only [go_sem, cmpS_le]; first | done | trivial)); (focus (simp (maxSteps := 9999999) (disch := omega) only [go_sem, cmpS_le]; rfl))) | (apply TailK.go; (focus (simp (maxSteps := 9999999) (disch := omega) only [go_sem, cmpS_le]; rfl))) | refine AWpA.skip ?_ | refine AWpA.exit ?_ | refine AWpA.ret ?_ | (with_reducible refine ARoundsA.succ ?_) | ((first | refine Runs.kt (by assumption) (fun h9 => ?_) | refine Runs.kf (by assumption) (fun h9 => ?_) | refine Runs.nt (by assumption) (fun h9 => ?_) | refine Runs.nf (by assumption) (fun h9 => ?_) | refine CondP.ht (by assumption) (fun h9 => ?_) | refine CondP.hf (by assumption) (fun h9 => ?_) | refine CondP.nt (by assumption) (fun h9 => ?_) | refine CondP.nf (by assumption) (fun h9 => ?_)); (try simp only [h9]); clear h9) | ((first | (with_reducible apply CallG.plain1 [] (check_any e)) | (with_reducible apply CallG.plain1 [] (good_any a)) | (with_reducible apply CallG.plain1 [] (compare_any a e.act)) | (with_reducible apply CallG.draw1 [] (check_any e)) | (with_reducible apply CallG.draw1 [] (good_any a)) | (with_reducible apply CallG.draw1 [] (compare_any a e.act))); (focus ((try refine And.intro (leAs_of_eq rfl) ?_); (try refine And.intro (leOL_of_eq rfl) ?_); simp (maxSteps := 9999999) (disch := omega) only [go_sem, cmpS_le]; first | done | (repeat' (first | rfl | (refine And.intro ?_ ?_))))); (focus (simp (maxSteps := 9999999) (disch := omega) only [go_sem, cmpS_le]; rfl)))); (try simp (maxSteps := 9999999) (disch := omega) only [go_sem, cmpS_le]); (try (refine And.intro ?_ ?_; (focus (first | omega | (simp only [go_sem]; done) | (simp; done) | (simp; omega) | assumption))))) | ((first | refine CondP.split (fun hif => ?_) (fun hif => ?_) | refine Runs.part (fun hif => ?_) (fun hif => ?_)) <;> ((try simp only [hif]); (try simp only [decide_eq_true_eq, decide_eq_false_iff_not, Bool.not_eq_true, Bool.not_eq_false, Bool.not_eq_true', Bool.not_eq_false', beq_iff_eq, bne_iff_ne, bne_eq_false_iff_eq, beq_eq_false_iff_ne, ne_eq, Bool.and_eq_true, Bool.or_eq_true, Bool.or_eq_false_iff] at hif); (try (have h9 : _ = true := hif; simp only [h9])); (try (have h9 : _ = false := hif; simp only [h9])); (try simp (maxSteps := 9999999) (disch := omega) only [go_sem, cmpS_le]); (try (refine And.intro ?_ ?_; (focus (first | omega | (simp only [go_sem]; done) | (simp; done) | (simp; omega) | assumption)))); (try (exfalso; omega; done))))))
  all_goals
    (apply Ret.det []; (focus (first | exact .inl rfl | exact .inr rfl)); (focus (simp (maxSteps := 9999999) (disch := omega) only [go_sem]; rfl)); (simp (maxSteps := 9999999) (disch := omega) only [go_sem]; (try (repeat' (first | done | trivial | rfl | exact leAs_rfl _ | decide | (refine And.intro ?_ ?_) | (simp; done) | omega | (simp; decide))))))
    all_goals (simp_all [wakeE, wakeI])
theorem rwake_any (e : En) (a : St) : ACall Try.prog 56 [EnA e, StA a] [] (Det (.tup [EnA (wakeE e a), I (wakeI e a)]) []) := by
  refine ACall.startA c56_ok Try.func56 rfl Try.ntmps56 (by kernel_rfl) res56_ok rfl rfl rfl ?_; simp (maxSteps := 9999999) (disch := omega) only [go_sem]
  (repeat' (first | refine AWpA.seq ?_ | refine AWpA.block ?_ | (with_reducible refine CondP.tt ?_) | (with_reducible refine CondP.ff ?_) | refine AWpA.condv (by simp (maxSteps := 9999999) (disch := omega) only [go_sem]; rfl) ?_ | ((first | (apply AWpA.region; (focus (simp (maxSteps := 9999999) (disch := omega) only [go_sem]; rfl))) | (apply AWpA.draw [] follows; (focus (simp (maxSteps := 9999999) (disch := omega) only [go_sem]; rfl)); (focus (simp (maxSteps := 9999999) (disch := omega) only [go_sem]; first | done | trivial)); (focus (simp (maxSteps := 9999999) (disch := omega) only [go_sem]; rfl))) | (apply TailK.go; (focus (simp (maxSteps := 9999999) (disch := omega) only [go_sem]; rfl))) | refine AWpA.skip ?_ | refine AWpA.exit ?_ | refine AWpA.ret ?_ | (with_reducible refine ARoundsA.succ ?_) | ((first | refine Runs.kt (by assumption) (fun h9 => ?_) | refine Runs.kf (by assumption) (fun h9 => ?_) | refine Runs.nt (by assumption) (fun h9 => ?_) | refine Runs.nf (by assumption) (fun h9 => ?_) | refine CondP.ht (by assumption) (fun h9 => ?_) | refine CondP.hf (by assumption) (fun h9 => ?_) | refine CondP.nt (by assumption) (fun h9 => ?_) | refine CondP.nf (by assumption) (fun h9 => ?_)); (try simp only [h9]); clear h9) | ((first | (with_reducible apply CallG.plain1 [] (rcheck_any e)) | (with_reducible apply CallG.plain1 [] (rgood_any a)) | (with_reducible apply CallG.plain1 [] (later_any a e.act)) | (with_reducible apply CallG.draw1 [] (rcheck_any e)) | (with_reducible apply CallG.draw1 [] (rgood_any a)) | (with_reducible apply CallG.draw1 [] (later_any a e.act))); (focus ((try refine And.intro (leAs_of_eq rfl) ?_); (try refine And.intro (leOL_of_eq rfl) ?_); simp (maxSteps := 9999999) (disch := omega) only [go_sem]; first | done | (repeat' (first | rfl | (refine And.intro ?_ ?_))))); (focus (simp (maxSteps := 9999999) (disch := omega) only [go_sem]; rfl)))); (try simp (maxSteps := 9999999) (disch := omega) only [go_sem]); (try (refine And.intro ?_ ?_; (focus (first | omega | (simp only [go_sem]; done) | (simp; done) | (simp; omega) | assumption))))) | ((first | refine CondP.split (fun hif => ?_) (fun hif => ?_) | refine Runs.part (fun hif => ?_) (fun hif => ?_)) <;> ((try simp only [hif]); (try simp only [decide_eq_true_eq, decide_eq_false_iff_not, Bool.not_eq_true, Bool.not_eq_false, Bool.not_eq_true', Bool.not_eq_false', beq_iff_eq, bne_iff_ne, bne_eq_false_iff_eq, beq_eq_false_iff_ne, ne_eq, Bool.and_eq_true, Bool.or_eq_true, Bool.or_eq_false_iff] at hif); (try (have h9 : _ = true := hif; simp only [h9])); (try (have h9 : _ = false := hif; simp only [h9])); (try simp (maxSteps := 9999999) (disch := omega) only [go_sem]); (try (refine And.intro ?_ ?_; (focus (first | omega | (simp only [go_sem]; done) | (simp; done) | (simp; omega) | assumption)))); (try (exfalso; omega; done))))))
  all_goals
    (apply Ret.det []; (focus (first | exact .inl rfl | exact .inr rfl)); (focus (simp (maxSteps := 9999999) (disch := omega) only [go_sem]; rfl)); (simp (maxSteps := 9999999) (disch := omega) only [go_sem]; (try (repeat' (first | done | trivial | rfl | exact leAs_rfl _ | decide | (refine And.intro ?_ ?_) | (simp; done) | omega | (simp; decide))))))
    all_goals (simp_all [wakeE, wakeI])
end Go.Proofs.Yteggjhihpjjloaa
