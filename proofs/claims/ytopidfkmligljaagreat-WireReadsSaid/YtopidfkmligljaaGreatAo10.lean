/- Contracts: a reader's numbers, flags, texts; the document's cursor. -/
import Derived.Test.YtopidfkmligljaaGreatEg5
import Derived.Test.YtopidfkmligljaaGreatAo9
namespace Go.Proofs.YtopidfkmligljaaGreat
noncomputable section
set_option linter.unusedSimpArgs false
set_option linter.unusedVariables false
set_option maxHeartbeats 4000000
open Go Go.Am
set_option maxRecDepth 100000
/- quidnunc/quidnuncref01.Width -/
def c129_1 : ACode := .region false [⟨some 2, .move, [.c (.val (.bool false))], none⟩] [] [] [0] false [] []
def c129_3 : ACode := .region false [⟨some 3, .move, [.t 0], none⟩,
  ⟨some 4, .bin .geq, [.t 3, .c (.val (.int .i64 1))], none⟩,
  ⟨some 5, .move, [.t 4], none⟩,
  ⟨some 6, .move, [.t 0], some (some 5, true)⟩,
  ⟨some 7, .bin .leq, [.t 6, .c (.val (.int .i64 8))], some (some 5, true)⟩,
  ⟨some 8, .pick, [.t 5, .t 7, .c (.val (.bool false))], none⟩,
  ⟨some 2, .move, [.t 8], none⟩] [] [] [2] false [] []
def c129_2 : ACode := .seq c129_3 .ret
def c129_0 : ACode := .seq c129_1 c129_2
def code129 : Code := (Tryz.f129.body).getD .skip
theorem c129_ok : compC Tryz.prog 9 code129 = some (strip c129_0) := by kernel_rfl
theorem res129_ok : Tryz.f129.results.toList.mapM (resC Tryz.prog) = some [(2, none)] := by kernel_rfl
/- quidnunc/quidnuncref01.Value -/
def c131_1 : ACode := .region false [⟨some 2, .move, [.c (.val (.int .u64 0))], none⟩] [] [] [0] false [] []
def c131_3 : ACode := .region false [⟨some 3, .move, [.c (.val (.int .u64 0))], none⟩] [] [] [0, 3] false [] []
def c131_6 : ACode := .region false [⟨some 5, .move, [.t 0], none⟩,
  ⟨some 6, .len, [.t 5], none⟩,
  ⟨some 7, .bin .sub, [.t 6, .c (.val (.int .i64 1))], none⟩,
  ⟨some 4, .move, [.t 7], none⟩] [] [] [0, 3, 4] false [] []
def c131_11 : ACode := .region false [⟨some 8, .move, [.t 4], none⟩,
  ⟨some 9, .bin .geq, [.t 8, .c (.val (.int .i64 0))], none⟩] [] [] [0, 3, 4, 9] false [] []
def c131_12 : ACode := .cond (.t 9) .skip (.exit 0)
def c131_10 : ACode := .seq c131_11 c131_12
def c131_15 : ACode := .region false [⟨some 12, .move, [.t 3], none⟩,
  ⟨some 13, .bin .mul, [.c (.val (.int .u64 256)), .t 12], none⟩,
  ⟨some 14, .move, [.t 0], none⟩,
  ⟨some 15, .move, [.t 4], none⟩,
  ⟨some 16, .ixS 1, [.t 14, .t 15], none⟩,
  ⟨some 17, .load false 1, [.t 16], none⟩,
  ⟨some 18, .conv .u64, [.t 17], none⟩,
  ⟨some 19, .bin .add, [.t 13, .t 18], none⟩,
  ⟨some 3, .move, [.t 19], none⟩] [] [] [0, 3, 4] false [] []
def c131_14 : ACode := .block 1 c131_15
def c131_16 : ACode := .region false [⟨some 10, .move, [.t 4], none⟩,
  ⟨some 11, .bin .sub, [.t 10, .c (.val (.int .i64 1))], none⟩,
  ⟨some 4, .move, [.t 11], none⟩] [] [] [0, 3, 4] false [] []
def c131_13 : ACode := .seq c131_14 c131_16
def c131_9 : ACode := .seq c131_10 c131_13
def c131_8 : ACode := .loop c131_9
def c131_7 : ACode := .block 0 c131_8
def c131_5 : ACode := .seq c131_6 c131_7
def c131_18 : ACode := .region false [⟨some 20, .move, [.t 3], none⟩,
  ⟨some 2, .move, [.t 20], none⟩] [] [] [2] false [] []
def c131_17 : ACode := .seq c131_18 .ret
def c131_4 : ACode := .seq c131_5 c131_17
def c131_2 : ACode := .seq c131_3 c131_4
def c131_0 : ACode := .seq c131_1 c131_2
def code131 : Code := (Tryz.f131.body).getD .skip
theorem c131_ok : compC Tryz.prog 21 code131 = some (strip c131_0) := by kernel_rfl
theorem res131_ok : Tryz.f131.results.toList.mapM (resC Tryz.prog) = some [(2, none)] := by kernel_rfl
/- quidnunc/quidnuncref01.fail -/
def c85_1 : ACode := .region false [⟨some 2, .box 0, [.t 0], none⟩,
  ⟨some 4, .alloc [(.slice none 0 0), (.int .i64 0), (.int .i64 0)], [], none⟩] [] [] [1, 2, 4] true [] []
def c85_4 : ACode := .region false [⟨some 5, .addr 2, [.t 2], none⟩,
  ⟨some 6, .load false 1, [.t 5], none⟩,
  ⟨some 7, .bin .eql, [.t 6, .c (.val (.int .i64 0))], none⟩] [] [] [1, 2, 4, 7] false [] []
def c85_6 : ACode := .region false [⟨some 8, .move, [.t 1], none⟩,
  ⟨some 9, .addr 2, [.t 2], none⟩,
  ⟨none, .store 1, [.t 9, .t 8], none⟩] [] [] [2, 4] true [] []
def c85_5 : ACode := .cond (.t 7) c85_6 .skip
def c85_3 : ACode := .seq c85_4 c85_5
def c85_8 : ACode := .region false [⟨some 10, .load true 3, [.t 2], none⟩,
  ⟨none, .store 3, [.t 4, .t 10], none⟩] [] [] [4] true [] []
def c85_7 : ACode := .seq c85_8 .ret
def c85_2 : ACode := .seq c85_3 c85_7
def c85_0 : ACode := .seq c85_1 c85_2
def code85 : Code := (Tryz.f85.body).getD .skip
theorem c85_ok : compC Tryz.prog 11 code85 = some (strip c85_0) := by kernel_rfl
theorem res85_ok : Tryz.f85.results.toList.mapM (resC Tryz.prog) = some [(4, some (true, 3))] := by kernel_rfl
/- quidnunc/quidnuncref01.Raw -/
def c130_1 : ACode := .region false [⟨some 2, .box 0, [.t 0], none⟩,
  ⟨some 4, .alloc [(.slice none 0 0), (.int .i64 0), (.int .i64 0)], [], none⟩,
  ⟨some 5, .move, [.c (.val (.slice none 0 0))], none⟩] [] [] [1, 2, 4] true [] []
def c130_4 : ACode := .region false [⟨some 7, .move, [.t 1], none⟩,
  ⟨some 8, .bin .lss, [.t 7, .c (.val (.int .i64 0))], none⟩] [] [] [1, 2, 4, 8] false [] []
def c130_7 : ACode := .region false [⟨some 9, .load true 3, [.t 2], none⟩,
  ⟨some 10, .call 85, [.t 9, .c (.val (.int .i64 1))], none⟩,
  ⟨none, .store 3, [.t 4, .t 10], none⟩,
  ⟨some 5, .move, [.c (.val (.slice none 0 0))], none⟩] [] [] [4, 5] true [] []
def c130_6 : ACode := .seq c130_7 .ret
def c130_5 : ACode := .cond (.t 8) c130_6 .skip
def c130_3 : ACode := .seq c130_4 c130_5
def c130_10 : ACode := .region false [⟨some 11, .move, [.t 1], none⟩,
  ⟨some 12, .addr 0, [.t 2], none⟩,
  ⟨some 13, .load false 1, [.t 12], none⟩,
  ⟨some 14, .len, [.t 13], none⟩,
  ⟨some 15, .addr 1, [.t 2], none⟩,
  ⟨some 16, .load false 1, [.t 15], none⟩,
  ⟨some 17, .bin .sub, [.t 14, .t 16], none⟩,
  ⟨some 18, .bin .gtr, [.t 11, .t 17], none⟩] [] [] [1, 2, 4, 18] false [] []
def c130_13 : ACode := .region false [⟨some 19, .load true 3, [.t 2], none⟩,
  ⟨some 20, .call 85, [.t 19, .c (.val (.int .i64 6))], none⟩,
  ⟨none, .store 3, [.t 4, .t 20], none⟩,
  ⟨some 5, .move, [.c (.val (.slice none 0 0))], none⟩] [] [] [4, 5] true [] []
def c130_12 : ACode := .seq c130_13 .ret
def c130_11 : ACode := .cond (.t 18) c130_12 .skip
def c130_9 : ACode := .seq c130_10 c130_11
def c130_16 : ACode := .region false [⟨some 21, .addr 2, [.t 2], none⟩,
  ⟨some 22, .load false 1, [.t 21], none⟩,
  ⟨some 23, .bin .neq, [.t 22, .c (.val (.int .i64 0))], none⟩] [] [] [1, 2, 4, 23] false [] []
def c130_19 : ACode := .region false [⟨some 24, .load true 3, [.t 2], none⟩,
  ⟨none, .store 3, [.t 4, .t 24], none⟩,
  ⟨some 5, .move, [.c (.val (.slice none 0 0))], none⟩] [] [] [4, 5] true [] []
def c130_18 : ACode := .seq c130_19 .ret
def c130_17 : ACode := .cond (.t 23) c130_18 .skip
def c130_15 : ACode := .seq c130_16 c130_17
def c130_21 : ACode := .region false [⟨some 25, .addr 0, [.t 2], none⟩,
  ⟨some 26, .load false 1, [.t 25], none⟩,
  ⟨some 27, .addr 1, [.t 2], none⟩,
  ⟨some 28, .load false 1, [.t 27], none⟩,
  ⟨some 29, .addr 1, [.t 2], none⟩,
  ⟨some 30, .load false 1, [.t 29], none⟩,
  ⟨some 31, .move, [.t 1], none⟩,
  ⟨some 32, .bin .add, [.t 30, .t 31], none⟩,
  ⟨some 33, .slS 1 true true false, [.t 26, .t 28, .t 32], none⟩,
  ⟨some 6, .move, [.t 33], none⟩] [] [] [1, 2, 4, 6] false [] []
def c130_23 : ACode := .region false [⟨some 34, .addr 1, [.t 2], none⟩,
  ⟨some 35, .load false 1, [.t 34], none⟩,
  ⟨some 36, .move, [.t 1], none⟩,
  ⟨some 37, .bin .add, [.t 35, .t 36], none⟩,
  ⟨some 38, .addr 1, [.t 2], none⟩,
  ⟨none, .store 1, [.t 38, .t 37], none⟩] [] [] [2, 4, 6] true [] []
def c130_25 : ACode := .region false [⟨some 39, .load true 3, [.t 2], none⟩,
  ⟨some 40, .move, [.t 6], none⟩,
  ⟨none, .store 3, [.t 4, .t 39], none⟩,
  ⟨some 5, .move, [.t 40], none⟩] [] [] [4, 5] true [] []
def c130_24 : ACode := .seq c130_25 .ret
def c130_22 : ACode := .seq c130_23 c130_24
def c130_20 : ACode := .seq c130_21 c130_22
def c130_14 : ACode := .seq c130_15 c130_20
def c130_8 : ACode := .seq c130_9 c130_14
def c130_2 : ACode := .seq c130_3 c130_8
def c130_0 : ACode := .seq c130_1 c130_2
def code130 : Code := (Tryz.f130.body).getD .skip
theorem c130_ok : compC Tryz.prog 41 code130 = some (strip c130_0) := by kernel_rfl
theorem res130_ok : Tryz.f130.results.toList.mapM (resC Tryz.prog) = some [(4, some (true, 3)), (5, none)] := by kernel_rfl
/- quidnunc/quidnuncref01.Take -/
def c80_1 : ACode := .region false [⟨some 2, .box 0, [.t 0], none⟩,
  ⟨some 4, .alloc [(.slice none 0 0), (.int .i64 0), (.int .i64 0)], [], none⟩,
  ⟨some 5, .move, [.c (.val (.int .u64 0))], none⟩] [] [] [1, 2, 4] true [] []
def c80_4 : ACode := .region false [⟨some 8, .move, [.t 1], none⟩,
  ⟨some 9, .call 129, [.t 8], none⟩,
  ⟨some 10, .un .not, [.t 9], none⟩] [] [] [1, 2, 4, 10] true [] []
def c80_7 : ACode := .region false [⟨some 11, .load true 3, [.t 2], none⟩,
  ⟨some 12, .call 85, [.t 11, .c (.val (.int .i64 1))], none⟩,
  ⟨none, .store 3, [.t 4, .t 12], none⟩,
  ⟨some 5, .move, [.c (.val (.int .u64 0))], none⟩] [] [] [4, 5] true [] []
def c80_6 : ACode := .seq c80_7 .ret
def c80_5 : ACode := .cond (.t 10) c80_6 .skip
def c80_3 : ACode := .seq c80_4 c80_5
def c80_9 : ACode := .region false [⟨some 14, .load true 3, [.t 2], none⟩,
  ⟨some 15, .move, [.t 1], none⟩,
  ⟨some 16, .call 130, [.t 14, .t 15], none⟩,
  ⟨some 13, .move, [.t 16], none⟩,
  ⟨some 17, .ext 0, [.t 13], none⟩,
  ⟨some 18, .ext 1, [.t 13], none⟩,
  ⟨some 6, .alloc [(.slice none 0 0), (.int .i64 0), (.int .i64 0)], [], none⟩,
  ⟨none, .store 3, [.t 6, .t 17], none⟩,
  ⟨some 7, .move, [.t 18], none⟩] [] [] [4, 6, 7] true [] []
def c80_11 : ACode := .region true [⟨some 19, .load true 3, [.t 6], none⟩,
  ⟨some 20, .move, [.t 7], none⟩,
  ⟨some 21, .call 131, [.t 20], none⟩,
  ⟨none, .store 3, [.t 4, .t 19], none⟩,
  ⟨some 5, .move, [.t 21], none⟩] [] [] [4, 5] true [4] []
def c80_10 : ACode := .seq c80_11 .ret
def c80_8 : ACode := .seq c80_9 c80_10
def c80_2 : ACode := .seq c80_3 c80_8
def c80_0 : ACode := .seq c80_1 c80_2
def code80 : Code := (Tryz.f80.body).getD .skip
theorem c80_ok : compC Tryz.prog 22 code80 = some (strip c80_0) := by kernel_rfl
theorem res80_ok : Tryz.f80.results.toList.mapM (resC Tryz.prog) = some [(4, some (true, 3)), (5, none)] := by kernel_rfl
/- quidnunc/quidnuncref01.Flag -/
def c81_1 : ACode := .region false [⟨some 1, .box 0, [.t 0], none⟩,
  ⟨some 2, .alloc [(.slice none 0 0), (.int .i64 0), (.int .i64 0)], [], none⟩,
  ⟨some 3, .move, [.c (.val (.bool false))], none⟩] [] [] [1, 2] true [] []
def c81_3 : ACode := .region false [⟨some 7, .load true 3, [.t 1], none⟩,
  ⟨some 8, .call 130, [.t 7, .c (.val (.int .i64 1))], none⟩,
  ⟨some 6, .move, [.t 8], none⟩,
  ⟨some 9, .ext 0, [.t 6], none⟩,
  ⟨some 10, .ext 1, [.t 6], none⟩,
  ⟨some 4, .alloc [(.slice none 0 0), (.int .i64 0), (.int .i64 0)], [], none⟩,
  ⟨none, .store 3, [.t 4, .t 9], none⟩,
  ⟨some 5, .move, [.t 10], none⟩] [] [] [1, 2, 4, 5] true [] []
def c81_6 : ACode := .region false [⟨some 11, .addr 2, [.t 4], none⟩,
  ⟨some 12, .load false 1, [.t 11], none⟩,
  ⟨some 13, .bin .neq, [.t 12, .c (.val (.int .i64 0))], none⟩] [] [] [1, 2, 4, 5, 13] false [] []
def c81_9 : ACode := .region false [⟨some 14, .load true 3, [.t 4], none⟩,
  ⟨none, .store 3, [.t 2, .t 14], none⟩,
  ⟨some 3, .move, [.c (.val (.bool false))], none⟩] [] [] [2, 3] true [] []
def c81_8 : ACode := .seq c81_9 .ret
def c81_7 : ACode := .cond (.t 13) c81_8 .skip
def c81_5 : ACode := .seq c81_6 c81_7
def c81_12 : ACode := .region false [⟨some 15, .move, [.t 5], none⟩,
  ⟨some 16, .ixS 1, [.t 15, .c (.val (.int .i64 0))], none⟩,
  ⟨some 17, .load false 1, [.t 16], none⟩,
  ⟨some 18, .bin .gtr, [.t 17, .c (.val (.int .u8 1))], none⟩] [] [] [1, 2, 4, 5, 18] false [] []
def c81_15 : ACode := .region false [⟨some 19, .load true 3, [.t 1], none⟩,
  ⟨some 20, .call 85, [.t 19, .c (.val (.int .i64 4))], none⟩,
  ⟨none, .store 3, [.t 2, .t 20], none⟩,
  ⟨some 3, .move, [.c (.val (.bool false))], none⟩] [] [] [2, 3] true [] []
def c81_14 : ACode := .seq c81_15 .ret
def c81_13 : ACode := .cond (.t 18) c81_14 .skip
def c81_11 : ACode := .seq c81_12 c81_13
def c81_17 : ACode := .region true [⟨some 21, .load true 3, [.t 4], none⟩,
  ⟨some 22, .move, [.t 5], none⟩,
  ⟨some 23, .ixS 1, [.t 22, .c (.val (.int .i64 0))], none⟩,
  ⟨some 24, .load false 1, [.t 23], none⟩,
  ⟨some 25, .bin .eql, [.t 24, .c (.val (.int .u8 1))], none⟩,
  ⟨none, .store 3, [.t 2, .t 21], none⟩,
  ⟨some 3, .move, [.t 25], none⟩] [] [] [2, 3] true [2] []
def c81_16 : ACode := .seq c81_17 .ret
def c81_10 : ACode := .seq c81_11 c81_16
def c81_4 : ACode := .seq c81_5 c81_10
def c81_2 : ACode := .seq c81_3 c81_4
def c81_0 : ACode := .seq c81_1 c81_2
def code81 : Code := (Tryz.f81.body).getD .skip
theorem c81_ok : compC Tryz.prog 26 code81 = some (strip c81_0) := by kernel_rfl
theorem res81_ok : Tryz.f81.results.toList.mapM (resC Tryz.prog) = some [(2, some (true, 3)), (3, none)] := by kernel_rfl
/- quidnunc/quidnuncref01.Text -/
def c132_1 : ACode := .region false [⟨some 2, .box 0, [.t 0], none⟩,
  ⟨some 4, .alloc [(.slice none 0 0), (.int .i64 0), (.int .i64 0)], [], none⟩,
  ⟨some 5, .move, [.c (.val (.string ⟨#[]⟩))], none⟩] [] [] [1, 2, 4] true [] []
def c132_3 : ACode := .region false [⟨some 11, .load true 3, [.t 2], none⟩,
  ⟨some 12, .call 130, [.t 11, .c (.val (.int .i64 1))], none⟩,
  ⟨some 10, .move, [.t 12], none⟩,
  ⟨some 13, .ext 0, [.t 10], none⟩,
  ⟨some 14, .ext 1, [.t 10], none⟩,
  ⟨some 6, .alloc [(.slice none 0 0), (.int .i64 0), (.int .i64 0)], [], none⟩,
  ⟨none, .store 3, [.t 6, .t 13], none⟩,
  ⟨some 7, .move, [.t 14], none⟩] [] [] [1, 2, 4, 6, 7] true [] []
def c132_6 : ACode := .region false [⟨some 15, .addr 2, [.t 6], none⟩,
  ⟨some 16, .load false 1, [.t 15], none⟩,
  ⟨some 17, .bin .neq, [.t 16, .c (.val (.int .i64 0))], none⟩] [] [] [1, 2, 4, 6, 7, 17] false [] []
def c132_9 : ACode := .region false [⟨some 18, .load true 3, [.t 6], none⟩,
  ⟨none, .store 3, [.t 4, .t 18], none⟩,
  ⟨some 5, .move, [.c (.val (.string ⟨#[]⟩))], none⟩] [] [] [4, 5] true [] []
def c132_8 : ACode := .seq c132_9 .ret
def c132_7 : ACode := .cond (.t 17) c132_8 .skip
def c132_5 : ACode := .seq c132_6 c132_7
def c132_12 : ACode := .region false [⟨some 19, .move, [.t 7], none⟩,
  ⟨some 20, .ixS 1, [.t 19, .c (.val (.int .i64 0))], none⟩,
  ⟨some 21, .load false 1, [.t 20], none⟩,
  ⟨some 22, .conv .i64, [.t 21], none⟩,
  ⟨some 23, .move, [.t 1], none⟩,
  ⟨some 24, .bin .gtr, [.t 22, .t 23], none⟩] [] [] [2, 4, 6, 7, 24] false [] []
def c132_15 : ACode := .region false [⟨some 25, .load true 3, [.t 2], none⟩,
  ⟨some 26, .call 85, [.t 25, .c (.val (.int .i64 4))], none⟩,
  ⟨none, .store 3, [.t 4, .t 26], none⟩,
  ⟨some 5, .move, [.c (.val (.string ⟨#[]⟩))], none⟩] [] [] [4, 5] true [] []
def c132_14 : ACode := .seq c132_15 .ret
def c132_13 : ACode := .cond (.t 24) c132_14 .skip
def c132_11 : ACode := .seq c132_12 c132_13
def c132_17 : ACode := .region true [⟨some 28, .load true 3, [.t 6], none⟩,
  ⟨some 29, .move, [.t 7], none⟩,
  ⟨some 30, .ixS 1, [.t 29, .c (.val (.int .i64 0))], none⟩,
  ⟨some 31, .load false 1, [.t 30], none⟩,
  ⟨some 32, .conv .i64, [.t 31], none⟩,
  ⟨some 33, .call 130, [.t 28, .t 32], none⟩,
  ⟨some 27, .move, [.t 33], none⟩,
  ⟨some 34, .ext 0, [.t 27], none⟩,
  ⟨some 35, .ext 1, [.t 27], none⟩,
  ⟨some 8, .alloc [(.slice none 0 0), (.int .i64 0), (.int .i64 0)], [], none⟩,
  ⟨none, .store 3, [.t 8, .t 34], none⟩,
  ⟨some 9, .move, [.t 35], none⟩] [] [(5, 9)] [2, 4, 8, 9] true [] []
def c132_20 : ACode := .region false [⟨some 36, .addr 2, [.t 8], none⟩,
  ⟨some 37, .load false 1, [.t 36], none⟩,
  ⟨some 38, .bin .neq, [.t 37, .c (.val (.int .i64 0))], none⟩] [] [] [2, 4, 8, 9, 38] false [] []
def c132_23 : ACode := .region false [⟨some 39, .load true 3, [.t 2], none⟩,
  ⟨some 40, .addr 2, [.t 8], none⟩,
  ⟨some 41, .load false 1, [.t 40], none⟩,
  ⟨some 42, .call 85, [.t 39, .t 41], none⟩,
  ⟨none, .store 3, [.t 4, .t 42], none⟩,
  ⟨some 5, .move, [.c (.val (.string ⟨#[]⟩))], none⟩] [] [] [4, 5] true [] []
def c132_22 : ACode := .seq c132_23 .ret
def c132_21 : ACode := .cond (.t 38) c132_22 .skip
def c132_19 : ACode := .seq c132_20 c132_21
def c132_25 : ACode := .region true [⟨some 43, .load true 3, [.t 8], none⟩,
  ⟨some 44, .move, [.t 9], none⟩,
  ⟨some 45, .toStr, [.t 44], none⟩,
  ⟨none, .store 3, [.t 4, .t 43], none⟩,
  ⟨some 5, .move, [.t 45], none⟩] [] [] [4, 5] true [4] []
def c132_24 : ACode := .seq c132_25 .ret
def c132_18 : ACode := .seq c132_19 c132_24
def c132_16 : ACode := .seq c132_17 c132_18
def c132_10 : ACode := .seq c132_11 c132_16
def c132_4 : ACode := .seq c132_5 c132_10
def c132_2 : ACode := .seq c132_3 c132_4
def c132_0 : ACode := .seq c132_1 c132_2
def code132 : Code := (Tryz.f132.body).getD .skip
theorem c132_ok : compC Tryz.prog 46 code132 = some (strip c132_0) := by kernel_rfl
theorem res132_ok : Tryz.f132.results.toList.mapM (resC Tryz.prog) = some [(4, some (true, 3)), (5, none)] := by kernel_rfl
/- quidnunc/quidnuncref01.Done -/
def c30_1 : ACode := .region false [⟨some 1, .box 0, [.t 0], none⟩,
  ⟨some 2, .alloc [(.slice none 0 0), (.int .i64 0), (.int .i64 0)], [], none⟩] [] [] [1, 2] true [] []
def c30_4 : ACode := .region false [⟨some 3, .addr 1, [.t 1], none⟩,
  ⟨some 4, .load false 1, [.t 3], none⟩,
  ⟨some 5, .addr 0, [.t 1], none⟩,
  ⟨some 6, .load false 1, [.t 5], none⟩,
  ⟨some 7, .len, [.t 6], none⟩,
  ⟨some 8, .bin .lss, [.t 4, .t 7], none⟩] [] [] [1, 2, 8] false [] []
def c30_7 : ACode := .region false [⟨some 9, .load true 3, [.t 1], none⟩,
  ⟨some 10, .call 85, [.t 9, .c (.val (.int .i64 4))], none⟩,
  ⟨none, .store 3, [.t 2, .t 10], none⟩] [] [] [2] true [] []
def c30_6 : ACode := .seq c30_7 .ret
def c30_5 : ACode := .cond (.t 8) c30_6 .skip
def c30_3 : ACode := .seq c30_4 c30_5
def c30_9 : ACode := .region false [⟨some 11, .load true 3, [.t 1], none⟩,
  ⟨none, .store 3, [.t 2, .t 11], none⟩] [] [] [2] true [] []
def c30_8 : ACode := .seq c30_9 .ret
def c30_2 : ACode := .seq c30_3 c30_8
def c30_0 : ACode := .seq c30_1 c30_2
def code30 : Code := (Tryz.f30.body).getD .skip
theorem c30_ok : compC Tryz.prog 12 code30 = some (strip c30_0) := by kernel_rfl
theorem res30_ok : Tryz.f30.results.toList.mapM (resC Tryz.prog) = some [(2, some (true, 3))] := by kernel_rfl
/- (*quidnunc/octets.Reader).Number -/
def c70_1 : ACode := .region false [⟨some 4, .move, [.c (.val (.int .u64 0))], none⟩] [] [] [0, 1] false [] []
def c70_4 : ACode := .region false [⟨some 8, .move, [.t 1], none⟩,
  ⟨some 9, .bin .lss, [.t 8, .c (.val (.int .i64 1))], none⟩,
  ⟨some 10, .move, [.t 9], none⟩,
  ⟨some 11, .move, [.t 1], some (some 10, false)⟩,
  ⟨some 12, .bin .gtr, [.t 11, .c (.val (.int .i64 8))], some (some 10, false)⟩,
  ⟨some 13, .pick, [.t 10, .c (.val (.bool true)), .t 12], none⟩] [] [] [0, 1, 13] false [] []
def c70_7 : ACode := .region false [⟨some 14, .move, [.t 0], none⟩,
  ⟨some 15, .nilChk, [.t 14], none⟩,
  ⟨some 16, .addr 0, [.t 15], none⟩,
  ⟨some 17, .call 26, [.t 16, .c (.val (.int .i64 1))], none⟩] [] [] [] true [] []
def c70_9 : ACode := .region false [⟨some 4, .move, [.c (.val (.int .u64 0))], none⟩] [] [] [4] false [] []
def c70_8 : ACode := .seq c70_9 .ret
def c70_6 : ACode := .seq c70_7 c70_8
def c70_5 : ACode := .cond (.t 13) c70_6 .skip
def c70_3 : ACode := .seq c70_4 c70_5
def c70_12 : ACode := .region false [⟨some 18, .move, [.t 0], none⟩,
  ⟨some 19, .move, [.t 1], none⟩,
  ⟨some 20, .call 126, [.t 18, .t 19], none⟩,
  ⟨some 21, .un .not, [.t 20], none⟩] [] [] [0, 1, 21] true [] []
def c70_15 : ACode := .region false [⟨some 4, .move, [.c (.val (.int .u64 0))], none⟩] [] [] [4] false [] []
def c70_14 : ACode := .seq c70_15 .ret
def c70_13 : ACode := .cond (.t 21) c70_14 .skip
def c70_11 : ACode := .seq c70_12 c70_13
def c70_17 : ACode := .region false [⟨some 5, .move, [.c (.val (.int .u64 0))], none⟩] [] [] [0, 1, 5] false [] []
def c70_20 : ACode := .region false [⟨some 22, .move, [.t 0], none⟩,
  ⟨some 23, .move, [.t 1], none⟩,
  ⟨some 24, .call 127, [.t 22, .t 23], none⟩,
  ⟨some 25, .len, [.t 24], none⟩,
  ⟨some 26, .move, [.c (.val (.int .i64 0))], none⟩] [] [] [5, 24, 25, 26] true [] []
def c70_24 : ACode := .region false [⟨some 27, .bin .lss, [.t 26, .t 25], none⟩] [] [] [5, 24, 25, 26, 27] false [] []
def c70_26 : ACode := .cond (.t 27) .skip (.exit 0)
def c70_30 : ACode := .region false [⟨some 28, .move, [.t 26], none⟩,
  ⟨some 29, .ixS 1, [.t 24, .t 26], none⟩,
  ⟨some 30, .load false 1, [.t 29], none⟩,
  ⟨some 6, .move, [.t 28], none⟩,
  ⟨some 7, .move, [.t 30], none⟩] [] [] [5, 6, 7, 24, 25, 26] false [] []
def c70_31 : ACode := .region false [⟨some 31, .move, [.t 5], none⟩,
  ⟨some 32, .move, [.t 7], none⟩,
  ⟨some 33, .conv .u64, [.t 32], none⟩,
  ⟨some 34, .move, [.t 6], none⟩,
  ⟨some 35, .bin .mul, [.c (.val (.int .i64 8)), .t 34], none⟩,
  ⟨some 36, .bin .shl, [.t 33, .t 35], none⟩,
  ⟨some 37, .bin .or, [.t 31, .t 36], none⟩,
  ⟨some 5, .move, [.t 37], none⟩] [] [] [5, 24, 25, 26] false [] []
def c70_29 : ACode := .seq c70_30 c70_31
def c70_28 : ACode := .block 1 c70_29
def c70_32 : ACode := .region false [⟨some 38, .bin .add, [.t 26, .c (.val (.int .i64 1))], none⟩,
  ⟨some 26, .move, [.t 38], none⟩] [] [] [5, 24, 25, 26] false [] []
def c70_27 : ACode := .seq c70_28 c70_32
def c70_25 : ACode := .seq c70_26 c70_27
def c70_23 : ACode := .seq c70_24 c70_25
def c70_22 : ACode := .loop c70_23
def c70_21 : ACode := .block 0 c70_22
def c70_19 : ACode := .seq c70_20 c70_21
def c70_34 : ACode := .region false [⟨some 39, .move, [.t 5], none⟩,
  ⟨some 4, .move, [.t 39], none⟩] [] [] [4] false [] []
def c70_33 : ACode := .seq c70_34 .ret
def c70_18 : ACode := .seq c70_19 c70_33
def c70_16 : ACode := .seq c70_17 c70_18
def c70_10 : ACode := .seq c70_11 c70_16
def c70_2 : ACode := .seq c70_3 c70_10
def c70_0 : ACode := .seq c70_1 c70_2
def code70 : Code := (Tryz.f70.body).getD .skip
theorem c70_ok : compC Tryz.prog 40 code70 = some (strip c70_0) := by kernel_rfl
theorem res70_ok : Tryz.f70.results.toList.mapM (resC Tryz.prog) = some [(4, none)] := by kernel_rfl
/- (*quidnunc/octets.Reader).Flag -/
def c66_1 : ACode := .region false [⟨some 2, .move, [.c (.val (.bool false))], none⟩] [] [] [0] false [] []
def c66_4 : ACode := .region false [⟨some 3, .move, [.t 0], none⟩,
  ⟨some 4, .call 126, [.t 3, .c (.val (.int .i64 1))], none⟩,
  ⟨some 5, .un .not, [.t 4], none⟩] [] [] [0, 5] true [] []
def c66_7 : ACode := .region false [⟨some 2, .move, [.c (.val (.bool false))], none⟩] [] [] [2] false [] []
def c66_6 : ACode := .seq c66_7 .ret
def c66_5 : ACode := .cond (.t 5) c66_6 .skip
def c66_3 : ACode := .seq c66_4 c66_5
def c66_10 : ACode := .region false [⟨some 6, .move, [.t 0], none⟩,
  ⟨some 7, .nilChk, [.t 6], none⟩,
  ⟨some 8, .addr 1, [.t 7], none⟩,
  ⟨some 9, .load false 1, [.t 8], none⟩,
  ⟨some 10, .ixS 1, [.t 9, .c (.val (.int .i64 0))], none⟩,
  ⟨some 11, .load false 1, [.t 10], none⟩,
  ⟨some 12, .bin .gtr, [.t 11, .c (.val (.int .u8 1))], none⟩] [] [] [0, 12] false [] []
def c66_13 : ACode := .region false [⟨some 13, .move, [.t 0], none⟩,
  ⟨some 14, .nilChk, [.t 13], none⟩,
  ⟨some 15, .addr 0, [.t 14], none⟩,
  ⟨some 16, .call 26, [.t 15, .c (.val (.int .i64 4))], none⟩] [] [] [] true [] []
def c66_15 : ACode := .region false [⟨some 2, .move, [.c (.val (.bool false))], none⟩] [] [] [2] false [] []
def c66_14 : ACode := .seq c66_15 .ret
def c66_12 : ACode := .seq c66_13 c66_14
def c66_11 : ACode := .cond (.t 12) c66_12 .skip
def c66_9 : ACode := .seq c66_10 c66_11
def c66_17 : ACode := .region false [⟨some 17, .move, [.t 0], none⟩,
  ⟨some 18, .call 127, [.t 17, .c (.val (.int .i64 1))], none⟩,
  ⟨some 19, .ixS 1, [.t 18, .c (.val (.int .i64 0))], none⟩,
  ⟨some 20, .load false 1, [.t 19], none⟩,
  ⟨some 21, .bin .eql, [.t 20, .c (.val (.int .u8 1))], none⟩,
  ⟨some 2, .move, [.t 21], none⟩] [] [] [2] true [] []
def c66_16 : ACode := .seq c66_17 .ret
def c66_8 : ACode := .seq c66_9 c66_16
def c66_2 : ACode := .seq c66_3 c66_8
def c66_0 : ACode := .seq c66_1 c66_2
def code66 : Code := (Tryz.f66.body).getD .skip
theorem c66_ok : compC Tryz.prog 22 code66 = some (strip c66_0) := by kernel_rfl
theorem res66_ok : Tryz.f66.results.toList.mapM (resC Tryz.prog) = some [(2, none)] := by kernel_rfl
/- (*quidnunc/octets.Reader).Text -/
def c128_1 : ACode := .region false [⟨some 4, .move, [.c (.val (.string ⟨#[]⟩))], none⟩] [] [] [0, 1] false [] []
def c128_4 : ACode := .region false [⟨some 6, .move, [.t 0], none⟩,
  ⟨some 7, .call 126, [.t 6, .c (.val (.int .i64 1))], none⟩,
  ⟨some 8, .un .not, [.t 7], none⟩] [] [] [0, 1, 8] true [] []
def c128_7 : ACode := .region false [⟨some 4, .move, [.c (.val (.string ⟨#[]⟩))], none⟩] [] [] [4] false [] []
def c128_6 : ACode := .seq c128_7 .ret
def c128_5 : ACode := .cond (.t 8) c128_6 .skip
def c128_3 : ACode := .seq c128_4 c128_5
def c128_9 : ACode := .region false [⟨some 9, .move, [.t 0], none⟩,
  ⟨some 10, .nilChk, [.t 9], none⟩,
  ⟨some 11, .addr 1, [.t 10], none⟩,
  ⟨some 12, .load false 1, [.t 11], none⟩,
  ⟨some 13, .ixS 1, [.t 12, .c (.val (.int .i64 0))], none⟩,
  ⟨some 14, .load false 1, [.t 13], none⟩,
  ⟨some 15, .conv .i64, [.t 14], none⟩,
  ⟨some 5, .move, [.t 15], none⟩] [] [] [0, 1, 5] false [] []
def c128_12 : ACode := .region false [⟨some 16, .move, [.t 5], none⟩,
  ⟨some 17, .move, [.t 1], none⟩,
  ⟨some 18, .bin .gtr, [.t 16, .t 17], none⟩] [] [] [0, 5, 18] false [] []
def c128_14 : ACode := .region false [⟨some 19, .move, [.t 0], none⟩,
  ⟨some 20, .nilChk, [.t 19], none⟩,
  ⟨some 21, .addr 0, [.t 20], none⟩,
  ⟨some 22, .call 26, [.t 21, .c (.val (.int .i64 4))], none⟩] [] [] [0, 5] true [] []
def c128_13 : ACode := .cond (.t 18) c128_14 .skip
def c128_11 : ACode := .seq c128_12 c128_13
def c128_17 : ACode := .region false [⟨some 23, .move, [.t 0], none⟩,
  ⟨some 24, .move, [.t 5], none⟩,
  ⟨some 25, .bin .add, [.c (.val (.int .i64 1)), .t 24], none⟩,
  ⟨some 26, .call 126, [.t 23, .t 25], none⟩,
  ⟨some 27, .un .not, [.t 26], none⟩] [] [] [0, 5, 27] true [] []
def c128_20 : ACode := .region false [⟨some 4, .move, [.c (.val (.string ⟨#[]⟩))], none⟩] [] [] [4] false [] []
def c128_19 : ACode := .seq c128_20 .ret
def c128_18 : ACode := .cond (.t 27) c128_19 .skip
def c128_16 : ACode := .seq c128_17 c128_18
def c128_22 : ACode := .region false [⟨some 28, .move, [.t 0], none⟩,
  ⟨some 29, .move, [.t 5], none⟩,
  ⟨some 30, .bin .add, [.c (.val (.int .i64 1)), .t 29], none⟩,
  ⟨some 31, .call 127, [.t 28, .t 30], none⟩,
  ⟨some 32, .slS 1 true false false, [.t 31, .c (.val (.int .i64 1))], none⟩,
  ⟨some 33, .toStr, [.t 32], none⟩,
  ⟨some 4, .move, [.t 33], none⟩] [] [] [4] true [] []
def c128_21 : ACode := .seq c128_22 .ret
def c128_15 : ACode := .seq c128_16 c128_21
def c128_10 : ACode := .seq c128_11 c128_15
def c128_8 : ACode := .seq c128_9 c128_10
def c128_2 : ACode := .seq c128_3 c128_8
def c128_0 : ACode := .seq c128_1 c128_2
def code128 : Code := (Tryz.f128.body).getD .skip
theorem c128_ok : compC Tryz.prog 34 code128 = some (strip c128_0) := by kernel_rfl
theorem res128_ok : Tryz.f128.results.toList.mapM (resC Tryz.prog) = some [(4, none)] := by kernel_rfl
abbrev U64 (n : Int) : AV := .val (.int .u64 n)
theorem _root_.Go.Am.Seg.get {P : List AV} {o : Nat} {l : List Int} (s : Seg P o l) (i : Nat) (h : i < l.length) : P.getD (o + i) .bad = U8 l[i] := by
  have h1 := congrArg (fun q => q[i]?) s.seg
  simp only [List.getElem?_take, h, if_true, List.getElem?_drop] at h1
  rw [List.getD_eq_getElem?_getD, h1]
  simp [bA, h]
theorem width_any (n : Int) : ACall Tryz.prog 129 [I n] [] (Det (Bo (wideB n)) []) := by
  refine ACall.startA c129_ok Tryz.func129 rfl Tryz.ntmps129 (by kernel_rfl) res129_ok rfl rfl rfl ?_; simp (maxSteps := 9999999) (disch := omega) only [go_sem]
  (have k9 := k0; (repeat' (first | refine goM ?_ | ((first | refine CondP.split (fun hif => ?_) (fun hif => ?_) | refine Runs.part (fun hif => ?_) (fun hif => ?_)) <;> ((try simp only [BL] at hif); first | (exfalso; omega; done) | refine goI ?_)))); (all_goals (try clear k9)))
  all_goals
    (apply Ret.det []; (focus (first | exact .inl rfl | exact .inr rfl)); (focus (simp (maxSteps := 9999999) (disch := omega) only [go_sem]; rfl)); (simp (maxSteps := 9999999) (disch := omega) only [go_sem]; (try (repeat' (first | done | trivial | rfl | exact leAs_rfl _ | decide | (refine And.intro ?_ ?_) | (simp; done) | omega | (simp; decide))))))
    all_goals (simp_all [wideB]; try first | omega | (intros; omega) | (rw [Bool.eq_iff_iff]; simp; omega))
theorem bytesB_drop {l : List Int} (h : bytesB l) (n : Nat) : bytesB (l.drop n) := fun c hc => h c (List.mem_of_mem_drop hc)
theorem bytesB_take {l : List Int} (h : bytesB l) (n : Nat) : bytesB (l.take n) := fun c hc => h c (List.mem_of_mem_take hc)
theorem pow_le8 {k : Nat} (h : k ≤ 8) : (256 : Int) ^ k ≤ 18446744073709551616 := by
  match k, h with
  | 0, _ | 1, _ | 2, _ | 3, _ | 4, _ | 5, _ | 6, _ | 7, _ | 8, _ => decide
theorem valI_u64 {l : List Int} (h : bytesB l) (h8 : l.length ≤ 8) : 0 ≤ valI l ∧ valI l ≤ 18446744073709551615 := by
  have h1 := valI_lt h
  have h2 := pow_le8 h8
  omega
theorem value_any {P : List AV} {off : Nat} {l : List Int} (s : Seg P off l) (hb : bytesB l) (h8 : l.length ≤ 8) : ACall Tryz.prog 131 [.sl 0 off l.length 1 none] [.cells true P] (Det (U64 (valI l)) [.cells true P]) := by
  have hle := s.le
  refine ACall.startA c131_ok Tryz.func131 rfl Tryz.ntmps131 (by kernel_rfl) res131_ok rfl rfl rfl ?_; simp (maxSteps := 9999999) (disch := omega) only [go_sem]
  (have k9 := And.intro @s.ren (k0); (repeat' (first | refine AWpA.seq ?_ | refine AWpA.block ?_ | (with_reducible refine CondP.tt ?_) | (with_reducible refine CondP.ff ?_) | refine AWpA.cg ?_ | ((first | refine AWpA.rg ?_ | refine AWpA.dg [] [] follows ?_ | refine TailK.tg ?_ | refine AWpA.skip ?_ | refine AWpA.exit ?_ | refine AWpA.ret ?_ | (with_reducible refine ARoundsA.succ ?_) | ((first | refine Runs.gkt (fun h9 => ?_) | refine Runs.gkf (fun h9 => ?_) | refine Runs.gnt (fun h9 => ?_) | refine Runs.gnf (fun h9 => ?_) | refine CondP.gt (fun h9 => ?_) | refine CondP.gf (fun h9 => ?_) | refine CondP.gnt (fun h9 => ?_) | refine CondP.gnf (fun h9 => ?_)); (try simp only [h9]); clear h9)); (try simp (maxSteps := 9999999) (disch := omega) only [go_sem, k9]); (try refine cnd ?_)) | ((first | refine CondP.split (fun hif => ?_) (fun hif => ?_) | refine Runs.part (fun hif => ?_) (fun hif => ?_)) <;> ((try simp only [hif]); (try simp only [BL] at hif); (try (have h9 : _ = true := hif; simp only [h9])); (try (have h9 : _ = false := hif; simp only [h9])); (try simp (maxSteps := 9999999) (disch := omega) only [go_sem, k9]); (try refine cnd ?_); (try (exfalso; omega; done)))))); (all_goals (try clear k9)))
  (apply AWpA.loopL (fun m : Nat => [(0, .sl 0 off l.length 1 none), (3, U64 (valI (l.drop m))), (4, I ((m : Int) - 1))]) (fun _ => [.cells true P]) (fun m => m) (fun m => m ≤ l.length) (l.length) [0]; rotate_left; (focus (simp (maxSteps := 9999999) (disch := omega) only [go_sem, s.ren, List.drop_length, valI]; (try (repeat' (first | done | trivial | rfl | exact leAs_rfl _ | decide | (refine And.intro ?_ ?_) | (simp; done) | omega | (simp; decide)))))); rotate_right)
  · exact Nat.le_refl _
  rintro m hm
  (try simp only at hm)
  cases m with
  | zero =>
    (try simp (maxSteps := 9999999) (disch := omega) only [go_sem])
    (have k9 := And.intro @s.ren (k0); (repeat' (first | refine AWpA.seq ?_ | refine AWpA.block ?_ | (with_reducible refine CondP.tt ?_) | (with_reducible refine CondP.ff ?_) | refine AWpA.cg ?_ | ((first | refine AWpA.rg ?_ | refine AWpA.dg [] [] follows ?_ | refine TailK.tg ?_ | refine AWpA.skip ?_ | refine AWpA.exit ?_ | refine AWpA.ret ?_ | (with_reducible refine ARoundsA.succ ?_) | ((first | refine Runs.gkt (fun h9 => ?_) | refine Runs.gkf (fun h9 => ?_) | refine Runs.gnt (fun h9 => ?_) | refine Runs.gnf (fun h9 => ?_) | refine CondP.gt (fun h9 => ?_) | refine CondP.gf (fun h9 => ?_) | refine CondP.gnt (fun h9 => ?_) | refine CondP.gnf (fun h9 => ?_)); (try simp only [h9]); clear h9)); (try simp (maxSteps := 9999999) (disch := omega) only [go_sem, k9]); (try refine cnd ?_)) | ((first | refine CondP.split (fun hif => ?_) (fun hif => ?_) | refine Runs.part (fun hif => ?_) (fun hif => ?_)) <;> ((try simp only [hif]); (try simp only [BL] at hif); (try (have h9 : _ = true := hif; simp only [h9])); (try (have h9 : _ = false := hif; simp only [h9])); (try simp (maxSteps := 9999999) (disch := omega) only [go_sem, k9]); (try refine cnd ?_); (try (exfalso; omega; done)))))); (all_goals (try clear k9)))
    (apply Ret.det [0]; (focus (first | exact .inl rfl | exact .inr rfl)); (focus (simp (maxSteps := 9999999) (disch := omega) only [go_sem, s.ren]; rfl)); (simp (maxSteps := 9999999) (disch := omega) only [go_sem, s.ren]; (try (repeat' (first | done | trivial | rfl | exact leAs_rfl _ | decide | (refine And.intro ?_ ?_) | (simp; done) | omega | (simp; decide))))))
  | succ i =>
    have hx := s.get i (by omega)
    have hd : l.drop i = l[i] :: l.drop (i + 1) := List.drop_eq_getElem_cons (by omega)
    have hv : valI (l.drop i) = l[i] + 256 * valI (l.drop (i + 1)) := by rw [hd]; rfl
    have hc := hb l[i] (List.getElem_mem _)
    have hu := valI_u64 (bytesB_drop hb i) (by simp; omega)
    have hu1 := valI_u64 (bytesB_drop hb (i + 1)) (by simp; omega)
    have e0 : (((i + 1 : Nat) : Int) - 1) = (i : Int) := by omega
    rw [e0]
    generalize l[i] = c at hx hd hv hc
    (try simp (maxSteps := 9999999) (disch := omega) only [go_sem])
    (have k9 := And.intro @s.ren (And.intro @hx (And.intro @e0 (k0))); (repeat' (first | refine AWpA.seq ?_ | refine AWpA.block ?_ | (with_reducible refine CondP.tt ?_) | (with_reducible refine CondP.ff ?_) | refine AWpA.cg ?_ | ((first | refine AWpA.rg ?_ | refine AWpA.dg [] [] follows ?_ | refine TailK.tg ?_ | refine AWpA.skip ?_ | refine AWpA.exit ?_ | refine AWpA.ret ?_ | (with_reducible refine ARoundsA.succ ?_) | ((first | refine Runs.gkt (fun h9 => ?_) | refine Runs.gkf (fun h9 => ?_) | refine Runs.gnt (fun h9 => ?_) | refine Runs.gnf (fun h9 => ?_) | refine CondP.gt (fun h9 => ?_) | refine CondP.gf (fun h9 => ?_) | refine CondP.gnt (fun h9 => ?_) | refine CondP.gnf (fun h9 => ?_)); (try simp only [h9]); clear h9)); (try simp (maxSteps := 9999999) (disch := omega) only [go_sem, k9]); (try refine cnd ?_)) | ((first | refine CondP.split (fun hif => ?_) (fun hif => ?_) | refine Runs.part (fun hif => ?_) (fun hif => ?_)) <;> ((try simp only [hif]); (try simp only [BL] at hif); (try (have h9 : _ = true := hif; simp only [h9])); (try (have h9 : _ = false := hif; simp only [h9])); (try simp (maxSteps := 9999999) (disch := omega) only [go_sem, k9]); (try refine cnd ?_); (try (exfalso; omega; done)))))); (all_goals (try clear k9)))
    (apply Back.to i [0]; (focus ((try simp (maxSteps := 9999999) (disch := omega) only [go_sem, s.ren]); first | done | omega)); rotate_left; (focus (simp (maxSteps := 9999999) (disch := omega) only [go_sem, s.ren]; (try (repeat' (first | done | trivial | rfl | exact leAs_rfl _ | decide | (refine And.intro ?_ ?_) | (simp; done) | omega | (simp; decide)))))))
    · rw [hv, Int.add_comm]
    · omega
/-- A cursor of bytes. -/
abbrev CurA (off n a : Nat) (e : Int) : AV := .agg [.sl 0 off n 1 none, I (a : Int), I e]
theorem cfail_any {P : List AV} (hr : ∀ ρ, renL ρ P = P) (off n a : Nat) (e k : Int) : ACall Tryz.prog 85 [CurA off n a e, I k] [.cells true P] (Det (CurA off n a (failI e k)) [.cells true P]) := by
  refine ACall.startA c85_ok Tryz.func85 rfl Tryz.ntmps85 (by kernel_rfl) res85_ok rfl rfl rfl ?_; simp (maxSteps := 9999999) (disch := omega) only [go_sem]
  (have k9 := And.intro @hr (k0); (repeat' (first | refine goM ?_ | ((first | refine CondP.split (fun hif => ?_) (fun hif => ?_) | refine Runs.part (fun hif => ?_) (fun hif => ?_)) <;> ((try simp only [BL] at hif); first | (exfalso; omega; done) | refine goI ?_)))); (all_goals (try clear k9)))
  all_goals
    (apply Ret.det [0]; (focus (first | exact .inl rfl | exact .inr rfl)); (focus (simp (maxSteps := 9999999) (disch := omega) only [go_sem, hr]; rfl)); (simp (maxSteps := 9999999) (disch := omega) only [go_sem, hr]; (try (repeat' (first | done | trivial | rfl | exact leAs_rfl _ | decide | (refine And.intro ?_ ?_) | (simp; done) | omega | (simp; decide))))))
    all_goals (simp [failI, *])
theorem craw_any {P : List AV} {off : Nat} {L : List Int} (s : Seg P off L) (a : Nat) (ha : a ≤ L.length) (e n : Int) : ACall Tryz.prog 130 [CurA off L.length a e, I n] [.cells true P] (Det (.tup [CurA off L.length (rawA e n (L.length - a : Nat) a) (rawE e n (L.length - a : Nat)), .sl 0 (off + a) (rawL e n (L.length - a : Nat) a L).length 1 none]) [.cells true P]) := by
  have hle := s.le
  have hsm := s.small
  by_cases h0 : n < 0
  · have e0 : rawOk e n (L.length - a : Nat) = false := by
      unfold rawOk
      rw [decide_eq_false (by omega)]
      rfl
    have e1 : rawL e n (L.length - a : Nat) a L = [] := by simp [rawL, e0]
    have e2 : rawA e n (L.length - a : Nat) a = a := by simp [rawA, e0]
    have e3 : rawE e n (L.length - a : Nat) = failI e 1 := by simp [rawE, h0]
    rw [e1, e2, e3]
    refine ACall.startA c130_ok Tryz.func130 rfl Tryz.ntmps130 (by kernel_rfl) res130_ok rfl rfl rfl ?_; simp (maxSteps := 9999999) (disch := omega) only [go_sem]
    (have k9 := And.intro @s.ren (And.intro (eq_true h0) (k0)); have a1 := Arm.mk [0] (cfail_any s.ren off L.length a e 1); refine goK ?_; (try clear k9); (try clear a1))
    (have k9 := And.intro @s.ren (k0); exact Ret.dk [0])
  by_cases h1 : ((L.length : Int) - (a : Int)) < n
  · have h1' : ((L.length - a : Nat) : Int) < n := by omega
    have e0 : rawOk e n (L.length - a : Nat) = false := by
      unfold rawOk
      rw [decide_eq_false (by omega)]
      rfl
    have e1 : rawL e n (L.length - a : Nat) a L = [] := by simp [rawL, e0]
    have e2 : rawA e n (L.length - a : Nat) a = a := by simp [rawA, e0]
    have e3 : rawE e n (L.length - a : Nat) = failI e 6 := by simp [rawE, h0, hasE, h1']
    rw [e1, e2, e3]
    refine ACall.startA c130_ok Tryz.func130 rfl Tryz.ntmps130 (by kernel_rfl) res130_ok rfl rfl rfl ?_; simp (maxSteps := 9999999) (disch := omega) only [go_sem]
    (have k9 := And.intro @s.ren (And.intro (eq_false h0) (And.intro (eq_true h1) (k0))); have a1 := Arm.mk [0] (cfail_any s.ren off L.length a e 6); refine goK ?_; (try clear k9); (try clear a1))
    (have k9 := And.intro @s.ren (k0); exact Ret.dk [0])
  obtain ⟨k, rfl⟩ : ∃ k : Nat, n = (k : Int) := ⟨n.toNat, by omega⟩
  have e3 : rawE e (k : Int) (L.length - a : Nat) = e := by
    have h1' : ¬ ((L.length - a : Nat) : Int) < (k : Int) := by omega
    simp [rawE, h0, hasE, h1']
  cases he : (e == 0) with
  | false =>
    have e0 : rawOk e (k : Int) (L.length - a : Nat) = false := by
      unfold rawOk
      rw [he, Bool.and_false]
    have e1 : rawL e (k : Int) (L.length - a : Nat) a L = [] := by simp [rawL, e0]
    have e2 : rawA e (k : Int) (L.length - a : Nat) a = a := by simp [rawA, e0]
    have he' : (e != 0) = true := by simpa [bne] using he
    rw [e1, e2, e3]
    refine ACall.startA c130_ok Tryz.func130 rfl Tryz.ntmps130 (by kernel_rfl) res130_ok rfl rfl rfl ?_; simp (maxSteps := 9999999) (disch := omega) only [go_sem]
    (have k9 := And.intro @s.ren (And.intro (eq_false h0) (And.intro (eq_false h1) (And.intro @he' (k0)))); refine goK ?_; (try clear k9))
    (have k9 := And.intro @s.ren (k0); exact Ret.dk [0])
  | true =>
    have e0 : rawOk e (k : Int) (L.length - a : Nat) = true := by
      unfold rawOk
      rw [he, decide_eq_true (by omega)]
      rfl
    have e1 : (rawL e (k : Int) (L.length - a : Nat) a L).length = k := by simp [rawL, e0]; omega
    have e2 : rawA e (k : Int) (L.length - a : Nat) a = a + k := by simp [rawA, e0]
    have he' : (e != 0) = false := by simpa [bne] using he
    rw [e1, e2, e3]
    refine ACall.startA c130_ok Tryz.func130 rfl Tryz.ntmps130 (by kernel_rfl) res130_ok rfl rfl rfl ?_; simp (maxSteps := 9999999) (disch := omega) only [go_sem]
    (have k9 := And.intro @s.ren (And.intro (eq_false h0) (And.intro (eq_false h1) (And.intro @he' (k0)))); refine goK ?_; (try clear k9))
    (have k9 := And.intro @s.ren (k0); exact Ret.dk [0])
/-- Where a reader stands, and its error. -/
structure Cu where
  a : Nat
  e : Int
abbrev Cu.left (L : List Int) (c : Cu) : Int := ((L.length - c.a : Nat) : Int)
theorem failI_ne (e k : Int) (h : k ≠ 0) : failI e k ≠ 0 := by
  unfold failI
  split
  · exact h
  · rename_i h1; simpa using h1
theorem rawOk_yes {e n left : Int} (h : rawOk e n left = true) : e = 0 ∧ 0 ≤ n ∧ n ≤ left ∧ rawE e n left = 0 ∧ (∀ a, rawA e n left a = a + n.toNat) ∧ ∀ a L, rawL e n left a L = (L.drop a).take n.toNat := by
  have h' := h
  simp only [rawOk, Bool.and_eq_true, decide_eq_true_eq, beq_iff_eq] at h'
  obtain ⟨⟨h1, h2⟩, h3⟩ := h'
  refine ⟨h3, h1, h2, ?_, fun a => by simp [rawA, h], fun a L => by simp [rawL, h]⟩
  unfold rawE hasE
  rw [decide_eq_false (by omega), decide_eq_false (by omega), h3]
  rfl
theorem rawOk_no {e n left : Int} (h : rawOk e n left = false) : rawE e n left ≠ 0 ∧ (∀ a, rawA e n left a = a) ∧ ∀ a L, rawL e n left a L = [] := by
  refine ⟨?_, fun a => by simp [rawA, h], fun a L => by simp [rawL, h]⟩
  unfold rawE hasE
  by_cases h1 : n < 0
  · rw [decide_eq_true h1]; exact failI_ne e 1 (by decide)
  · rw [decide_eq_false h1]
    by_cases h2 : left < n
    · rw [decide_eq_true h2]; exact failI_ne e 6 (by decide)
    · rw [decide_eq_false h2]
      simp only [rawOk, decide_eq_true (show 0 ≤ n ∧ n ≤ left by omega), Bool.true_and] at h
      simpa using h
theorem rawE_has {e n left : Int} (h : 0 ≤ n) : rawE e n left = hasE e n left := by
  unfold rawE
  rw [decide_eq_false (by omega)]; rfl
theorem has_ok {e n left : Int} (h : 0 ≤ n) : (hasE e n left == 0) = rawOk e n left := by
  rw [← rawE_has h]
  cases h1 : rawOk e n left with
  | true => rw [(rawOk_yes h1).2.2.2.1]; rfl
  | false => simpa using (rawOk_no h1).1
def rawC (L : List Int) (n : Int) (c : Cu) : Cu := ⟨rawA c.e n (c.left L) c.a, rawE c.e n (c.left L)⟩
def rawV (L : List Int) (n : Int) (c : Cu) : List Int := rawL c.e n (c.left L) c.a L
def numC (L : List Int) (w : Int) (c : Cu) : Cu := cond (wideB w) (rawC L w c) ⟨c.a, failI c.e 1⟩
def numV (L : List Int) (w : Int) (c : Cu) : Int := cond (wideB w) (valI (rawV L w c)) 0
def flagC (L : List Int) (c : Cu) : Cu := cond (rawOk c.e 1 (c.left L)) (cond (decide (1 < L.getD c.a 0)) ⟨c.a, 4⟩ ⟨c.a + 1, 0⟩) ⟨c.a, rawE c.e 1 (c.left L)⟩
def flagV (L : List Int) (c : Cu) : Bool := rawOk c.e 1 (c.left L) && (L.getD c.a 0 == 1)
/-- Bytes as a text. -/
def baI (l : List Int) : ByteArray := ⟨(toB l).toArray⟩
def textC (L : List Int) (m : Int) (c : Cu) : Cu := cond (rawOk c.e 1 (c.left L)) (cond (decide (m < L.getD c.a 0)) ⟨c.a, 4⟩ (cond (decide (1 + L.getD c.a 0 ≤ c.left L)) ⟨c.a + (1 + (L.getD c.a 0).toNat), 0⟩ ⟨c.a, 6⟩)) ⟨c.a, rawE c.e 1 (c.left L)⟩
def textV (L : List Int) (m : Int) (c : Cu) : ByteArray := cond (rawOk c.e 1 (c.left L) && (!decide (m < L.getD c.a 0) && decide (1 + L.getD c.a 0 ≤ c.left L))) (baI ((L.drop (c.a + 1)).take (L.getD c.a 0).toNat)) ByteArray.empty
def doneC (L : List Int) (c : Cu) : Cu := ⟨c.a, doneE c.e (L.length - c.a)⟩
theorem getD_get {L : List Int} {a : Nat} (h : a < L.length) : L.getD a 0 = L[a] := by simp [List.getD_eq_getElem?_getD, h]
theorem wideB_yes {n : Int} (h : wideB n = true) : 0 < n ∧ n < 9 := by simpa [wideB] using h
theorem rawL_len8 {e n left : Int} {a : Nat} {L : List Int} (h : wideB n = true) : (rawL e n left a L).length ≤ 8 := by
  have := wideB_yes h
  unfold rawL
  cases rawOk e n left
  · simp
  · simp; omega
theorem rawL_bytes {e n left : Int} {a : Nat} {L : List Int} (h : bytesB L) : bytesB (rawL e n left a L) := by
  unfold rawL
  cases rawOk e n left
  · intro c hc; cases hc
  · exact bytesB_take (bytesB_drop h a) _
theorem _root_.Go.Am.Seg.sub {P : List AV} {o : Nat} {l : List Int} (s : Seg P o l) {e n : Int} {a : Nat} (ha : a ≤ l.length) : Seg P (o + a) (rawL e n (l.length - a : Nat) a l) := by
  have h1 := s.le
  have h2 := s.small
  cases h : rawOk e n (l.length - a : Nat) with
  | true =>
    obtain ⟨-, h3, h4, -, -, h5⟩ := rawOk_yes h
    rw [h5]
    have hl : ((l.drop a).take n.toNat).length = n.toNat := by simp; omega
    refine ⟨?_, by rw [hl]; omega, s.ren, by rw [hl]; omega⟩
    have h6 := congrArg (fun q => (q.drop a).take n.toNat) s.seg
    simp only [List.drop_take, List.drop_drop, List.take_take, bA_drop, bA_take] at h6
    rw [hl, ← h6, Nat.min_eq_left (by omega)]
  | false =>
    rw [(rawOk_no h).2.2]
    exact ⟨by simp [bA_nil], by simp; omega, s.ren, by simp⟩
theorem ctake_any {P : List AV} {off : Nat} {L : List Int} (s : Seg P off L) (hb : bytesB L) (c : Cu) (ha : c.a ≤ L.length) (w : Int) : ACall Tryz.prog 80 [CurA off L.length c.a c.e, I w] [.cells true P] (Det (.tup [CurA off L.length (numC L w c).a (numC L w c).e, U64 (numV L w c)]) [.cells true P]) := by
  have hle := s.le
  have hsm := s.small
  obtain ⟨a, e⟩ := c
  simp only at ha
  cases hw : wideB w with
  | false =>
    have e1 : numC L w ⟨a, e⟩ = ⟨a, failI e 1⟩ := by simp [numC, hw]
    have e2 : numV L w ⟨a, e⟩ = 0 := by simp [numV, hw]
    rw [e1, e2]
    refine ACall.startA c80_ok Tryz.func80 rfl Tryz.ntmps80 (by kernel_rfl) res80_ok rfl rfl rfl ?_; simp (maxSteps := 9999999) (disch := omega) only [go_sem]
    (have k9 := And.intro @s.ren (And.intro @hw (k0)); have a1 := Arm.mk [] (width_any w); have a2 := Arm.mk [0] (cfail_any s.ren off L.length a e 1); refine goK ?_; (try clear k9); (try clear a1); (try clear a2))
    (have k9 := And.intro @s.ren (k0); exact Ret.dk [0])
  | true =>
    have e1 : numC L w ⟨a, e⟩ = ⟨rawA e w (L.length - a : Nat) a, rawE e w (L.length - a : Nat)⟩ := by simp [numC, hw, rawC]
    have e2 : numV L w ⟨a, e⟩ = valI (rawL e w (L.length - a : Nat) a L) := by simp [numV, hw, rawV]
    rw [e1, e2]
    have hv := value_any (s.sub (e := e) (n := w) ha) (rawL_bytes hb) (rawL_len8 hw)
    refine ACall.startA c80_ok Tryz.func80 rfl Tryz.ntmps80 (by kernel_rfl) res80_ok rfl rfl rfl ?_; simp (maxSteps := 9999999) (disch := omega) only [go_sem]
    (have k9 := And.intro @s.ren (And.intro @hw (k0)); have a1 := Arm.mk [] (width_any w); have a2 := Arm.mk [0] (craw_any s a ha e w); have a3 := Arm.mk [0] hv; refine goK ?_; (try clear k9); (try clear a1); (try clear a2); (try clear a3))
    (have k9 := And.intro @s.ren (k0); exact Ret.dk [0])
theorem cdone_any {P : List AV} {off : Nat} {L : List Int} (s : Seg P off L) (c : Cu) (ha : c.a ≤ L.length) : ACall Tryz.prog 30 [CurA off L.length c.a c.e] [.cells true P] (Det (CurA off L.length (doneC L c).a (doneC L c).e) [.cells true P]) := by
  obtain ⟨a, e⟩ := c
  by_cases h : 0 < L.length - a
  · have e1 : doneC L ⟨a, e⟩ = ⟨a, failI e 4⟩ := by simp [doneC, doneE, h]
    have h1 : ((a : Int) < (L.length : Int)) = True := eq_true (by omega)
    rw [e1]
    refine ACall.startA c30_ok Tryz.func30 rfl Tryz.ntmps30 (by kernel_rfl) res30_ok rfl rfl rfl ?_; simp (maxSteps := 9999999) (disch := omega) only [go_sem]
    (have k9 := And.intro @s.ren (And.intro @h1 (k0)); have a1 := Arm.mk [0] (cfail_any s.ren off L.length a e 4); refine goK ?_; (try clear k9); (try clear a1))
    (have k9 := And.intro @s.ren (k0); exact Ret.dk [0])
  · have e1 : doneC L ⟨a, e⟩ = ⟨a, e⟩ := by simp [doneC, doneE, h]
    have h1 : ((a : Int) < (L.length : Int)) = False := eq_false (by omega)
    rw [e1]
    refine ACall.startA c30_ok Tryz.func30 rfl Tryz.ntmps30 (by kernel_rfl) res30_ok rfl rfl rfl ?_; simp (maxSteps := 9999999) (disch := omega) only [go_sem]
    (have k9 := And.intro @s.ren (And.intro @h1 (k0)); refine goK ?_; (try clear k9))
    (have k9 := And.intro @s.ren (k0); exact Ret.dk [0])
theorem cflag_any {P : List AV} {off : Nat} {L : List Int} (s : Seg P off L) (c : Cu) (ha : c.a ≤ L.length) : ACall Tryz.prog 81 [CurA off L.length c.a c.e] [.cells true P] (Det (.tup [CurA off L.length (flagC L c).a (flagC L c).e, Bo (flagV L c)]) [.cells true P]) := by
  have hle := s.le
  obtain ⟨a, e⟩ := c
  simp only at ha
  have hr := craw_any s a ha e 1
  cases ho : rawOk e 1 (L.length - a : Nat) with
  | false =>
    have e1 : flagC L ⟨a, e⟩ = ⟨a, rawE e 1 (L.length - a : Nat)⟩ := by simp [flagC, ho]
    have e2 : flagV L ⟨a, e⟩ = false := by simp [flagV, ho]
    obtain ⟨h1, h2, h3⟩ := rawOk_no ho
    rw [h2, h3] at hr
    rw [e1, e2]
    have h1' : (rawE e 1 (L.length - a : Nat) != 0) = true := by simpa using h1
    generalize rawE e 1 (L.length - a : Nat) = q at *
    refine ACall.startA c81_ok Tryz.func81 rfl Tryz.ntmps81 (by kernel_rfl) res81_ok rfl rfl rfl ?_; simp (maxSteps := 9999999) (disch := omega) only [go_sem]
    (have k9 := And.intro @s.ren (And.intro @h1' (k0)); have a1 := Arm.mk [0] hr; refine goK ?_; (try clear k9); (try clear a1))
    (have k9 := And.intro @s.ren (k0); exact Ret.dk [0])
  | true =>
    obtain ⟨rfl, -, h0, h1, h2, h3⟩ := rawOk_yes ho
    have hal : a < L.length := by omega
    rw [h1, h2, h3] at hr
    have hl : ((L.drop a).take (1 : Int).toNat).length = 1 := by simp; omega
    rw [hl] at hr
    have hx := s.get a hal
    rw [← getD_get hal] at hx
    by_cases h : 1 < L.getD a 0
    · have e1 : flagC L ⟨a, 0⟩ = ⟨a, 4⟩ := by simp only [flagC, ho, decide_eq_true h, cond_true]
      have e2 : flagV L ⟨a, 0⟩ = false := by
        have : (L.getD a 0 == 1) = false := by simpa using (show ¬ L.getD a 0 = 1 by omega)
        simp only [flagV, this, Bool.and_false]
      rw [e1, e2]
      have hf := cfail_any s.ren off L.length a 0 4
      generalize L.getD a 0 = x at *
      refine ACall.startA c81_ok Tryz.func81 rfl Tryz.ntmps81 (by kernel_rfl) res81_ok rfl rfl rfl ?_; simp (maxSteps := 9999999) (disch := omega) only [go_sem]
      (have k9 := And.intro @s.ren (And.intro @hx (And.intro (eq_true h) (k0))); have a1 := Arm.mk [0] hr; have a2 := Arm.mk [0] hf; refine goK ?_; (try clear k9); (try clear a1); (try clear a2))
      (have k9 := And.intro @s.ren (k0); exact Ret.dk [0])
    · have e1 : flagC L ⟨a, 0⟩ = ⟨a + 1, 0⟩ := by simp only [flagC, ho, decide_eq_false h, cond_true, cond_false]
      have e2 : flagV L ⟨a, 0⟩ = (L.getD a 0 == 1) := by simp only [flagV, ho, Bool.true_and]
      rw [e1, e2]
      generalize L.getD a 0 = x at *
      refine ACall.startA c81_ok Tryz.func81 rfl Tryz.ntmps81 (by kernel_rfl) res81_ok rfl rfl rfl ?_; simp (maxSteps := 9999999) (disch := omega) only [go_sem]
      (have k9 := And.intro @s.ren (And.intro @hx (And.intro (eq_false h) (k0))); have a1 := Arm.mk [0] hr; refine goK ?_; (try clear k9); (try clear a1))
      (have k9 := And.intro @s.ren (k0); exact Ret.dk [0])
end
end Go.Proofs.YtopidfkmligljaaGreat
