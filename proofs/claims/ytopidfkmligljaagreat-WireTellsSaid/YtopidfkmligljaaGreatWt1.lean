/- Contracts: the document's: what a kind has, how many, which marks may be. -/
import Derived.Test.YtopidfkmligljaaGreatEg5
import Derived.Test.YtopidfkmligljaaGreatWq3
namespace Go.Proofs.YtopidfkmligljaaGreat
noncomputable section
set_option linter.unusedSimpArgs false
set_option linter.unusedVariables false
set_option maxHeartbeats 4000000
open Go Go.Am Go.RowKit
set_option maxRecDepth 100000
set_option maxHeartbeats 8000000
/- quidnunc/quidnuncref16.in -/
def c79_1 : ACode := .region false [⟨some 4, .move, [.c (.val (.bool false))], none⟩] [] [] [0, 1] false [] []
def c79_4 : ACode := .region false [⟨some 5, .move, [.c (.val (.int .i64 0))], none⟩] [] [] [0, 1, 5] false [] []
def c79_9 : ACode := .region false [⟨some 6, .move, [.t 5], none⟩,
  ⟨some 7, .move, [.t 1], none⟩,
  ⟨some 8, .len, [.t 7], none⟩,
  ⟨some 9, .bin .lss, [.t 6, .t 8], none⟩] [] [] [0, 1, 5, 9] false [] []
def c79_10 : ACode := .cond (.t 9) .skip (.exit 0)
def c79_8 : ACode := .seq c79_9 c79_10
def c79_14 : ACode := .region false [⟨some 12, .move, [.t 1], none⟩,
  ⟨some 13, .move, [.t 5], none⟩,
  ⟨some 14, .ixS 1, [.t 12, .t 13], none⟩,
  ⟨some 15, .load false 1, [.t 14], none⟩,
  ⟨some 16, .move, [.t 0], none⟩,
  ⟨some 17, .bin .eql, [.t 15, .t 16], none⟩] [] [] [0, 1, 5, 17] false [] []
def c79_17 : ACode := .region false [⟨some 4, .move, [.c (.val (.bool true))], none⟩] [] [] [4] false [] []
def c79_16 : ACode := .seq c79_17 .ret
def c79_15 : ACode := .cond (.t 17) c79_16 .skip
def c79_13 : ACode := .seq c79_14 c79_15
def c79_12 : ACode := .block 1 c79_13
def c79_18 : ACode := .region false [⟨some 10, .move, [.t 5], none⟩,
  ⟨some 11, .bin .add, [.t 10, .c (.val (.int .i64 1))], none⟩,
  ⟨some 5, .move, [.t 11], none⟩] [] [] [0, 1, 5] false [] []
def c79_11 : ACode := .seq c79_12 c79_18
def c79_7 : ACode := .seq c79_8 c79_11
def c79_6 : ACode := .loop c79_7
def c79_5 : ACode := .block 0 c79_6
def c79_3 : ACode := .seq c79_4 c79_5
def c79_20 : ACode := .region false [⟨some 4, .move, [.c (.val (.bool false))], none⟩] [] [] [4] false [] []
def c79_19 : ACode := .seq c79_20 .ret
def c79_2 : ACode := .seq c79_3 c79_19
def c79_0 : ACode := .seq c79_1 c79_2
def code79 : Code := (Tryz.f79.body).getD .skip
theorem c79_ok : compC Tryz.prog 18 code79 = some (strip c79_0) := by kernel_rfl
theorem res79_ok : Tryz.f79.results.toList.mapM (resC Tryz.prog) = some [(4, none)] := by kernel_rfl
/- quidnunc/quidnuncref16.Has -/
def c28_1 : ACode := .region false [⟨some 4, .move, [.c (.val (.bool false))], none⟩] [] [] [0, 1] false [] []
def c28_4 : ACode := .region false [⟨some 5, .move, [.t 1], none⟩] [] [] [0, 5] false [] []
def c28_8 : ACode := .region false [⟨some 7, .bin .eql, [.t 5, .c (.val (.int .i64 0))], none⟩,
  ⟨some 6, .move, [.t 7], none⟩] [] [] [0, 5, 6] false [] []
def c28_10 : ACode := .region false [⟨some 8, .bin .eql, [.t 5, .c (.val (.int .i64 1))], none⟩,
  ⟨some 6, .move, [.t 8], none⟩] [] [] [0, 5, 6] false [] []
def c28_9 : ACode := .cond (.t 6) .skip c28_10
def c28_7 : ACode := .seq c28_8 c28_9
def c28_13 : ACode := .region false [⟨some 9, .move, [.t 0], none⟩,
  ⟨some 10, .buildSl 1 2 [(.int .i64 0)] [(0, 1), (1, 1)], [.c (.val (.int .i64 2)), .c (.val (.int .i64 7))], none⟩,
  ⟨some 11, .call 79, [.t 9, .t 10], none⟩,
  ⟨some 4, .move, [.t 11], none⟩] [] [] [4] true [] []
def c28_12 : ACode := .seq c28_13 .ret
def c28_15 : ACode := .region false [⟨some 13, .bin .eql, [.t 5, .c (.val (.int .i64 2))], none⟩,
  ⟨some 12, .move, [.t 13], none⟩] [] [] [0, 5, 12] false [] []
def c28_18 : ACode := .region false [⟨some 14, .move, [.t 0], none⟩,
  ⟨some 15, .bin .eql, [.t 14, .c (.val (.int .i64 3))], none⟩,
  ⟨some 4, .move, [.t 15], none⟩] [] [] [4] false [] []
def c28_17 : ACode := .seq c28_18 .ret
def c28_20 : ACode := .region false [⟨some 17, .bin .eql, [.t 5, .c (.val (.int .i64 3))], none⟩,
  ⟨some 16, .move, [.t 17], none⟩] [] [] [0, 5, 16] false [] []
def c28_23 : ACode := .region false [⟨some 18, .move, [.t 0], none⟩,
  ⟨some 19, .buildSl 1 2 [(.int .i64 0)] [(0, 1), (1, 1)], [.c (.val (.int .i64 7)), .c (.val (.int .i64 8))], none⟩,
  ⟨some 20, .call 79, [.t 18, .t 19], none⟩,
  ⟨some 4, .move, [.t 20], none⟩] [] [] [4] true [] []
def c28_22 : ACode := .seq c28_23 .ret
def c28_25 : ACode := .region false [⟨some 22, .bin .eql, [.t 5, .c (.val (.int .i64 4))], none⟩,
  ⟨some 21, .move, [.t 22], none⟩] [] [] [0, 5, 21] false [] []
def c28_28 : ACode := .region false [⟨some 23, .move, [.t 0], none⟩,
  ⟨some 24, .buildSl 1 4 [(.int .i64 0)] [(0, 1), (1, 1), (2, 1), (3, 1)], [.c (.val (.int .i64 16)), .c (.val (.int .i64 17)), .c (.val (.int .i64 18)), .c (.val (.int .i64 19))], none⟩,
  ⟨some 25, .call 79, [.t 23, .t 24], none⟩,
  ⟨some 4, .move, [.t 25], none⟩] [] [] [4] true [] []
def c28_27 : ACode := .seq c28_28 .ret
def c28_30 : ACode := .region false [⟨some 27, .bin .eql, [.t 5, .c (.val (.int .i64 5))], none⟩,
  ⟨some 26, .move, [.t 27], none⟩] [] [] [0, 5, 26] false [] []
def c28_33 : ACode := .region false [⟨some 28, .move, [.t 0], none⟩,
  ⟨some 29, .buildSl 1 3 [(.int .i64 0)] [(0, 1), (1, 1), (2, 1)], [.c (.val (.int .i64 16)), .c (.val (.int .i64 17)), .c (.val (.int .i64 19))], none⟩,
  ⟨some 30, .call 79, [.t 28, .t 29], none⟩,
  ⟨some 4, .move, [.t 30], none⟩] [] [] [4] true [] []
def c28_32 : ACode := .seq c28_33 .ret
def c28_35 : ACode := .region false [⟨some 32, .bin .eql, [.t 5, .c (.val (.int .i64 6))], none⟩,
  ⟨some 31, .move, [.t 32], none⟩] [] [] [0, 5, 31] false [] []
def c28_38 : ACode := .region false [⟨some 33, .move, [.t 0], none⟩,
  ⟨some 34, .buildSl 1 2 [(.int .i64 0)] [(0, 1), (1, 1)], [.c (.val (.int .i64 18)), .c (.val (.int .i64 19))], none⟩,
  ⟨some 35, .call 79, [.t 33, .t 34], none⟩,
  ⟨some 4, .move, [.t 35], none⟩] [] [] [4] true [] []
def c28_37 : ACode := .seq c28_38 .ret
def c28_40 : ACode := .region false [⟨some 37, .bin .eql, [.t 5, .c (.val (.int .i64 7))], none⟩,
  ⟨some 36, .move, [.t 37], none⟩] [] [] [0, 36] false [] []
def c28_43 : ACode := .region false [⟨some 38, .move, [.t 0], none⟩,
  ⟨some 39, .buildSl 1 3 [(.int .i64 0)] [(0, 1), (1, 1), (2, 1)], [.c (.val (.int .i64 11)), .c (.val (.int .i64 12)), .c (.val (.int .i64 15))], none⟩,
  ⟨some 40, .call 79, [.t 38, .t 39], none⟩,
  ⟨some 4, .move, [.t 40], none⟩] [] [] [4] true [] []
def c28_42 : ACode := .seq c28_43 .ret
def c28_41 : ACode := .cond (.t 36) c28_42 .skip
def c28_39 : ACode := .seq c28_40 c28_41
def c28_36 : ACode := .cond (.t 31) c28_37 c28_39
def c28_34 : ACode := .seq c28_35 c28_36
def c28_31 : ACode := .cond (.t 26) c28_32 c28_34
def c28_29 : ACode := .seq c28_30 c28_31
def c28_26 : ACode := .cond (.t 21) c28_27 c28_29
def c28_24 : ACode := .seq c28_25 c28_26
def c28_21 : ACode := .cond (.t 16) c28_22 c28_24
def c28_19 : ACode := .seq c28_20 c28_21
def c28_16 : ACode := .cond (.t 12) c28_17 c28_19
def c28_14 : ACode := .seq c28_15 c28_16
def c28_11 : ACode := .cond (.t 6) c28_12 c28_14
def c28_6 : ACode := .seq c28_7 c28_11
def c28_5 : ACode := .block 0 c28_6
def c28_3 : ACode := .seq c28_4 c28_5
def c28_45 : ACode := .region false [⟨some 41, .move, [.t 0], none⟩,
  ⟨some 42, .buildSl 1 7 [(.int .i64 0)] [(0, 1), (1, 1), (2, 1), (3, 1), (4, 1), (5, 1), (6, 1)], [.c (.val (.int .i64 10)), .c (.val (.int .i64 14)), .c (.val (.int .i64 15)), .c (.val (.int .i64 16)), .c (.val (.int .i64 17)), .c (.val (.int .i64 18)), .c (.val (.int .i64 19))], none⟩,
  ⟨some 43, .call 79, [.t 41, .t 42], none⟩,
  ⟨some 4, .move, [.t 43], none⟩] [] [] [4] true [] []
def c28_44 : ACode := .seq c28_45 .ret
def c28_2 : ACode := .seq c28_3 c28_44
def c28_0 : ACode := .seq c28_1 c28_2
def code28 : Code := (Tryz.f28.body).getD .skip
theorem c28_ok : compC Tryz.prog 44 code28 = some (strip c28_0) := by kernel_rfl
theorem res28_ok : Tryz.f28.results.toList.mapM (resC Tryz.prog) = some [(4, none)] := by kernel_rfl
/- quidnunc/quidnuncref16.Many -/
def c104_1 : ACode := .region false [⟨some 4, .move, [.c (.val (.int .i64 0))], none⟩,
  ⟨some 5, .move, [.c (.val (.int .i64 0))], none⟩] [] [] [0, 1] false [] []
def c104_4 : ACode := .region false [⟨some 6, .move, [.t 0], none⟩,
  ⟨some 7, .move, [.t 1], none⟩,
  ⟨some 8, .call 28, [.t 6, .t 7], none⟩,
  ⟨some 9, .un .not, [.t 8], none⟩] [] [] [0, 9] true [] []
def c104_7 : ACode := .region false [⟨some 4, .move, [.c (.val (.int .i64 0))], none⟩,
  ⟨some 5, .move, [.c (.val (.int .i64 0))], none⟩] [] [] [4, 5] false [] []
def c104_6 : ACode := .seq c104_7 .ret
def c104_5 : ACode := .cond (.t 9) c104_6 .skip
def c104_3 : ACode := .seq c104_4 c104_5
def c104_10 : ACode := .region false [⟨some 10, .move, [.t 0], none⟩,
  ⟨some 11, .bin .eql, [.t 10, .c (.val (.int .i64 10))], none⟩,
  ⟨some 12, .move, [.t 11], none⟩,
  ⟨some 13, .move, [.t 0], some (some 12, false)⟩,
  ⟨some 14, .bin .eql, [.t 13, .c (.val (.int .i64 12))], some (some 12, false)⟩,
  ⟨some 15, .pick, [.t 12, .c (.val (.bool true)), .t 14], none⟩] [] [] [0, 15] false [] []
def c104_13 : ACode := .region false [⟨some 4, .move, [.c (.val (.int .i64 1))], none⟩,
  ⟨some 5, .move, [.c (.val (.int .i64 1))], none⟩] [] [] [4, 5] false [] []
def c104_12 : ACode := .seq c104_13 .ret
def c104_11 : ACode := .cond (.t 15) c104_12 .skip
def c104_9 : ACode := .seq c104_10 c104_11
def c104_16 : ACode := .region false [⟨some 16, .move, [.t 0], none⟩,
  ⟨some 17, .bin .eql, [.t 16, .c (.val (.int .i64 11))], none⟩,
  ⟨some 18, .move, [.t 17], none⟩,
  ⟨some 19, .move, [.t 0], some (some 18, false)⟩,
  ⟨some 20, .bin .eql, [.t 19, .c (.val (.int .i64 14))], some (some 18, false)⟩,
  ⟨some 21, .pick, [.t 18, .c (.val (.bool true)), .t 20], none⟩] [] [] [21] false [] []
def c104_19 : ACode := .region false [⟨some 4, .move, [.c (.val (.int .i64 1))], none⟩,
  ⟨some 5, .move, [.c (.val (.int .i64 8))], none⟩] [] [] [4, 5] false [] []
def c104_18 : ACode := .seq c104_19 .ret
def c104_17 : ACode := .cond (.t 21) c104_18 .skip
def c104_15 : ACode := .seq c104_16 c104_17
def c104_21 : ACode := .region false [⟨some 4, .move, [.c (.val (.int .i64 0))], none⟩,
  ⟨some 5, .move, [.c (.val (.int .i64 8))], none⟩] [] [] [4, 5] false [] []
def c104_20 : ACode := .seq c104_21 .ret
def c104_14 : ACode := .seq c104_15 c104_20
def c104_8 : ACode := .seq c104_9 c104_14
def c104_2 : ACode := .seq c104_3 c104_8
def c104_0 : ACode := .seq c104_1 c104_2
def code104 : Code := (Tryz.f104.body).getD .skip
theorem c104_ok : compC Tryz.prog 22 code104 = some (strip c104_0) := by kernel_rfl
theorem res104_ok : Tryz.f104.results.toList.mapM (resC Tryz.prog) = some [(4, none), (5, none)] := by kernel_rfl
/- quidnunc/quidnuncref16.GoodMark -/
def c46_1 : ACode := .region false [⟨some 1, .box 0, [.t 0], none⟩,
  ⟨some 2, .move, [.c (.val (.bool false))], none⟩] [] [] [1] true [] []
def c46_3 : ACode := .region false [⟨some 3, .addr 0, [.t 1], none⟩,
  ⟨some 4, .load true 2, [.t 3], none⟩,
  ⟨some 5, .call 105, [.t 4], none⟩,
  ⟨some 6, .move, [.t 5], none⟩,
  ⟨some 7, .addr 2, [.t 1], some (some 6, true)⟩,
  ⟨some 8, .load false 1, [.t 7], some (some 6, true)⟩,
  ⟨some 9, .lenStr, [.t 8], some (some 6, true)⟩,
  ⟨some 10, .bin .geq, [.t 9, .c (.val (.int .i64 1))], some (some 6, true)⟩,
  ⟨some 11, .pick, [.t 6, .t 10, .c (.val (.bool false))], none⟩,
  ⟨some 12, .move, [.t 11], none⟩,
  ⟨some 13, .addr 2, [.t 1], some (some 12, true)⟩,
  ⟨some 14, .load false 1, [.t 13], some (some 12, true)⟩,
  ⟨some 15, .lenStr, [.t 14], some (some 12, true)⟩,
  ⟨some 16, .bin .leq, [.t 15, .c (.val (.int .i64 16))], some (some 12, true)⟩,
  ⟨some 17, .pick, [.t 12, .t 16, .c (.val (.bool false))], none⟩,
  ⟨some 2, .move, [.t 17], none⟩] [] [] [2] true [] []
def c46_2 : ACode := .seq c46_3 .ret
def c46_0 : ACode := .seq c46_1 c46_2
def code46 : Code := (Tryz.f46.body).getD .skip
theorem c46_ok : compC Tryz.prog 18 code46 = some (strip c46_0) := by kernel_rfl
theorem res46_ok : Tryz.f46.results.toList.mapM (resC Tryz.prog) = some [(2, none)] := by kernel_rfl
/- quidnunc/quidnuncref16.counts -/
def c43_1 : ACode := .region false [⟨some 1, .box 0, [.t 0], none⟩,
  ⟨some 2, .move, [.c (.val (.bool false))], none⟩] [] [] [1] true [] []
def c43_3 : ACode := .region false [⟨some 8, .addr 0, [.t 1], none⟩,
  ⟨some 9, .load false 1, [.t 8], none⟩,
  ⟨some 10, .call 104, [.t 9, .c (.val (.int .i64 7))], none⟩,
  ⟨some 7, .move, [.t 10], none⟩,
  ⟨some 11, .ext 0, [.t 7], none⟩,
  ⟨some 12, .ext 1, [.t 7], none⟩,
  ⟨some 3, .move, [.t 11], none⟩,
  ⟨some 4, .move, [.t 12], none⟩] [] [] [1, 3, 4] true [] []
def c43_5 : ACode := .region false [⟨some 14, .addr 0, [.t 1], none⟩,
  ⟨some 15, .load false 1, [.t 14], none⟩,
  ⟨some 16, .call 104, [.t 15, .c (.val (.int .i64 8))], none⟩,
  ⟨some 13, .move, [.t 16], none⟩,
  ⟨some 17, .ext 0, [.t 13], none⟩,
  ⟨some 18, .ext 1, [.t 13], none⟩,
  ⟨some 5, .move, [.t 17], none⟩,
  ⟨some 6, .move, [.t 18], none⟩] [] [] [1, 3, 4, 5, 6] true [] []
def c43_7 : ACode := .region false [⟨some 19, .addr 10, [.t 1], none⟩,
  ⟨some 20, .load false 1, [.t 19], none⟩,
  ⟨some 21, .len, [.t 20], none⟩,
  ⟨some 22, .move, [.t 3], none⟩,
  ⟨some 23, .bin .geq, [.t 21, .t 22], none⟩,
  ⟨some 24, .move, [.t 23], none⟩,
  ⟨some 25, .addr 10, [.t 1], some (some 24, true)⟩,
  ⟨some 26, .load false 1, [.t 25], some (some 24, true)⟩,
  ⟨some 27, .len, [.t 26], some (some 24, true)⟩,
  ⟨some 28, .move, [.t 4], some (some 24, true)⟩,
  ⟨some 29, .bin .leq, [.t 27, .t 28], some (some 24, true)⟩,
  ⟨some 30, .pick, [.t 24, .t 29, .c (.val (.bool false))], none⟩,
  ⟨some 31, .move, [.t 30], none⟩,
  ⟨some 32, .addr 11, [.t 1], some (some 31, true)⟩,
  ⟨some 33, .load false 1, [.t 32], some (some 31, true)⟩,
  ⟨some 34, .len, [.t 33], some (some 31, true)⟩,
  ⟨some 35, .move, [.t 5], some (some 31, true)⟩,
  ⟨some 36, .bin .geq, [.t 34, .t 35], some (some 31, true)⟩,
  ⟨some 37, .pick, [.t 31, .t 36, .c (.val (.bool false))], none⟩,
  ⟨some 38, .move, [.t 37], none⟩,
  ⟨some 39, .addr 11, [.t 1], some (some 38, true)⟩,
  ⟨some 40, .load false 1, [.t 39], some (some 38, true)⟩,
  ⟨some 41, .len, [.t 40], some (some 38, true)⟩,
  ⟨some 42, .move, [.t 6], some (some 38, true)⟩,
  ⟨some 43, .bin .leq, [.t 41, .t 42], some (some 38, true)⟩,
  ⟨some 44, .pick, [.t 38, .t 43, .c (.val (.bool false))], none⟩,
  ⟨some 45, .move, [.t 44], none⟩,
  ⟨some 46, .addr 4, [.t 1], some (some 45, true)⟩,
  ⟨some 47, .load false 1, [.t 46], some (some 45, true)⟩,
  ⟨some 48, .len, [.t 47], some (some 45, true)⟩,
  ⟨some 49, .bin .leq, [.t 48, .c (.val (.int .i64 8))], some (some 45, true)⟩,
  ⟨some 50, .pick, [.t 45, .t 49, .c (.val (.bool false))], none⟩,
  ⟨some 2, .move, [.t 50], none⟩] [] [] [2] false [] []
def c43_6 : ACode := .seq c43_7 .ret
def c43_4 : ACode := .seq c43_5 c43_6
def c43_2 : ACode := .seq c43_3 c43_4
def c43_0 : ACode := .seq c43_1 c43_2
def code43 : Code := (Tryz.f43.body).getD .skip
theorem c43_ok : compC Tryz.prog 51 code43 = some (strip c43_0) := by kernel_rfl
theorem res43_ok : Tryz.f43.results.toList.mapM (resC Tryz.prog) = some [(2, none)] := by kernel_rfl
/- quidnunc/quidnuncref16.fields -/
def c44_1 : ACode := .region false [⟨some 1, .box 0, [.t 0], none⟩,
  ⟨some 2, .move, [.c (.val (.bool false))], none⟩] [] [] [1] true [] []
def c44_3 : ACode := .region false [⟨some 4, .addr 0, [.t 1], none⟩,
  ⟨some 5, .load false 1, [.t 4], none⟩,
  ⟨some 3, .move, [.t 5], none⟩] [] [] [1, 3] false [] []
def c44_6 : ACode := .region false [⟨some 6, .move, [.t 3], none⟩,
  ⟨some 7, .call 28, [.t 6, .c (.val (.int .i64 0))], none⟩,
  ⟨some 8, .un .not, [.t 7], none⟩,
  ⟨some 9, .move, [.t 8], none⟩,
  ⟨some 10, .addr 1, [.t 1], some (some 9, true)⟩,
  ⟨some 11, .load false 1, [.t 10], some (some 9, true)⟩,
  ⟨some 12, .bin .neq, [.t 11, .c (.val (.int .i64 0))], some (some 9, true)⟩,
  ⟨some 13, .move, [.t 12], some (some 9, true)⟩,
  ⟨some 14, .addr 2, [.t 1], some (some 13, false)⟩,
  ⟨some 15, .load false 1, [.t 14], some (some 13, false)⟩,
  ⟨some 16, .bin .neq, [.t 15, .c (.val (.int .i64 0))], some (some 13, false)⟩,
  ⟨some 17, .pick, [.t 13, .c (.val (.bool true)), .t 16], some (some 9, true)⟩,
  ⟨some 18, .pick, [.t 9, .t 17, .c (.val (.bool false))], none⟩,
  ⟨some 19, .move, [.t 18], none⟩,
  ⟨some 20, .move, [.t 3], some (some 19, false)⟩,
  ⟨some 21, .call 28, [.t 20, .c (.val (.int .i64 2))], some (some 19, false)⟩,
  ⟨some 22, .un .not, [.t 21], some (some 19, false)⟩,
  ⟨some 23, .move, [.t 22], some (some 19, false)⟩,
  ⟨some 24, .addr 3, [.t 1], some (some 23, true)⟩,
  ⟨some 25, .load false 1, [.t 24], some (some 23, true)⟩,
  ⟨some 26, .pick, [.t 23, .t 25, .c (.val (.bool false))], some (some 19, false)⟩,
  ⟨some 27, .pick, [.t 19, .c (.val (.bool true)), .t 26], none⟩,
  ⟨some 28, .move, [.t 27], none⟩,
  ⟨some 29, .move, [.t 3], some (some 28, false)⟩,
  ⟨some 30, .call 28, [.t 29, .c (.val (.int .i64 3))], some (some 28, false)⟩,
  ⟨some 31, .un .not, [.t 30], some (some 28, false)⟩,
  ⟨some 32, .move, [.t 31], some (some 28, false)⟩,
  ⟨some 33, .addr 4, [.t 1], some (some 32, true)⟩,
  ⟨some 34, .load false 1, [.t 33], some (some 32, true)⟩,
  ⟨some 35, .len, [.t 34], some (some 32, true)⟩,
  ⟨some 36, .bin .gtr, [.t 35, .c (.val (.int .i64 0))], some (some 32, true)⟩,
  ⟨some 37, .pick, [.t 32, .t 36, .c (.val (.bool false))], some (some 28, false)⟩,
  ⟨some 38, .pick, [.t 28, .c (.val (.bool true)), .t 37], none⟩] [] [] [1, 3, 38] true [] []
def c44_9 : ACode := .region false [⟨some 2, .move, [.c (.val (.bool false))], none⟩] [] [] [2] false [] []
def c44_8 : ACode := .seq c44_9 .ret
def c44_7 : ACode := .cond (.t 38) c44_8 .skip
def c44_5 : ACode := .seq c44_6 c44_7
def c44_11 : ACode := .region false [⟨some 39, .move, [.t 3], none⟩,
  ⟨some 40, .call 28, [.t 39, .c (.val (.int .i64 4))], none⟩,
  ⟨some 41, .move, [.t 40], none⟩,
  ⟨some 42, .addr 5, [.t 1], some (some 41, false)⟩,
  ⟨some 43, .load false 1, [.t 42], some (some 41, false)⟩,
  ⟨some 44, .bin .eql, [.t 43, .c (.val (.int .i64 0))], some (some 41, false)⟩,
  ⟨some 45, .pick, [.t 41, .c (.val (.bool true)), .t 44], none⟩,
  ⟨some 46, .move, [.t 45], none⟩,
  ⟨some 47, .move, [.t 3], some (some 46, true)⟩,
  ⟨some 48, .call 28, [.t 47, .c (.val (.int .i64 5))], some (some 46, true)⟩,
  ⟨some 49, .move, [.t 48], some (some 46, true)⟩,
  ⟨some 50, .addr 6, [.t 1], some (some 49, false)⟩,
  ⟨some 51, .load false 1, [.t 50], some (some 49, false)⟩,
  ⟨some 52, .bin .eql, [.t 51, .c (.val (.int .u64 0))], some (some 49, false)⟩,
  ⟨some 53, .pick, [.t 49, .c (.val (.bool true)), .t 52], some (some 46, true)⟩,
  ⟨some 54, .pick, [.t 46, .t 53, .c (.val (.bool false))], none⟩,
  ⟨some 55, .move, [.t 54], none⟩,
  ⟨some 56, .move, [.t 3], some (some 55, true)⟩,
  ⟨some 57, .call 28, [.t 56, .c (.val (.int .i64 6))], some (some 55, true)⟩,
  ⟨some 58, .move, [.t 57], some (some 55, true)⟩,
  ⟨some 59, .addr 7, [.t 1], some (some 58, false)⟩,
  ⟨some 60, .load true 3, [.t 59], some (some 58, false)⟩,
  ⟨some 61, .build [(.int .i64 0), (.int .i64 0), (.string ⟨#[]⟩)] [], [], some (some 58, false)⟩,
  ⟨some 62, .eqA false [(0, 0), (1, 0), (2, 1)], [.t 60, .t 61], some (some 58, false)⟩,
  ⟨some 63, .pick, [.t 58, .c (.val (.bool true)), .t 62], some (some 55, true)⟩,
  ⟨some 64, .pick, [.t 55, .t 63, .c (.val (.bool false))], none⟩,
  ⟨some 2, .move, [.t 64], none⟩] [] [] [2] true [] []
def c44_10 : ACode := .seq c44_11 .ret
def c44_4 : ACode := .seq c44_5 c44_10
def c44_2 : ACode := .seq c44_3 c44_4
def c44_0 : ACode := .seq c44_1 c44_2
def code44 : Code := (Tryz.f44.body).getD .skip
theorem c44_ok : compC Tryz.prog 65 code44 = some (strip c44_0) := by kernel_rfl
theorem res44_ok : Tryz.f44.results.toList.mapM (resC Tryz.prog) = some [(2, none)] := by kernel_rfl
theorem in_any (n : Int) (l : List Int) (hl : l.length ≤ 100) : ACall Tryz.prog 79 [I n, .sl 0 0 l.length 1 none] [.cells true (Ri 0 l)] (Det (Bo (l.any fun x => x == n)) [.cells true (Ri 0 l)]) := by
  have hr := ri_ren
  have hL := ri_len 0 l
  refine ACall.startA c79_ok Tryz.func79 rfl Tryz.ntmps79 (by kernel_rfl) res79_ok rfl rfl rfl ?_; simp (maxSteps := 9999999) (disch := omega) only [go_sem]
  (have k9 := And.intro @hr (k0); refine goK ?_; (try clear k9))
  (apply AWpA.loopL (fun i : Nat => [(0, I n), (1, .sl 0 0 l.length 1 none), (5, I i)]) (fun i => [.cells true (Ri 0 l)]) (fun i => l.length - i) (fun i => i ≤ l.length ∧ ∀ q (h : q < l.length), q < i → (l[q] == n) = false) (0) [0]; rotate_left; (focus (simp (maxSteps := 9999999) (disch := omega) only [go_sem, hr]; (try (repeat' (first | done | trivial | rfl | exact leAs_rfl _ | decide | (refine And.intro ?_ ?_) | (simp; done) | omega | (simp; decide)))))); rotate_right)
  · exact ⟨Nat.zero_le _, fun q h hq => by omega⟩
  rintro i ⟨hi, hq⟩
  (try simp only at hi hq)
  by_cases hin : i < l.length
  · have g1 : ((i : Int) < (l.length : Int)) = True := eq_true (by omega)
    have hat := ri_at 0 l i hin
    rw [Nat.zero_add] at hat
    have hfe : (l[i] == n) = true → (l.any fun x => x == n) = true := fun h => List.any_eq_true.2 ⟨_, List.getElem_mem hin, h⟩
    have hn : (l[i] == n) = false → ∀ q (h : q < l.length), q < i + 1 → (l[q] == n) = false := fun h q hl hq' => by
      rcases Nat.lt_or_eq_of_le (Nat.le_of_lt_succ hq') with h' | rfl
      · exact hq q hl h'
      · exact h
    clear hq
    generalize l[i] = x at *
    cases hb : (x == n) with
    | true =>
      rw [hfe hb]
      clear hfe hn
      (try simp (maxSteps := 9999999) (disch := omega) only [go_sem])
      (have k9 := And.intro @hr (And.intro @hL (And.intro @g1 (And.intro @hat (And.intro @hb (k0))))); refine goK ?_; (try clear k9))
      (have k9 := And.intro @hr (k0); exact Ret.dk [0])
    | false =>
      have hn := hn hb
      clear hfe
      (try simp (maxSteps := 9999999) (disch := omega) only [go_sem])
      (have k9 := And.intro @hr (And.intro @hL (And.intro @g1 (And.intro @hat (And.intro @hb (k0))))); refine goK ?_; (try clear k9))
      (have k9 := And.intro @hr (k0); refine Back.tk (i + 1) [0] ?_)
      exact ⟨by omega, hn⟩
  · obtain rfl : i = l.length := by omega
    have g1 : ((l.length : Int) < (l.length : Int)) = False := eq_false (by omega)
    have hno : (l.any fun x => x == n) = false := by
      rw [List.any_eq_false]
      intro x hx
      obtain ⟨q, h, rfl⟩ := List.getElem_of_mem hx
      simpa using hq q h h
    rw [hno]
    clear hq hno
    (try simp (maxSteps := 9999999) (disch := omega) only [go_sem])
    (have k9 := And.intro @hr (And.intro @g1 (k0)); refine goK ?_; (try clear k9))
    (have k9 := And.intro @hr (k0); exact Ret.dk [0])
theorem has0_any (k : Int) : ACall Tryz.prog 28 [I k, I 0] [] (Det (Bo (hasF k 0)) []) := by
  have c := in_any k [2, 7] (by simp)
  have e : ([2, 7] : List Int).any (fun x => x == k) = hasF k 0 := by
    rw [Bool.eq_iff_iff]
    simp [hasF]
    omega
  rw [e, show Ri 0 [2, 7] = [I 2, I 7] from rfl, show ([2, 7] : List Int).length = 2 from rfl] at c
  generalize hasF k 0 = b at *
  refine ACall.startA c28_ok Tryz.func28 rfl Tryz.ntmps28 (by kernel_rfl) res28_ok rfl rfl rfl ?_; simp (maxSteps := 9999999) (disch := omega) only [go_sem]
  (have k9 := k0; (repeat' (first | refine goM ?_ | ((first | refine CallG.pg [_] (c) ?_ | refine CallG.dg [_] (c) ?_); refine goJ ?_) | ((first | refine CondP.split (fun hif => ?_) (fun hif => ?_) | refine Runs.part (fun hif => ?_) (fun hif => ?_)) <;> ((try simp only [BL] at hif); first | (exfalso; omega; done) | refine goI ?_)))); (all_goals (try clear k9)))
  (have k9 := k0; exact Ret.dk [])
theorem has2_any (k : Int) : ACall Tryz.prog 28 [I k, I 2] [] (Det (Bo (hasF k 2)) []) := by
  rw [show hasF k 2 = (k == 3) from rfl]
  refine ACall.startA c28_ok Tryz.func28 rfl Tryz.ntmps28 (by kernel_rfl) res28_ok rfl rfl rfl ?_; simp (maxSteps := 9999999) (disch := omega) only [go_sem]
  (have k9 := k0; refine goK ?_; (try clear k9))
  (have k9 := k0; exact Ret.dk [])
theorem has3_any (k : Int) : ACall Tryz.prog 28 [I k, I 3] [] (Det (Bo (hasF k 3)) []) := by
  have c := in_any k [7, 8] (by simp)
  have e : ([7, 8] : List Int).any (fun x => x == k) = hasF k 3 := by
    rw [Bool.eq_iff_iff]
    simp [hasF]
    omega
  rw [e, show Ri 0 [7, 8] = [I 7, I 8] from rfl, show ([7, 8] : List Int).length = 2 from rfl] at c
  generalize hasF k 3 = b at *
  refine ACall.startA c28_ok Tryz.func28 rfl Tryz.ntmps28 (by kernel_rfl) res28_ok rfl rfl rfl ?_; simp (maxSteps := 9999999) (disch := omega) only [go_sem]
  (have k9 := k0; (repeat' (first | refine goM ?_ | ((first | refine CallG.pg [_] (c) ?_ | refine CallG.dg [_] (c) ?_); refine goJ ?_) | ((first | refine CondP.split (fun hif => ?_) (fun hif => ?_) | refine Runs.part (fun hif => ?_) (fun hif => ?_)) <;> ((try simp only [BL] at hif); first | (exfalso; omega; done) | refine goI ?_)))); (all_goals (try clear k9)))
  (have k9 := k0; exact Ret.dk [])
theorem has4_any (k : Int) : ACall Tryz.prog 28 [I k, I 4] [] (Det (Bo (hasF k 4)) []) := by
  have c := in_any k [16, 17, 18, 19] (by simp)
  have e : ([16, 17, 18, 19] : List Int).any (fun x => x == k) = hasF k 4 := by
    rw [Bool.eq_iff_iff]
    simp [hasF]
    omega
  rw [e, show Ri 0 [16, 17, 18, 19] = [I 16, I 17, I 18, I 19] from rfl, show ([16, 17, 18, 19] : List Int).length = 4 from rfl] at c
  generalize hasF k 4 = b at *
  refine ACall.startA c28_ok Tryz.func28 rfl Tryz.ntmps28 (by kernel_rfl) res28_ok rfl rfl rfl ?_; simp (maxSteps := 9999999) (disch := omega) only [go_sem]
  (have k9 := k0; (repeat' (first | refine goM ?_ | ((first | refine CallG.pg [_] (c) ?_ | refine CallG.dg [_] (c) ?_); refine goJ ?_) | ((first | refine CondP.split (fun hif => ?_) (fun hif => ?_) | refine Runs.part (fun hif => ?_) (fun hif => ?_)) <;> ((try simp only [BL] at hif); first | (exfalso; omega; done) | refine goI ?_)))); (all_goals (try clear k9)))
  (have k9 := k0; exact Ret.dk [])
theorem has5_any (k : Int) : ACall Tryz.prog 28 [I k, I 5] [] (Det (Bo (hasF k 5)) []) := by
  have c := in_any k [16, 17, 19] (by simp)
  have e : ([16, 17, 19] : List Int).any (fun x => x == k) = hasF k 5 := by
    rw [Bool.eq_iff_iff]
    simp [hasF]
    omega
  rw [e, show Ri 0 [16, 17, 19] = [I 16, I 17, I 19] from rfl, show ([16, 17, 19] : List Int).length = 3 from rfl] at c
  generalize hasF k 5 = b at *
  refine ACall.startA c28_ok Tryz.func28 rfl Tryz.ntmps28 (by kernel_rfl) res28_ok rfl rfl rfl ?_; simp (maxSteps := 9999999) (disch := omega) only [go_sem]
  (have k9 := k0; (repeat' (first | refine goM ?_ | ((first | refine CallG.pg [_] (c) ?_ | refine CallG.dg [_] (c) ?_); refine goJ ?_) | ((first | refine CondP.split (fun hif => ?_) (fun hif => ?_) | refine Runs.part (fun hif => ?_) (fun hif => ?_)) <;> ((try simp only [BL] at hif); first | (exfalso; omega; done) | refine goI ?_)))); (all_goals (try clear k9)))
  (have k9 := k0; exact Ret.dk [])
theorem has6_any (k : Int) : ACall Tryz.prog 28 [I k, I 6] [] (Det (Bo (hasF k 6)) []) := by
  have c := in_any k [18, 19] (by simp)
  have e : ([18, 19] : List Int).any (fun x => x == k) = hasF k 6 := by
    rw [Bool.eq_iff_iff]
    simp [hasF]
    omega
  rw [e, show Ri 0 [18, 19] = [I 18, I 19] from rfl, show ([18, 19] : List Int).length = 2 from rfl] at c
  generalize hasF k 6 = b at *
  refine ACall.startA c28_ok Tryz.func28 rfl Tryz.ntmps28 (by kernel_rfl) res28_ok rfl rfl rfl ?_; simp (maxSteps := 9999999) (disch := omega) only [go_sem]
  (have k9 := k0; (repeat' (first | refine goM ?_ | ((first | refine CallG.pg [_] (c) ?_ | refine CallG.dg [_] (c) ?_); refine goJ ?_) | ((first | refine CondP.split (fun hif => ?_) (fun hif => ?_) | refine Runs.part (fun hif => ?_) (fun hif => ?_)) <;> ((try simp only [BL] at hif); first | (exfalso; omega; done) | refine goI ?_)))); (all_goals (try clear k9)))
  (have k9 := k0; exact Ret.dk [])
theorem has7_any (k : Int) : ACall Tryz.prog 28 [I k, I 7] [] (Det (Bo (hasF k 7)) []) := by
  have c := in_any k [11, 12, 15] (by simp)
  have e : ([11, 12, 15] : List Int).any (fun x => x == k) = hasF k 7 := by
    rw [Bool.eq_iff_iff]
    simp [hasF]
    omega
  rw [e, show Ri 0 [11, 12, 15] = [I 11, I 12, I 15] from rfl, show ([11, 12, 15] : List Int).length = 3 from rfl] at c
  generalize hasF k 7 = b at *
  refine ACall.startA c28_ok Tryz.func28 rfl Tryz.ntmps28 (by kernel_rfl) res28_ok rfl rfl rfl ?_; simp (maxSteps := 9999999) (disch := omega) only [go_sem]
  (have k9 := k0; (repeat' (first | refine goM ?_ | ((first | refine CallG.pg [_] (c) ?_ | refine CallG.dg [_] (c) ?_); refine goJ ?_) | ((first | refine CondP.split (fun hif => ?_) (fun hif => ?_) | refine Runs.part (fun hif => ?_) (fun hif => ?_)) <;> ((try simp only [BL] at hif); first | (exfalso; omega; done) | refine goI ?_)))); (all_goals (try clear k9)))
  (have k9 := k0; exact Ret.dk [])
theorem has8_any (k : Int) : ACall Tryz.prog 28 [I k, I 8] [] (Det (Bo (hasF k 8)) []) := by
  have c := in_any k [10, 14, 15, 16, 17, 18, 19] (by simp)
  have e : ([10, 14, 15, 16, 17, 18, 19] : List Int).any (fun x => x == k) = hasF k 8 := by
    rw [Bool.eq_iff_iff]
    simp [hasF]
    omega
  rw [e, show Ri 0 [10, 14, 15, 16, 17, 18, 19] = [I 10, I 14, I 15, I 16, I 17, I 18, I 19] from rfl, show ([10, 14, 15, 16, 17, 18, 19] : List Int).length = 7 from rfl] at c
  generalize hasF k 8 = b at *
  refine ACall.startA c28_ok Tryz.func28 rfl Tryz.ntmps28 (by kernel_rfl) res28_ok rfl rfl rfl ?_; simp (maxSteps := 9999999) (disch := omega) only [go_sem]
  (have k9 := k0; (repeat' (first | refine goM ?_ | ((first | refine CallG.pg [_] (c) ?_ | refine CallG.dg [_] (c) ?_); refine goJ ?_) | ((first | refine CondP.split (fun hif => ?_) (fun hif => ?_) | refine Runs.part (fun hif => ?_) (fun hif => ?_)) <;> ((try simp only [BL] at hif); first | (exfalso; omega; done) | refine goI ?_)))); (all_goals (try clear k9)))
  (have k9 := k0; exact Ret.dk [])
theorem many7_any (k : Int) : ACall Tryz.prog 104 [I k, I 7] [] (Det (.tup [I (manyLo k 7), I (manyHi k 7)]) []) := by
  have c := has7_any k
  unfold manyLo manyHi
  cases hh : hasF k 7 with
  | false =>
    rw [hh] at c
    simp only [Bool.false_eq_true, if_false]
    refine ACall.startA c104_ok Tryz.func104 rfl Tryz.ntmps104 (by kernel_rfl) res104_ok rfl rfl rfl ?_; simp (maxSteps := 9999999) (disch := omega) only [go_sem]
    (have k9 := k0; have a1 := Arm.mk [] c; refine goK ?_; (try clear k9); (try clear a1))
    (have k9 := k0; exact Ret.dk [])
  | true =>
    rw [hh] at c
    simp only [if_true]
    by_cases h1 : k = 10
    · subst h1
      refine ACall.startA c104_ok Tryz.func104 rfl Tryz.ntmps104 (by kernel_rfl) res104_ok rfl rfl rfl ?_; simp (maxSteps := 9999999) (disch := omega) only [go_sem]
      (have k9 := k0; have a1 := Arm.mk [] c; refine goK ?_; (try clear k9); (try clear a1))
      (have k9 := k0; exact Ret.dk [])
    by_cases h2 : k = 12
    · subst h2
      refine ACall.startA c104_ok Tryz.func104 rfl Tryz.ntmps104 (by kernel_rfl) res104_ok rfl rfl rfl ?_; simp (maxSteps := 9999999) (disch := omega) only [go_sem]
      (have k9 := k0; have a1 := Arm.mk [] c; refine goK ?_; (try clear k9); (try clear a1))
      (have k9 := k0; exact Ret.dk [])
    by_cases h3 : k = 11
    · subst h3
      refine ACall.startA c104_ok Tryz.func104 rfl Tryz.ntmps104 (by kernel_rfl) res104_ok rfl rfl rfl ?_; simp (maxSteps := 9999999) (disch := omega) only [go_sem]
      (have k9 := k0; have a1 := Arm.mk [] c; refine goK ?_; (try clear k9); (try clear a1))
      (have k9 := k0; exact Ret.dk [])
    by_cases h4 : k = 14
    · subst h4
      refine ACall.startA c104_ok Tryz.func104 rfl Tryz.ntmps104 (by kernel_rfl) res104_ok rfl rfl rfl ?_; simp (maxSteps := 9999999) (disch := omega) only [go_sem]
      (have k9 := k0; have a1 := Arm.mk [] c; refine goK ?_; (try clear k9); (try clear a1))
      (have k9 := k0; exact Ret.dk [])
    have g1 : (k == 10) = false := by simpa using h1
    have g2 : (k == 12) = false := by simpa using h2
    have g3 : (k == 11) = false := by simpa using h3
    have g4 : (k == 14) = false := by simpa using h4
    rw [if_neg (by omega), if_neg (by omega)]
    refine ACall.startA c104_ok Tryz.func104 rfl Tryz.ntmps104 (by kernel_rfl) res104_ok rfl rfl rfl ?_; simp (maxSteps := 9999999) (disch := omega) only [go_sem]
    (have k9 := And.intro @g1 (And.intro @g2 (And.intro @g3 (And.intro @g4 (k0)))); have a1 := Arm.mk [] c; refine goK ?_; (try clear k9); (try clear a1))
    (have k9 := k0; exact Ret.dk [])
theorem many8_any (k : Int) : ACall Tryz.prog 104 [I k, I 8] [] (Det (.tup [I (manyLo k 8), I (manyHi k 8)]) []) := by
  have c := has8_any k
  unfold manyLo manyHi
  cases hh : hasF k 8 with
  | false =>
    rw [hh] at c
    simp only [Bool.false_eq_true, if_false]
    refine ACall.startA c104_ok Tryz.func104 rfl Tryz.ntmps104 (by kernel_rfl) res104_ok rfl rfl rfl ?_; simp (maxSteps := 9999999) (disch := omega) only [go_sem]
    (have k9 := k0; have a1 := Arm.mk [] c; refine goK ?_; (try clear k9); (try clear a1))
    (have k9 := k0; exact Ret.dk [])
  | true =>
    rw [hh] at c
    simp only [if_true]
    by_cases h1 : k = 10
    · subst h1
      refine ACall.startA c104_ok Tryz.func104 rfl Tryz.ntmps104 (by kernel_rfl) res104_ok rfl rfl rfl ?_; simp (maxSteps := 9999999) (disch := omega) only [go_sem]
      (have k9 := k0; have a1 := Arm.mk [] c; refine goK ?_; (try clear k9); (try clear a1))
      (have k9 := k0; exact Ret.dk [])
    by_cases h2 : k = 12
    · subst h2
      refine ACall.startA c104_ok Tryz.func104 rfl Tryz.ntmps104 (by kernel_rfl) res104_ok rfl rfl rfl ?_; simp (maxSteps := 9999999) (disch := omega) only [go_sem]
      (have k9 := k0; have a1 := Arm.mk [] c; refine goK ?_; (try clear k9); (try clear a1))
      (have k9 := k0; exact Ret.dk [])
    by_cases h3 : k = 11
    · subst h3
      refine ACall.startA c104_ok Tryz.func104 rfl Tryz.ntmps104 (by kernel_rfl) res104_ok rfl rfl rfl ?_; simp (maxSteps := 9999999) (disch := omega) only [go_sem]
      (have k9 := k0; have a1 := Arm.mk [] c; refine goK ?_; (try clear k9); (try clear a1))
      (have k9 := k0; exact Ret.dk [])
    by_cases h4 : k = 14
    · subst h4
      refine ACall.startA c104_ok Tryz.func104 rfl Tryz.ntmps104 (by kernel_rfl) res104_ok rfl rfl rfl ?_; simp (maxSteps := 9999999) (disch := omega) only [go_sem]
      (have k9 := k0; have a1 := Arm.mk [] c; refine goK ?_; (try clear k9); (try clear a1))
      (have k9 := k0; exact Ret.dk [])
    have g1 : (k == 10) = false := by simpa using h1
    have g2 : (k == 12) = false := by simpa using h2
    have g3 : (k == 11) = false := by simpa using h3
    have g4 : (k == 14) = false := by simpa using h4
    rw [if_neg (by omega), if_neg (by omega)]
    refine ACall.startA c104_ok Tryz.func104 rfl Tryz.ntmps104 (by kernel_rfl) res104_ok rfl rfl rfl ?_; simp (maxSteps := 9999999) (disch := omega) only [go_sem]
    (have k9 := And.intro @g1 (And.intro @g2 (And.intro @g3 (And.intro @g4 (k0)))); have a1 := Arm.mk [] c; refine goK ?_; (try clear k9); (try clear a1))
    (have k9 := k0; exact Ret.dk [])
theorem rgoodmk_any (m : Mk) : ACall Tryz.prog 46 [MkG m] [] (Det (Bo (goodMk m)) []) := by
  have c := rgood_any m.act
  unfold goodMk
  generalize goodB m.act = b at *
  cases b
  all_goals
    refine ACall.startA c46_ok Tryz.func46 rfl Tryz.ntmps46 (by kernel_rfl) res46_ok rfl rfl rfl ?_; simp (maxSteps := 9999999) (disch := omega) only [go_sem]
    (have k9 := k0; have a1 := Arm.mk [] c; (repeat' (first | refine goM ?_ | ((first | refine CondP.split (fun hif => ?_) (fun hif => ?_) | refine Runs.part (fun hif => ?_) (fun hif => ?_)) <;> ((try simp only [BL] at hif); first | (exfalso; omega; done) | refine goI ?_)))); (all_goals (try clear k9)); (all_goals (try clear a1)))
    all_goals
      (have k9 := k0; exact Ret.dk [])
      all_goals (simp [*])
/-- The document's order of what lists are as long as they may be. -/
def cntD (m : Wm) : Bool := decide ((manyLo m.kind 7 : Int) ≤ (m.marks.length : Int)) && (decide ((m.marks.length : Int) ≤ (manyHi m.kind 7 : Int)) && (decide ((manyLo m.kind 8 : Int) ≤ (m.ents.length : Int)) && (decide ((m.ents.length : Int) ≤ (manyHi m.kind 8 : Int)) && decide ((m.peers.length : Int) ≤ 8))))
theorem cntD_eq (m : Wm) : cntD m = cntW m := by
  unfold cntD cntW
  have c1 : ∀ a b : Nat, decide ((a : Int) ≤ (b : Int)) = decide (a ≤ b) := fun a b => by simp
  have c2 : decide ((m.peers.length : Int) ≤ 8) = decide (m.peers.length ≤ 8) := c1 m.peers.length 8
  rw [c1, c1, c1, c1, c2]
  ac_rfl
theorem counts_any (m : Wm) (a b c : Nat) : ACall Tryz.prog 43 [WmA m 0 a 1 b 2 c] [.cells true (Ri a m.peers), .cells true (Rm b m.marks), .cells true (Re c m.ents)] (Det (Bo (cntD m)) [.cells true (Ri a m.peers), .cells true (Rm b m.marks), .cells true (Re c m.ents)]) := by
  have hi := ri_ren
  have hm := rm_ren
  have he := re_ren
  have m1 := many7_any m.kind
  have m2 := many8_any m.kind
  unfold cntD
  generalize manyLo m.kind 7 = n1 at *
  generalize manyHi m.kind 7 = n2 at *
  generalize manyLo m.kind 8 = n3 at *
  generalize manyHi m.kind 8 = n4 at *
  refine ACall.startA c43_ok Tryz.func43 rfl Tryz.ntmps43 (by kernel_rfl) res43_ok rfl rfl rfl ?_; simp (maxSteps := 9999999) (disch := omega) only [go_sem]
  (have k9 := And.intro @hi (And.intro @hm (And.intro @he (And.intro @hi (And.intro @hm (And.intro @he (k0)))))); have a1 := Arm.mk [] m1; have a2 := Arm.mk [] m2; have e9 := Ends.mk [0, 1, 2]; exact goE)
end
end Go.Proofs.YtopidfkmligljaaGreat
