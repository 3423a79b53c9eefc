/- Contracts: the document's marks: which is later; found, taken out, put, told. -/
import Derived.Test.YtgjimlgofakbpaaBr6
namespace Go.Proofs.Ytgjimlgofakbpaa
set_option linter.unusedSimpArgs false
set_option linter.unusedVariables false
set_option maxHeartbeats 4000000
open Go Go.Am Go.RowKit
set_option maxRecDepth 100000
/- quidnunc/quidnuncref10.Later -/
noncomputable def c14_1 : ACode := .region false [⟨some 2, .box 0, [.t 0], none⟩,
  ⟨some 3, .box 0, [.t 1], none⟩,
  ⟨some 4, .move, [.c (.val (.bool false))], none⟩] [] [] [2, 3] true [] []
noncomputable def c14_4 : ACode := .region false [⟨some 5, .addr 0, [.t 2], none⟩,
  ⟨some 6, .load true 2, [.t 5], none⟩,
  ⟨some 7, .addr 0, [.t 3], none⟩,
  ⟨some 8, .load true 2, [.t 7], none⟩,
  ⟨some 9, .eqA true [(0, 0), (1, 0)], [.t 6, .t 8], none⟩] [] [] [2, 3, 9] false [] []
noncomputable def c14_7 : ACode := .region false [⟨some 10, .addr 0, [.t 2], none⟩,
  ⟨some 11, .load true 2, [.t 10], none⟩,
  ⟨some 12, .addr 0, [.t 3], none⟩,
  ⟨some 13, .load true 2, [.t 12], none⟩,
  ⟨some 14, .call 38, [.t 11, .t 13], none⟩,
  ⟨some 4, .move, [.t 14], none⟩] [] [] [4] true [] []
noncomputable def c14_6 : ACode := .seq c14_7 .ret
noncomputable def c14_5 : ACode := .cond (.t 9) c14_6 .skip
noncomputable def c14_3 : ACode := .seq c14_4 c14_5
noncomputable def c14_9 : ACode := .region false [⟨some 15, .addr 2, [.t 2], none⟩,
  ⟨some 16, .load false 1, [.t 15], none⟩,
  ⟨some 17, .addr 2, [.t 3], none⟩,
  ⟨some 18, .load false 1, [.t 17], none⟩,
  ⟨some 19, .bin .gtr, [.t 16, .t 18], none⟩,
  ⟨some 4, .move, [.t 19], none⟩] [] [] [4] false [] []
noncomputable def c14_8 : ACode := .seq c14_9 .ret
noncomputable def c14_2 : ACode := .seq c14_3 c14_8
noncomputable def c14_0 : ACode := .seq c14_1 c14_2
noncomputable def code14 : Code := (Try.f14.body).getD .skip
theorem c14_ok : compC Try.prog 20 code14 = some (strip c14_0) := by kernel_rfl
theorem res14_ok : Try.f14.results.toList.mapM (resC Try.prog) = some [(4, none)] := by kernel_rfl
/- quidnunc/quidnuncref10.Find -/
noncomputable def c17_1 : ACode := .region false [⟨some 4, .move, [.c (.val (.int .i64 0))], none⟩] [] [] [0, 1] false [] []
noncomputable def c17_4 : ACode := .region false [⟨some 5, .move, [.c (.val (.int .i64 0))], none⟩] [] [] [0, 1, 5] false [] []
noncomputable def c17_9 : ACode := .region false [⟨some 6, .move, [.t 5], none⟩,
  ⟨some 7, .move, [.t 0], none⟩,
  ⟨some 8, .len, [.t 7], none⟩,
  ⟨some 9, .bin .lss, [.t 6, .t 8], none⟩] [] [] [0, 1, 5, 9] false [] []
noncomputable def c17_10 : ACode := .cond (.t 9) .skip (.exit 0)
noncomputable def c17_8 : ACode := .seq c17_9 c17_10
noncomputable def c17_14 : ACode := .region false [⟨some 12, .move, [.t 0], none⟩,
  ⟨some 13, .move, [.t 5], none⟩,
  ⟨some 14, .ixS 3, [.t 12, .t 13], none⟩,
  ⟨some 15, .addr 2, [.t 14], none⟩,
  ⟨some 16, .load false 1, [.t 15], none⟩,
  ⟨some 17, .move, [.t 1], none⟩,
  ⟨some 18, .bin .eql, [.t 16, .t 17], none⟩] [] [] [0, 1, 5, 18] false [] []
noncomputable def c17_17 : ACode := .region false [⟨some 19, .move, [.t 5], none⟩,
  ⟨some 4, .move, [.t 19], none⟩] [] [] [4] false [] []
noncomputable def c17_16 : ACode := .seq c17_17 .ret
noncomputable def c17_15 : ACode := .cond (.t 18) c17_16 .skip
noncomputable def c17_13 : ACode := .seq c17_14 c17_15
noncomputable def c17_12 : ACode := .block 1 c17_13
noncomputable def c17_18 : ACode := .region false [⟨some 10, .move, [.t 5], none⟩,
  ⟨some 11, .bin .add, [.t 10, .c (.val (.int .i64 1))], none⟩,
  ⟨some 5, .move, [.t 11], none⟩] [] [] [0, 1, 5] false [] []
noncomputable def c17_11 : ACode := .seq c17_12 c17_18
noncomputable def c17_7 : ACode := .seq c17_8 c17_11
noncomputable def c17_6 : ACode := .loop c17_7
noncomputable def c17_5 : ACode := .block 0 c17_6
noncomputable def c17_3 : ACode := .seq c17_4 c17_5
noncomputable def c17_20 : ACode := .region false [⟨some 4, .move, [.c (.val (.int .i64 (-1)))], none⟩] [] [] [4] false [] []
noncomputable def c17_19 : ACode := .seq c17_20 .ret
noncomputable def c17_2 : ACode := .seq c17_3 c17_19
noncomputable def c17_0 : ACode := .seq c17_1 c17_2
noncomputable def code17 : Code := (Try.f17.body).getD .skip
theorem c17_ok : compC Try.prog 20 code17 = some (strip c17_0) := by kernel_rfl
theorem res17_ok : Try.f17.results.toList.mapM (resC Try.prog) = some [(4, none)] := by kernel_rfl
/- quidnunc/quidnuncref10.Drop -/
noncomputable def c20_1 : ACode := .region false [⟨some 4, .move, [.c (.val (.slice none 0 0))], none⟩] [] [] [0, 1] false [] []
noncomputable def c20_3 : ACode := .region false [⟨some 7, .buildSl 3 0 [(.int .i64 0), (.int .i64 0), (.string ⟨#[]⟩)] [], [], none⟩,
  ⟨some 5, .move, [.t 7], none⟩] [] [] [0, 1, 5] true [] []
noncomputable def c20_6 : ACode := .region false [⟨some 6, .move, [.c (.val (.int .i64 0))], none⟩] [] [] [0, 1, 5, 6] false [] []
noncomputable def c20_11 : ACode := .region false [⟨some 8, .move, [.t 6], none⟩,
  ⟨some 9, .move, [.t 0], none⟩,
  ⟨some 10, .len, [.t 9], none⟩,
  ⟨some 11, .bin .lss, [.t 8, .t 10], none⟩] [] [] [0, 1, 5, 6, 11] false [] []
noncomputable def c20_12 : ACode := .cond (.t 11) .skip (.exit 0)
noncomputable def c20_10 : ACode := .seq c20_11 c20_12
noncomputable def c20_16 : ACode := .region false [⟨some 14, .move, [.t 0], none⟩,
  ⟨some 15, .move, [.t 6], none⟩,
  ⟨some 16, .ixS 3, [.t 14, .t 15], none⟩,
  ⟨some 17, .addr 2, [.t 16], none⟩,
  ⟨some 18, .load false 1, [.t 17], none⟩,
  ⟨some 19, .move, [.t 1], none⟩,
  ⟨some 20, .bin .neq, [.t 18, .t 19], none⟩] [] [] [0, 1, 5, 6, 20] false [] []
noncomputable def c20_18 : ACode := .region false [⟨some 21, .move, [.t 5], none⟩,
  ⟨some 22, .move, [.t 0], none⟩,
  ⟨some 23, .move, [.t 6], none⟩,
  ⟨some 24, .ixS 3, [.t 22, .t 23], none⟩,
  ⟨some 25, .load true 3, [.t 24], none⟩,
  ⟨some 26, .buildSl 3 1 [(.int .i64 0), (.int .i64 0), (.string ⟨#[]⟩)] [(0, 3)], [.t 25], none⟩,
  ⟨some 27, .append 3 32 false, [.t 21, .t 26], none⟩,
  ⟨some 5, .move, [.t 27], none⟩] [] [] [0, 1, 5, 6] true [] []
noncomputable def c20_17 : ACode := .cond (.t 20) c20_18 .skip
noncomputable def c20_15 : ACode := .seq c20_16 c20_17
noncomputable def c20_14 : ACode := .block 1 c20_15
noncomputable def c20_19 : ACode := .region false [⟨some 12, .move, [.t 6], none⟩,
  ⟨some 13, .bin .add, [.t 12, .c (.val (.int .i64 1))], none⟩,
  ⟨some 6, .move, [.t 13], none⟩] [] [] [0, 1, 5, 6] false [] []
noncomputable def c20_13 : ACode := .seq c20_14 c20_19
noncomputable def c20_9 : ACode := .seq c20_10 c20_13
noncomputable def c20_8 : ACode := .loop c20_9
noncomputable def c20_7 : ACode := .block 0 c20_8
noncomputable def c20_5 : ACode := .seq c20_6 c20_7
noncomputable def c20_21 : ACode := .region false [⟨some 28, .move, [.t 5], none⟩,
  ⟨some 4, .move, [.t 28], none⟩] [] [] [4] false [] []
noncomputable def c20_20 : ACode := .seq c20_21 .ret
noncomputable def c20_4 : ACode := .seq c20_5 c20_20
noncomputable def c20_2 : ACode := .seq c20_3 c20_4
noncomputable def c20_0 : ACode := .seq c20_1 c20_2
noncomputable def code20 : Code := (Try.f20.body).getD .skip
theorem c20_ok : compC Try.prog 29 code20 = some (strip c20_0) := by kernel_rfl
theorem res20_ok : Try.f20.results.toList.mapM (resC Try.prog) = some [(4, none)] := by kernel_rfl
/- quidnunc/quidnuncref10.Put -/
noncomputable def c18_1 : ACode := .region false [⟨some 3, .box 0, [.t 1], none⟩,
  ⟨some 4, .move, [.c (.val (.slice none 0 0))], none⟩] [] [] [0, 3] true [] []
noncomputable def c18_3 : ACode := .region false [⟨some 9, .buildSl 3 0 [(.int .i64 0), (.int .i64 0), (.string ⟨#[]⟩)] [], [], none⟩,
  ⟨some 5, .move, [.t 9], none⟩] [] [] [0, 3, 5] true [] []
noncomputable def c18_5 : ACode := .region false [⟨some 6, .move, [.c (.val (.bool false))], none⟩] [] [] [0, 3, 5, 6] false [] []
noncomputable def c18_7 : ACode := .region false [⟨some 10, .move, [.t 0], none⟩,
  ⟨some 11, .addr 2, [.t 3], none⟩,
  ⟨some 12, .load false 1, [.t 11], none⟩,
  ⟨some 13, .call 20, [.t 10, .t 12], none⟩,
  ⟨some 7, .move, [.t 13], none⟩] [] [] [3, 5, 6, 7] true [] []
noncomputable def c18_10 : ACode := .region false [⟨some 8, .move, [.c (.val (.int .i64 0))], none⟩] [] [] [3, 5, 6, 7, 8] false [] []
noncomputable def c18_15 : ACode := .region false [⟨some 14, .move, [.t 8], none⟩,
  ⟨some 15, .move, [.t 7], none⟩,
  ⟨some 16, .len, [.t 15], none⟩,
  ⟨some 17, .bin .lss, [.t 14, .t 16], none⟩] [] [] [3, 5, 6, 7, 8, 17] false [] []
noncomputable def c18_16 : ACode := .cond (.t 17) .skip (.exit 0)
noncomputable def c18_14 : ACode := .seq c18_15 c18_16
noncomputable def c18_21 : ACode := .region true [⟨some 20, .move, [.t 6], none⟩,
  ⟨some 21, .un .not, [.t 20], none⟩,
  ⟨some 22, .move, [.t 21], none⟩,
  ⟨some 23, .load true 3, [.t 3], some (some 22, true)⟩,
  ⟨some 24, .move, [.t 7], some (some 22, true)⟩,
  ⟨some 25, .move, [.t 8], some (some 22, true)⟩,
  ⟨some 26, .ixS 3, [.t 24, .t 25], some (some 22, true)⟩,
  ⟨some 27, .load true 3, [.t 26], some (some 22, true)⟩,
  ⟨some 28, .call 14, [.t 23, .t 27], some (some 22, true)⟩,
  ⟨some 29, .pick, [.t 22, .t 28, .c (.val (.bool false))], none⟩] [] [] [3, 5, 6, 7, 8, 29] true [] []
noncomputable def c18_24 : ACode := .region false [⟨some 30, .move, [.t 5], none⟩,
  ⟨some 31, .load true 3, [.t 3], none⟩,
  ⟨some 32, .buildSl 3 1 [(.int .i64 0), (.int .i64 0), (.string ⟨#[]⟩)] [(0, 3)], [.t 31], none⟩,
  ⟨some 33, .append 3 32 false, [.t 30, .t 32], none⟩,
  ⟨some 5, .move, [.t 33], none⟩] [] [] [3, 5, 7, 8] true [] []
noncomputable def c18_25 : ACode := .region false [⟨some 6, .move, [.c (.val (.bool true))], none⟩] [] [] [3, 5, 6, 7, 8] false [] []
noncomputable def c18_23 : ACode := .seq c18_24 c18_25
noncomputable def c18_22 : ACode := .cond (.t 29) c18_23 .skip
noncomputable def c18_20 : ACode := .seq c18_21 c18_22
noncomputable def c18_26 : ACode := .region false [⟨some 34, .move, [.t 5], none⟩,
  ⟨some 35, .move, [.t 7], none⟩,
  ⟨some 36, .move, [.t 8], none⟩,
  ⟨some 37, .ixS 3, [.t 35, .t 36], none⟩,
  ⟨some 38, .load true 3, [.t 37], none⟩,
  ⟨some 39, .buildSl 3 1 [(.int .i64 0), (.int .i64 0), (.string ⟨#[]⟩)] [(0, 3)], [.t 38], none⟩,
  ⟨some 40, .append 3 32 false, [.t 34, .t 39], none⟩,
  ⟨some 5, .move, [.t 40], none⟩] [] [] [3, 5, 6, 7, 8] true [] []
noncomputable def c18_19 : ACode := .seq c18_20 c18_26
noncomputable def c18_18 : ACode := .block 1 c18_19
noncomputable def c18_27 : ACode := .region false [⟨some 18, .move, [.t 8], none⟩,
  ⟨some 19, .bin .add, [.t 18, .c (.val (.int .i64 1))], none⟩,
  ⟨some 8, .move, [.t 19], none⟩] [] [] [3, 5, 6, 7, 8] false [] []
noncomputable def c18_17 : ACode := .seq c18_18 c18_27
noncomputable def c18_13 : ACode := .seq c18_14 c18_17
noncomputable def c18_12 : ACode := .loop c18_13
noncomputable def c18_11 : ACode := .block 0 c18_12
noncomputable def c18_9 : ACode := .seq c18_10 c18_11
noncomputable def c18_30 : ACode := .region false [⟨some 41, .move, [.t 6], none⟩,
  ⟨some 42, .un .not, [.t 41], none⟩] [] [] [3, 5, 42] false [] []
noncomputable def c18_32 : ACode := .region false [⟨some 43, .move, [.t 5], none⟩,
  ⟨some 44, .load true 3, [.t 3], none⟩,
  ⟨some 45, .buildSl 3 1 [(.int .i64 0), (.int .i64 0), (.string ⟨#[]⟩)] [(0, 3)], [.t 44], none⟩,
  ⟨some 46, .append 3 32 false, [.t 43, .t 45], none⟩,
  ⟨some 5, .move, [.t 46], none⟩] [] [] [5] true [] []
noncomputable def c18_31 : ACode := .cond (.t 42) c18_32 .skip
noncomputable def c18_29 : ACode := .seq c18_30 c18_31
noncomputable def c18_34 : ACode := .region false [⟨some 47, .move, [.t 5], none⟩,
  ⟨some 4, .move, [.t 47], none⟩] [] [] [4] false [] []
noncomputable def c18_33 : ACode := .seq c18_34 .ret
noncomputable def c18_28 : ACode := .seq c18_29 c18_33
noncomputable def c18_8 : ACode := .seq c18_9 c18_28
noncomputable def c18_6 : ACode := .seq c18_7 c18_8
noncomputable def c18_4 : ACode := .seq c18_5 c18_6
noncomputable def c18_2 : ACode := .seq c18_3 c18_4
noncomputable def c18_0 : ACode := .seq c18_1 c18_2
noncomputable def code18 : Code := (Try.f18.body).getD .skip
theorem c18_ok : compC Try.prog 48 code18 = some (strip c18_0) := by kernel_rfl
theorem res18_ok : Try.f18.results.toList.mapM (resC Try.prog) = some [(4, none)] := by kernel_rfl
/- quidnunc/quidnuncref10.Below -/
noncomputable def c28_1 : ACode := .region false [⟨some 4, .box 0, [.t 1], none⟩,
  ⟨some 6, .move, [.c (.val (.slice none 0 0))], none⟩] [] [] [0, 2, 4] true [] []
noncomputable def c28_3 : ACode := .region false [⟨some 9, .buildSl 3 0 [(.int .i64 0), (.int .i64 0), (.string ⟨#[]⟩)] [], [], none⟩,
  ⟨some 7, .move, [.t 9], none⟩] [] [] [0, 2, 4, 7] true [] []
noncomputable def c28_6 : ACode := .region false [⟨some 8, .move, [.c (.val (.int .i64 0))], none⟩] [] [] [0, 2, 4, 7, 8] false [] []
noncomputable def c28_11 : ACode := .region false [⟨some 10, .move, [.t 8], none⟩,
  ⟨some 11, .move, [.t 0], none⟩,
  ⟨some 12, .len, [.t 11], none⟩,
  ⟨some 13, .bin .lss, [.t 10, .t 12], none⟩] [] [] [0, 2, 4, 7, 8, 13] false [] []
noncomputable def c28_12 : ACode := .cond (.t 13) .skip (.exit 0)
noncomputable def c28_10 : ACode := .seq c28_11 c28_12
noncomputable def c28_16 : ACode := .region true [⟨some 16, .load true 3, [.t 4], none⟩,
  ⟨some 17, .build [(.int .i64 0), (.int .i64 0), (.string ⟨#[]⟩)] [], [], none⟩,
  ⟨some 18, .eqA false [(0, 0), (1, 0), (2, 1)], [.t 16, .t 17], none⟩,
  ⟨some 19, .move, [.t 18], none⟩,
  ⟨some 20, .load true 3, [.t 4], some (some 19, false)⟩,
  ⟨some 21, .move, [.t 0], some (some 19, false)⟩,
  ⟨some 22, .move, [.t 8], some (some 19, false)⟩,
  ⟨some 23, .ixS 3, [.t 21, .t 22], some (some 19, false)⟩,
  ⟨some 24, .load true 3, [.t 23], some (some 19, false)⟩,
  ⟨some 25, .call 14, [.t 20, .t 24], some (some 19, false)⟩,
  ⟨some 26, .pick, [.t 19, .c (.val (.bool true)), .t 25], none⟩,
  ⟨some 27, .move, [.t 26], none⟩,
  ⟨some 28, .move, [.t 7], some (some 27, true)⟩,
  ⟨some 29, .len, [.t 28], some (some 27, true)⟩,
  ⟨some 30, .move, [.t 2], some (some 27, true)⟩,
  ⟨some 31, .bin .lss, [.t 29, .t 30], some (some 27, true)⟩,
  ⟨some 32, .pick, [.t 27, .t 31, .c (.val (.bool false))], none⟩] [] [] [0, 2, 4, 7, 8, 32] true [] []
noncomputable def c28_18 : ACode := .region false [⟨some 33, .move, [.t 7], none⟩,
  ⟨some 34, .move, [.t 0], none⟩,
  ⟨some 35, .move, [.t 8], none⟩,
  ⟨some 36, .ixS 3, [.t 34, .t 35], none⟩,
  ⟨some 37, .load true 3, [.t 36], none⟩,
  ⟨some 38, .buildSl 3 1 [(.int .i64 0), (.int .i64 0), (.string ⟨#[]⟩)] [(0, 3)], [.t 37], none⟩,
  ⟨some 39, .append 3 32 false, [.t 33, .t 38], none⟩,
  ⟨some 7, .move, [.t 39], none⟩] [] [] [0, 2, 4, 7, 8] true [] []
noncomputable def c28_17 : ACode := .cond (.t 32) c28_18 .skip
noncomputable def c28_15 : ACode := .seq c28_16 c28_17
noncomputable def c28_14 : ACode := .block 1 c28_15
noncomputable def c28_19 : ACode := .region false [⟨some 14, .move, [.t 8], none⟩,
  ⟨some 15, .bin .add, [.t 14, .c (.val (.int .i64 1))], none⟩,
  ⟨some 8, .move, [.t 15], none⟩] [] [] [0, 2, 4, 7, 8] false [] []
noncomputable def c28_13 : ACode := .seq c28_14 c28_19
noncomputable def c28_9 : ACode := .seq c28_10 c28_13
noncomputable def c28_8 : ACode := .loop c28_9
noncomputable def c28_7 : ACode := .block 0 c28_8
noncomputable def c28_5 : ACode := .seq c28_6 c28_7
noncomputable def c28_21 : ACode := .region false [⟨some 40, .move, [.t 7], none⟩,
  ⟨some 6, .move, [.t 40], none⟩] [] [] [6] false [] []
noncomputable def c28_20 : ACode := .seq c28_21 .ret
noncomputable def c28_4 : ACode := .seq c28_5 c28_20
noncomputable def c28_2 : ACode := .seq c28_3 c28_4
noncomputable def c28_0 : ACode := .seq c28_1 c28_2
noncomputable def code28 : Code := (Try.f28.body).getD .skip
theorem c28_ok : compC Try.prog 41 code28 = some (strip c28_0) := by kernel_rfl
theorem res28_ok : Try.f28.results.toList.mapM (resC Try.prog) = some [(6, none)] := by kernel_rfl
theorem gtK (a b : ByteArray) : (!(ltK a b || a == b)) = ltK b a := by
  cases h : ltK a b with
  | true => rw [ltK_asym h]; rfl
  | false =>
    cases k : ltK b a with
    | true =>
      have : (a == b) = false := by
        cases e : (a == b) with
        | false => rfl
        | true => rw [(ba_iff a b).1 e, ltK_irr] at k; cases k
      rw [this]; rfl
    | false => rw [ltK_tri h k]; simp [ba_refl]
theorem rlat_any (a b : Mk) : ACall Try.prog 14 [MkG a, MkG b] [] (Det (Bo (latM a b)) []) := by
  have c := later_any a.act b.act
  by_cases h : a.act = b.act
  · have e : latM a b = ltK b.key a.key := by unfold latM; rw [if_pos h]
    have hs : (a.act.c == b.act.c && a.act.s == b.act.s) = true := by rw [h]; simp
    rw [e]
    clear h e
    refine ACall.startA c14_ok Try.func14 rfl Try.ntmps14 (by kernel_rfl) res14_ok rfl rfl rfl ?_; simp (maxSteps := 9999999) (disch := omega) only [go_sem]
    (repeat' (first | refine AWpA.seq ?_ | refine AWpA.block ?_ | (with_reducible refine CondP.tt ?_) | (with_reducible refine CondP.ff ?_) | refine AWpA.condv (by simp (maxSteps := 9999999) (disch := omega) only [go_sem, hs]; rfl) ?_ | ((first | (apply AWpA.region; (focus (simp (maxSteps := 9999999) (disch := omega) only [go_sem, hs]; rfl))) | (apply AWpA.draw [] [] follows; (focus (first | rfl | decide)); (focus (simp (maxSteps := 9999999) (disch := omega) only [go_sem, hs]; rfl)); (focus (simp (maxSteps := 9999999) (disch := omega) only [go_sem, hs]; first | done | trivial)); (focus (simp (maxSteps := 9999999) (disch := omega) only [go_sem, hs]; rfl))) | (apply TailK.go; (focus (simp (maxSteps := 9999999) (disch := omega) only [go_sem, hs]; rfl))) | refine AWpA.skip ?_ | refine AWpA.exit ?_ | refine AWpA.ret ?_ | (with_reducible refine ARoundsA.succ ?_) | ((first | refine Runs.kt (by assumption) (fun h9 => ?_) | refine Runs.kf (by assumption) (fun h9 => ?_) | refine Runs.nt (by assumption) (fun h9 => ?_) | refine Runs.nf (by assumption) (fun h9 => ?_) | refine CondP.ht (by assumption) (fun h9 => ?_) | refine CondP.hf (by assumption) (fun h9 => ?_) | refine CondP.nt (by assumption) (fun h9 => ?_) | refine CondP.nf (by assumption) (fun h9 => ?_)); (try simp only [h9]); clear h9)); (try simp (maxSteps := 9999999) (disch := omega) only [go_sem, hs]); (try (refine And.intro ?_ ?_; (focus (first | omega | (simp only [go_sem]; done) | (simp; done) | (simp; omega) | assumption))))) | ((first | refine CondP.split (fun hif => ?_) (fun hif => ?_) | refine Runs.part (fun hif => ?_) (fun hif => ?_)) <;> ((try simp only [hif]); (try simp only [decide_eq_true_eq, decide_eq_false_iff_not, Bool.not_eq_true, Bool.not_eq_false, Bool.not_eq_true', Bool.not_eq_false', beq_iff_eq, bne_iff_ne, bne_eq_false_iff_eq, beq_eq_false_iff_ne, ne_eq, Bool.and_eq_true, Bool.or_eq_true, Bool.or_eq_false_iff] at hif); (try (have h9 : _ = true := hif; simp only [h9])); (try (have h9 : _ = false := hif; simp only [h9])); (try simp (maxSteps := 9999999) (disch := omega) only [go_sem, hs]); (try (refine And.intro ?_ ?_; (focus (first | omega | (simp only [go_sem]; done) | (simp; done) | (simp; omega) | assumption)))); (try (exfalso; omega; done))))))
    (apply Ret.det []; (focus (first | exact .inl rfl | exact .inr rfl)); (focus (simp (maxSteps := 9999999) (disch := omega) only [go_sem, gtK]; rfl)); (simp (maxSteps := 9999999) (disch := omega) only [go_sem, gtK]; (try (repeat' (first | done | trivial | rfl | exact leAs_rfl _ | decide | (refine And.intro ?_ ?_) | (simp; done) | omega | (simp; decide))))))
  · have e : latM a b = laterB a.act b.act := by unfold latM; rw [if_neg h]
    have hs : (a.act.c == b.act.c && a.act.s == b.act.s) = false := by
      cases h' : (a.act.c == b.act.c && a.act.s == b.act.s) with
      | false => rfl
      | true =>
        simp only [Bool.and_eq_true, beq_iff_eq] at h'
        exact absurd (by cases ha : a.act; cases hb : b.act; simp_all) h
    rw [e]
    clear h e
    refine ACall.startA c14_ok Try.func14 rfl Try.ntmps14 (by kernel_rfl) res14_ok rfl rfl rfl ?_; simp (maxSteps := 9999999) (disch := omega) only [go_sem]
    (repeat' (first | refine AWpA.seq ?_ | refine AWpA.block ?_ | (with_reducible refine CondP.tt ?_) | (with_reducible refine CondP.ff ?_) | refine AWpA.condv (by simp (maxSteps := 9999999) (disch := omega) only [go_sem, hs]; rfl) ?_ | ((first | (apply AWpA.region; (focus (simp (maxSteps := 9999999) (disch := omega) only [go_sem, hs]; rfl))) | (apply AWpA.draw [] [] follows; (focus (first | rfl | decide)); (focus (simp (maxSteps := 9999999) (disch := omega) only [go_sem, hs]; rfl)); (focus (simp (maxSteps := 9999999) (disch := omega) only [go_sem, hs]; first | done | trivial)); (focus (simp (maxSteps := 9999999) (disch := omega) only [go_sem, hs]; rfl))) | (apply TailK.go; (focus (simp (maxSteps := 9999999) (disch := omega) only [go_sem, hs]; rfl))) | refine AWpA.skip ?_ | refine AWpA.exit ?_ | refine AWpA.ret ?_ | (with_reducible refine ARoundsA.succ ?_) | ((first | refine Runs.kt (by assumption) (fun h9 => ?_) | refine Runs.kf (by assumption) (fun h9 => ?_) | refine Runs.nt (by assumption) (fun h9 => ?_) | refine Runs.nf (by assumption) (fun h9 => ?_) | refine CondP.ht (by assumption) (fun h9 => ?_) | refine CondP.hf (by assumption) (fun h9 => ?_) | refine CondP.nt (by assumption) (fun h9 => ?_) | refine CondP.nf (by assumption) (fun h9 => ?_)); (try simp only [h9]); clear h9) | ((first | (with_reducible apply CallG.plain1 [] (c)) | (with_reducible apply CallG.draw1 [] (c))); (focus ((try refine And.intro (leAs_of_eq rfl) ?_); (try refine And.intro (leOL_of_eq rfl) ?_); simp (maxSteps := 9999999) (disch := omega) only [go_sem, hs]; first | done | (repeat' (first | rfl | (refine And.intro ?_ ?_))))); (focus (simp (maxSteps := 9999999) (disch := omega) only [go_sem, hs]; rfl)))); (try simp (maxSteps := 9999999) (disch := omega) only [go_sem, hs]); (try (refine And.intro ?_ ?_; (focus (first | omega | (simp only [go_sem]; done) | (simp; done) | (simp; omega) | assumption))))) | ((first | refine CondP.split (fun hif => ?_) (fun hif => ?_) | refine Runs.part (fun hif => ?_) (fun hif => ?_)) <;> ((try simp only [hif]); (try simp only [decide_eq_true_eq, decide_eq_false_iff_not, Bool.not_eq_true, Bool.not_eq_false, Bool.not_eq_true', Bool.not_eq_false', beq_iff_eq, bne_iff_ne, bne_eq_false_iff_eq, beq_eq_false_iff_ne, ne_eq, Bool.and_eq_true, Bool.or_eq_true, Bool.or_eq_false_iff] at hif); (try (have h9 : _ = true := hif; simp only [h9])); (try (have h9 : _ = false := hif; simp only [h9])); (try simp (maxSteps := 9999999) (disch := omega) only [go_sem, hs]); (try (refine And.intro ?_ ?_; (focus (first | omega | (simp only [go_sem]; done) | (simp; done) | (simp; omega) | assumption)))); (try (exfalso; omega; done))))))
    (apply Ret.det []; (focus (first | exact .inl rfl | exact .inr rfl)); (focus (simp (maxSteps := 9999999) (disch := omega) only [go_sem]; rfl)); (simp (maxSteps := 9999999) (disch := omega) only [go_sem]; (try (repeat' (first | done | trivial | rfl | exact leAs_rfl _ | decide | (refine And.intro ?_ ?_) | (simp; done) | omega | (simp; decide))))))
/-- A key's place; -1: none. -/
def findR (l : List Mk) (k : ByteArray) : Int := if l.findIdx (fun m => decide (m.key = k)) < l.length then (l.findIdx (fun m => decide (m.key = k)) : Int) else -1
theorem findR_at {l : List Mk} {k : ByteArray} {i : Nat} (hi : i < l.length) (hq : ∀ q (h : q < l.length), q < i → l[q].key ≠ k) (he : l[i].key = k) : findR l k = i := by
  have : l.findIdx (fun m => decide (m.key = k)) = i := (List.findIdx_eq hi).2 ⟨decide_eq_true he, fun j hj => decide_eq_false (hq j (by omega) hj)⟩
  unfold findR
  rw [this, if_pos hi]
theorem findR_no {l : List Mk} {k : ByteArray} (h : ∀ a ∈ l, a.key ≠ k) : findR l k = -1 := by
  have : l.findIdx (fun m => decide (m.key = k)) = l.length := List.findIdx_eq_length.2 fun x hx => decide_eq_false (h x hx)
  unfold findR
  rw [this, if_neg (by omega)]
theorem rm_key (l : List Mk) (i : Nat) (h : i < l.length) : (Rm 0 l).getD (i * 3 + 2) AV.bad = .val (.string l[i].key) := by
  have hat := rm_at 0 l i h
  rw [Nat.zero_add] at hat
  rw [List.getD_eq_getElem?_getD]
  have := congrArg (fun x => x[2]?) hat
  rw [List.getElem?_take, if_pos (by omega), List.getElem?_drop] at this
  rw [this]; rfl
theorem rfindM_any (l : List Mk) (k : ByteArray) (hl : l.length ≤ 1099511627776) : ACall Try.prog 17 [.sl 0 0 l.length 3 none, Str k] [.cells true (Rm 0 l)] (Det (I (findR l k)) [.cells true (Rm 0 l)]) := by
  have hr := rm_ren 0 l
  have hlen := rm_len 0 l
  refine ACall.startA c17_ok Try.func17 rfl Try.ntmps17 (by kernel_rfl) res17_ok rfl rfl rfl ?_; simp (maxSteps := 9999999) (disch := omega) only [go_sem]
  (repeat' (first | refine AWpA.seq ?_ | refine AWpA.block ?_ | (with_reducible refine CondP.tt ?_) | (with_reducible refine CondP.ff ?_) | refine AWpA.condv (by simp (maxSteps := 9999999) (disch := omega) only [go_sem, hr]; rfl) ?_ | ((first | (apply AWpA.region; (focus (simp (maxSteps := 9999999) (disch := omega) only [go_sem, hr]; rfl))) | (apply AWpA.draw [] [] follows; (focus (first | rfl | decide)); (focus (simp (maxSteps := 9999999) (disch := omega) only [go_sem, hr]; rfl)); (focus (simp (maxSteps := 9999999) (disch := omega) only [go_sem, hr]; first | done | trivial)); (focus (simp (maxSteps := 9999999) (disch := omega) only [go_sem, hr]; rfl))) | (apply TailK.go; (focus (simp (maxSteps := 9999999) (disch := omega) only [go_sem, hr]; rfl))) | refine AWpA.skip ?_ | refine AWpA.exit ?_ | refine AWpA.ret ?_ | (with_reducible refine ARoundsA.succ ?_) | ((first | refine Runs.kt (by assumption) (fun h9 => ?_) | refine Runs.kf (by assumption) (fun h9 => ?_) | refine Runs.nt (by assumption) (fun h9 => ?_) | refine Runs.nf (by assumption) (fun h9 => ?_) | refine CondP.ht (by assumption) (fun h9 => ?_) | refine CondP.hf (by assumption) (fun h9 => ?_) | refine CondP.nt (by assumption) (fun h9 => ?_) | refine CondP.nf (by assumption) (fun h9 => ?_)); (try simp only [h9]); clear h9)); (try simp (maxSteps := 9999999) (disch := omega) only [go_sem, hr]); (try (refine And.intro ?_ ?_; (focus (first | omega | (simp only [go_sem]; done) | (simp; done) | (simp; omega) | assumption))))) | ((first | refine CondP.split (fun hif => ?_) (fun hif => ?_) | refine Runs.part (fun hif => ?_) (fun hif => ?_)) <;> ((try simp only [hif]); (try simp only [decide_eq_true_eq, decide_eq_false_iff_not, Bool.not_eq_true, Bool.not_eq_false, Bool.not_eq_true', Bool.not_eq_false', beq_iff_eq, bne_iff_ne, bne_eq_false_iff_eq, beq_eq_false_iff_ne, ne_eq, Bool.and_eq_true, Bool.or_eq_true, Bool.or_eq_false_iff] at hif); (try (have h9 : _ = true := hif; simp only [h9])); (try (have h9 : _ = false := hif; simp only [h9])); (try simp (maxSteps := 9999999) (disch := omega) only [go_sem, hr]); (try (refine And.intro ?_ ?_; (focus (first | omega | (simp only [go_sem]; done) | (simp; done) | (simp; omega) | assumption)))); (try (exfalso; omega; done))))))
  (apply AWpA.loopL (fun i : Nat => [(0, .sl 0 0 l.length 3 none), (1, Str k), (5, I i)]) (fun i => [.cells true (Rm 0 l)]) (fun i => l.length - i) (fun i => i ≤ l.length ∧ ∀ q (h : q < l.length), q < i → l[q].key ≠ k) (0) [0]; rotate_left; (focus (simp (maxSteps := 9999999) (disch := omega) only [go_sem, hr]; (try (repeat' (first | done | trivial | rfl | exact leAs_rfl _ | decide | (refine And.intro ?_ ?_) | (simp; done) | omega | (simp; decide)))))); rotate_right)
  · exact ⟨Nat.zero_le _, fun q h hq => by omega⟩
  rintro i ⟨hi, hq⟩
  (try simp only at hi hq)
  by_cases hil : i < l.length
  · have g1 : ((i : Int) < (l.length : Int)) = True := eq_true (by omega)
    have hk0 := rm_key l i hil
    have hat := findR_at hil hq
    have hn : l[i].key ≠ k → ∀ q (h : q < l.length), q < i + 1 → l[q].key ≠ k := fun h q hl hq' => by
      rcases Nat.lt_or_eq_of_le (Nat.le_of_lt_succ hq') with h' | rfl
      · exact hq q hl h'
      · exact h
    clear hq
    generalize l[i] = x at *
    by_cases he : x.key = k
    · have hb : (x.key == k) = true := by rw [ba_dec, decide_eq_true he]
      rw [hat he]
      clear hn hat
      (try simp (maxSteps := 9999999) (disch := omega) only [go_sem])
      (repeat' (first | refine AWpA.seq ?_ | refine AWpA.block ?_ | (with_reducible refine CondP.tt ?_) | (with_reducible refine CondP.ff ?_) | refine AWpA.condv (by simp (maxSteps := 9999999) (disch := omega) only [go_sem, hr, hlen, g1, hk0, hb]; rfl) ?_ | ((first | (apply AWpA.region; (focus (simp (maxSteps := 9999999) (disch := omega) only [go_sem, hr, hlen, g1, hk0, hb]; rfl))) | (apply AWpA.draw [] [] follows; (focus (first | rfl | decide)); (focus (simp (maxSteps := 9999999) (disch := omega) only [go_sem, hr, hlen, g1, hk0, hb]; rfl)); (focus (simp (maxSteps := 9999999) (disch := omega) only [go_sem, hr, hlen, g1, hk0, hb]; first | done | trivial)); (focus (simp (maxSteps := 9999999) (disch := omega) only [go_sem, hr, hlen, g1, hk0, hb]; rfl))) | (apply TailK.go; (focus (simp (maxSteps := 9999999) (disch := omega) only [go_sem, hr, hlen, g1, hk0, hb]; rfl))) | refine AWpA.skip ?_ | refine AWpA.exit ?_ | refine AWpA.ret ?_ | (with_reducible refine ARoundsA.succ ?_) | ((first | refine Runs.kt (by assumption) (fun h9 => ?_) | refine Runs.kf (by assumption) (fun h9 => ?_) | refine Runs.nt (by assumption) (fun h9 => ?_) | refine Runs.nf (by assumption) (fun h9 => ?_) | refine CondP.ht (by assumption) (fun h9 => ?_) | refine CondP.hf (by assumption) (fun h9 => ?_) | refine CondP.nt (by assumption) (fun h9 => ?_) | refine CondP.nf (by assumption) (fun h9 => ?_)); (try simp only [h9]); clear h9)); (try simp (maxSteps := 9999999) (disch := omega) only [go_sem, hr, hlen, g1, hk0, hb]); (try (refine And.intro ?_ ?_; (focus (first | omega | (simp only [go_sem]; done) | (simp; done) | (simp; omega) | assumption))))) | ((first | refine CondP.split (fun hif => ?_) (fun hif => ?_) | refine Runs.part (fun hif => ?_) (fun hif => ?_)) <;> ((try simp only [hif]); (try simp only [decide_eq_true_eq, decide_eq_false_iff_not, Bool.not_eq_true, Bool.not_eq_false, Bool.not_eq_true', Bool.not_eq_false', beq_iff_eq, bne_iff_ne, bne_eq_false_iff_eq, beq_eq_false_iff_ne, ne_eq, Bool.and_eq_true, Bool.or_eq_true, Bool.or_eq_false_iff] at hif); (try (have h9 : _ = true := hif; simp only [h9])); (try (have h9 : _ = false := hif; simp only [h9])); (try simp (maxSteps := 9999999) (disch := omega) only [go_sem, hr, hlen, g1, hk0, hb]); (try (refine And.intro ?_ ?_; (focus (first | omega | (simp only [go_sem]; done) | (simp; done) | (simp; omega) | assumption)))); (try (exfalso; omega; done))))))
      (apply Ret.det [0]; (focus (first | exact .inl rfl | exact .inr rfl)); (focus (simp (maxSteps := 9999999) (disch := omega) only [go_sem, hr]; rfl)); (simp (maxSteps := 9999999) (disch := omega) only [go_sem, hr]; (try (repeat' (first | done | trivial | rfl | exact leAs_rfl _ | decide | (refine And.intro ?_ ?_) | (simp; done) | omega | (simp; decide))))))
    · have hb : (x.key == k) = false := by rw [ba_dec, decide_eq_false he]
      have hn := hn he
      clear hat
      (try simp (maxSteps := 9999999) (disch := omega) only [go_sem])
      (repeat' (first | refine AWpA.seq ?_ | refine AWpA.block ?_ | (with_reducible refine CondP.tt ?_) | (with_reducible refine CondP.ff ?_) | refine AWpA.condv (by simp (maxSteps := 9999999) (disch := omega) only [go_sem, hr, hlen, g1, hk0, hb]; rfl) ?_ | ((first | (apply AWpA.region; (focus (simp (maxSteps := 9999999) (disch := omega) only [go_sem, hr, hlen, g1, hk0, hb]; rfl))) | (apply AWpA.draw [] [] follows; (focus (first | rfl | decide)); (focus (simp (maxSteps := 9999999) (disch := omega) only [go_sem, hr, hlen, g1, hk0, hb]; rfl)); (focus (simp (maxSteps := 9999999) (disch := omega) only [go_sem, hr, hlen, g1, hk0, hb]; first | done | trivial)); (focus (simp (maxSteps := 9999999) (disch := omega) only [go_sem, hr, hlen, g1, hk0, hb]; rfl))) | (apply TailK.go; (focus (simp (maxSteps := 9999999) (disch := omega) only [go_sem, hr, hlen, g1, hk0, hb]; rfl))) | refine AWpA.skip ?_ | refine AWpA.exit ?_ | refine AWpA.ret ?_ | (with_reducible refine ARoundsA.succ ?_) | ((first | refine Runs.kt (by assumption) (fun h9 => ?_) | refine Runs.kf (by assumption) (fun h9 => ?_) | refine Runs.nt (by assumption) (fun h9 => ?_) | refine Runs.nf (by assumption) (fun h9 => ?_) | refine CondP.ht (by assumption) (fun h9 => ?_) | refine CondP.hf (by assumption) (fun h9 => ?_) | refine CondP.nt (by assumption) (fun h9 => ?_) | refine CondP.nf (by assumption) (fun h9 => ?_)); (try simp only [h9]); clear h9)); (try simp (maxSteps := 9999999) (disch := omega) only [go_sem, hr, hlen, g1, hk0, hb]); (try (refine And.intro ?_ ?_; (focus (first | omega | (simp only [go_sem]; done) | (simp; done) | (simp; omega) | assumption))))) | ((first | refine CondP.split (fun hif => ?_) (fun hif => ?_) | refine Runs.part (fun hif => ?_) (fun hif => ?_)) <;> ((try simp only [hif]); (try simp only [decide_eq_true_eq, decide_eq_false_iff_not, Bool.not_eq_true, Bool.not_eq_false, Bool.not_eq_true', Bool.not_eq_false', beq_iff_eq, bne_iff_ne, bne_eq_false_iff_eq, beq_eq_false_iff_ne, ne_eq, Bool.and_eq_true, Bool.or_eq_true, Bool.or_eq_false_iff] at hif); (try (have h9 : _ = true := hif; simp only [h9])); (try (have h9 : _ = false := hif; simp only [h9])); (try simp (maxSteps := 9999999) (disch := omega) only [go_sem, hr, hlen, g1, hk0, hb]); (try (refine And.intro ?_ ?_; (focus (first | omega | (simp only [go_sem]; done) | (simp; done) | (simp; omega) | assumption)))); (try (exfalso; omega; done))))))
      (apply Back.to (i + 1) [0]; (focus ((try simp (maxSteps := 9999999) (disch := omega) only [go_sem, hr]); first | done | omega)); rotate_left; (focus (simp (maxSteps := 9999999) (disch := omega) only [go_sem, hr]; (try (repeat' (first | done | trivial | rfl | exact leAs_rfl _ | decide | (refine And.intro ?_ ?_) | (simp; done) | omega | (simp; decide)))))))
      exact ⟨by omega, hn⟩
  · obtain rfl : i = l.length := by omega
    have g1 : ((l.length : Int) < (l.length : Int)) = False := eq_false (by omega)
    have hno : findR l k = -1 := findR_no fun a ha => by
      obtain ⟨q, hql, rfl⟩ := List.getElem_of_mem ha
      exact hq q hql hql
    rw [hno]
    clear hq
    (try simp (maxSteps := 9999999) (disch := omega) only [go_sem])
    (repeat' (first | refine AWpA.seq ?_ | refine AWpA.block ?_ | (with_reducible refine CondP.tt ?_) | (with_reducible refine CondP.ff ?_) | refine AWpA.condv (by simp (maxSteps := 9999999) (disch := omega) only [go_sem, hr, hlen, g1]; rfl) ?_ | ((first | (apply AWpA.region; (focus (simp (maxSteps := 9999999) (disch := omega) only [go_sem, hr, hlen, g1]; rfl))) | (apply AWpA.draw [] [] follows; (focus (first | rfl | decide)); (focus (simp (maxSteps := 9999999) (disch := omega) only [go_sem, hr, hlen, g1]; rfl)); (focus (simp (maxSteps := 9999999) (disch := omega) only [go_sem, hr, hlen, g1]; first | done | trivial)); (focus (simp (maxSteps := 9999999) (disch := omega) only [go_sem, hr, hlen, g1]; rfl))) | (apply TailK.go; (focus (simp (maxSteps := 9999999) (disch := omega) only [go_sem, hr, hlen, g1]; rfl))) | refine AWpA.skip ?_ | refine AWpA.exit ?_ | refine AWpA.ret ?_ | (with_reducible refine ARoundsA.succ ?_) | ((first | refine Runs.kt (by assumption) (fun h9 => ?_) | refine Runs.kf (by assumption) (fun h9 => ?_) | refine Runs.nt (by assumption) (fun h9 => ?_) | refine Runs.nf (by assumption) (fun h9 => ?_) | refine CondP.ht (by assumption) (fun h9 => ?_) | refine CondP.hf (by assumption) (fun h9 => ?_) | refine CondP.nt (by assumption) (fun h9 => ?_) | refine CondP.nf (by assumption) (fun h9 => ?_)); (try simp only [h9]); clear h9)); (try simp (maxSteps := 9999999) (disch := omega) only [go_sem, hr, hlen, g1]); (try (refine And.intro ?_ ?_; (focus (first | omega | (simp only [go_sem]; done) | (simp; done) | (simp; omega) | assumption))))) | ((first | refine CondP.split (fun hif => ?_) (fun hif => ?_) | refine Runs.part (fun hif => ?_) (fun hif => ?_)) <;> ((try simp only [hif]); (try simp only [decide_eq_true_eq, decide_eq_false_iff_not, Bool.not_eq_true, Bool.not_eq_false, Bool.not_eq_true', Bool.not_eq_false', beq_iff_eq, bne_iff_ne, bne_eq_false_iff_eq, beq_eq_false_iff_ne, ne_eq, Bool.and_eq_true, Bool.or_eq_true, Bool.or_eq_false_iff] at hif); (try (have h9 : _ = true := hif; simp only [h9])); (try (have h9 : _ = false := hif; simp only [h9])); (try simp (maxSteps := 9999999) (disch := omega) only [go_sem, hr, hlen, g1]); (try (refine And.intro ?_ ?_; (focus (first | omega | (simp only [go_sem]; done) | (simp; done) | (simp; omega) | assumption)))); (try (exfalso; omega; done))))))
    (apply Ret.det [0]; (focus (first | exact .inl rfl | exact .inr rfl)); (focus (simp (maxSteps := 9999999) (disch := omega) only [go_sem, hr]; rfl)); (simp (maxSteps := 9999999) (disch := omega) only [go_sem, hr]; (try (repeat' (first | done | trivial | rfl | exact leAs_rfl _ | decide | (refine And.intro ?_ ?_) | (simp; done) | omega | (simp; decide))))))
theorem dropF_take {l : List Mk} {k : ByteArray} {i : Nat} (h : i < l.length) : dropF (l.take (i + 1)) k = dropF (l.take i) k ++ (if k = l[i].key then [] else [l[i]]) := by
  unfold dropF
  rw [List.take_succ_eq_append_getElem h, List.filter_append]
  congr 1
  by_cases e : k = l[i].key
  · rw [if_pos e, List.filter_cons_of_neg (by simp [e])]; rfl
  · rw [if_neg e, List.filter_cons_of_pos (by simp [e])]; rfl
theorem rdropM_any (l : List Mk) (k : ByteArray) (hl : l.length ≤ 1099511627776) : ACall Try.prog 20 [.sl 0 0 l.length 3 none, Str k] [.cells true (Rm 0 l)] (Det (.sl 1 0 (dropF l k).length 3 none) [.cells true (Rm 0 l), .cells false (Rm 0 (dropF l k))]) := by
  have hr := rm_ren 0
  have hlen := rm_len 0 l
  refine ACall.startA c20_ok Try.func20 rfl Try.ntmps20 (by kernel_rfl) res20_ok rfl rfl rfl ?_; simp (maxSteps := 9999999) (disch := omega) only [go_sem]
  (repeat' (first | refine AWpA.seq ?_ | refine AWpA.block ?_ | (with_reducible refine CondP.tt ?_) | (with_reducible refine CondP.ff ?_) | refine AWpA.condv (by simp (maxSteps := 9999999) (disch := omega) only [go_sem, hr]; rfl) ?_ | ((first | (apply AWpA.region; (focus (simp (maxSteps := 9999999) (disch := omega) only [go_sem, hr]; rfl))) | (apply AWpA.draw [] [] follows; (focus (first | rfl | decide)); (focus (simp (maxSteps := 9999999) (disch := omega) only [go_sem, hr]; rfl)); (focus (simp (maxSteps := 9999999) (disch := omega) only [go_sem, hr]; first | done | trivial)); (focus (simp (maxSteps := 9999999) (disch := omega) only [go_sem, hr]; rfl))) | (apply TailK.go; (focus (simp (maxSteps := 9999999) (disch := omega) only [go_sem, hr]; rfl))) | refine AWpA.skip ?_ | refine AWpA.exit ?_ | refine AWpA.ret ?_ | (with_reducible refine ARoundsA.succ ?_) | ((first | refine Runs.kt (by assumption) (fun h9 => ?_) | refine Runs.kf (by assumption) (fun h9 => ?_) | refine Runs.nt (by assumption) (fun h9 => ?_) | refine Runs.nf (by assumption) (fun h9 => ?_) | refine CondP.ht (by assumption) (fun h9 => ?_) | refine CondP.hf (by assumption) (fun h9 => ?_) | refine CondP.nt (by assumption) (fun h9 => ?_) | refine CondP.nf (by assumption) (fun h9 => ?_)); (try simp only [h9]); clear h9)); (try simp (maxSteps := 9999999) (disch := omega) only [go_sem, hr]); (try (refine And.intro ?_ ?_; (focus (first | omega | (simp only [go_sem]; done) | (simp; done) | (simp; omega) | assumption))))) | ((first | refine CondP.split (fun hif => ?_) (fun hif => ?_) | refine Runs.part (fun hif => ?_) (fun hif => ?_)) <;> ((try simp only [hif]); (try simp only [decide_eq_true_eq, decide_eq_false_iff_not, Bool.not_eq_true, Bool.not_eq_false, Bool.not_eq_true', Bool.not_eq_false', beq_iff_eq, bne_iff_ne, bne_eq_false_iff_eq, beq_eq_false_iff_ne, ne_eq, Bool.and_eq_true, Bool.or_eq_true, Bool.or_eq_false_iff] at hif); (try (have h9 : _ = true := hif; simp only [h9])); (try (have h9 : _ = false := hif; simp only [h9])); (try simp (maxSteps := 9999999) (disch := omega) only [go_sem, hr]); (try (refine And.intro ?_ ?_; (focus (first | omega | (simp only [go_sem]; done) | (simp; done) | (simp; omega) | assumption)))); (try (exfalso; omega; done))))))
  (apply AWpA.loopL (fun p : Nat × List Mk => [(0, .sl 0 0 l.length 3 none), (1, Str k), (5, .sl 1 0 p.2.length 3 none), (6, I p.1)]) (fun p => [.cells true (Rm 0 l), .cells false (Rm 0 p.2)]) (fun p => l.length - p.1) (fun p => p.1 ≤ l.length ∧ p.2 = dropF (l.take p.1) k) ((0, [])) [0, _]; rotate_left; (focus (simp (maxSteps := 9999999) (disch := omega) only [go_sem, hr, rm_nil]; (try (repeat' (first | done | trivial | rfl | exact leAs_rfl _ | decide | (refine And.intro ?_ ?_) | (simp; done) | omega | (simp; decide)))))); rotate_right)
  · exact ⟨Nat.zero_le _, rfl⟩
  rintro ⟨i, out⟩ ⟨hi, ho⟩
  (try simp only at hi ho)
  by_cases hil : i < l.length
  · have g1 : ((i : Int) < (l.length : Int)) = True := eq_true (by omega)
    have hk0 := rm_key l i hil
    have hat := rm_at 0 l i hil
    rw [Nat.zero_add] at hat
    have hs := dropF_take (k := k) hil
    rw [← ho] at hs
    have hol : out.length ≤ i := by rw [ho]; have := dropF_le (l.take i) k; simp at this; omega
    have hLo := rm_len 0 out
    have hfu := rm_all out (n := out.length * 3) rfl
    clear ho
    generalize l[i] = x at *
    by_cases he : k = x.key
    · have hb : (x.key == k) = true := by rw [ba_dec, decide_eq_true he.symm]
      rw [if_pos he, List.append_nil] at hs
      (try simp (maxSteps := 9999999) (disch := omega) only [go_sem])
      (repeat' (first | refine AWpA.seq ?_ | refine AWpA.block ?_ | (with_reducible refine CondP.tt ?_) | (with_reducible refine CondP.ff ?_) | refine AWpA.condv (by simp (maxSteps := 9999999) (disch := omega) only [go_sem, hr, hlen, g1, hk0, hb]; rfl) ?_ | ((first | (apply AWpA.region; (focus (simp (maxSteps := 9999999) (disch := omega) only [go_sem, hr, hlen, g1, hk0, hb]; rfl))) | (apply AWpA.draw [] [] follows; (focus (first | rfl | decide)); (focus (simp (maxSteps := 9999999) (disch := omega) only [go_sem, hr, hlen, g1, hk0, hb]; rfl)); (focus (simp (maxSteps := 9999999) (disch := omega) only [go_sem, hr, hlen, g1, hk0, hb]; first | done | trivial)); (focus (simp (maxSteps := 9999999) (disch := omega) only [go_sem, hr, hlen, g1, hk0, hb]; rfl))) | (apply TailK.go; (focus (simp (maxSteps := 9999999) (disch := omega) only [go_sem, hr, hlen, g1, hk0, hb]; rfl))) | refine AWpA.skip ?_ | refine AWpA.exit ?_ | refine AWpA.ret ?_ | (with_reducible refine ARoundsA.succ ?_) | ((first | refine Runs.kt (by assumption) (fun h9 => ?_) | refine Runs.kf (by assumption) (fun h9 => ?_) | refine Runs.nt (by assumption) (fun h9 => ?_) | refine Runs.nf (by assumption) (fun h9 => ?_) | refine CondP.ht (by assumption) (fun h9 => ?_) | refine CondP.hf (by assumption) (fun h9 => ?_) | refine CondP.nt (by assumption) (fun h9 => ?_) | refine CondP.nf (by assumption) (fun h9 => ?_)); (try simp only [h9]); clear h9)); (try simp (maxSteps := 9999999) (disch := omega) only [go_sem, hr, hlen, g1, hk0, hb]); (try (refine And.intro ?_ ?_; (focus (first | omega | (simp only [go_sem]; done) | (simp; done) | (simp; omega) | assumption))))) | ((first | refine CondP.split (fun hif => ?_) (fun hif => ?_) | refine Runs.part (fun hif => ?_) (fun hif => ?_)) <;> ((try simp only [hif]); (try simp only [decide_eq_true_eq, decide_eq_false_iff_not, Bool.not_eq_true, Bool.not_eq_false, Bool.not_eq_true', Bool.not_eq_false', beq_iff_eq, bne_iff_ne, bne_eq_false_iff_eq, beq_eq_false_iff_ne, ne_eq, Bool.and_eq_true, Bool.or_eq_true, Bool.or_eq_false_iff] at hif); (try (have h9 : _ = true := hif; simp only [h9])); (try (have h9 : _ = false := hif; simp only [h9])); (try simp (maxSteps := 9999999) (disch := omega) only [go_sem, hr, hlen, g1, hk0, hb]); (try (refine And.intro ?_ ?_; (focus (first | omega | (simp only [go_sem]; done) | (simp; done) | (simp; omega) | assumption)))); (try (exfalso; omega; done))))))
      (apply Back.to ((i + 1), out) [0, 1]; (focus ((try simp (maxSteps := 9999999) (disch := omega) only [go_sem, hr]); first | done | omega)); rotate_left; (focus (simp (maxSteps := 9999999) (disch := omega) only [go_sem, hr]; (try (repeat' (first | done | trivial | rfl | exact leAs_rfl _ | decide | (refine And.intro ?_ ?_) | (simp; done) | omega | (simp; decide)))))))
      exact ⟨by simp only; omega, hs.symm⟩
    · have hb : (x.key == k) = false := by rw [ba_dec, decide_eq_false (fun e => he e.symm)]
      rw [if_neg he] at hs
      have hsn := rm_app out [x]
      rw [rm_one] at hsn
      (try simp (maxSteps := 9999999) (disch := omega) only [go_sem])
      (repeat' (first | refine AWpA.seq ?_ | refine AWpA.block ?_ | (with_reducible refine CondP.tt ?_) | (with_reducible refine CondP.ff ?_) | refine AWpA.condv (by simp (maxSteps := 9999999) (disch := omega) only [go_sem, hr, hlen, hLo, g1, hk0, hat, hb]; rfl) ?_ | ((first | (apply AWpA.region; (focus (simp (maxSteps := 9999999) (disch := omega) only [go_sem, hr, hlen, hLo, g1, hk0, hat, hb]; rfl))) | (apply AWpA.draw [] [] follows; (focus (first | rfl | decide)); (focus (simp (maxSteps := 9999999) (disch := omega) only [go_sem, hr, hlen, hLo, g1, hk0, hat, hb]; rfl)); (focus (simp (maxSteps := 9999999) (disch := omega) only [go_sem, hr, hlen, hLo, g1, hk0, hat, hb]; first | done | trivial)); (focus (simp (maxSteps := 9999999) (disch := omega) only [go_sem, hr, hlen, hLo, g1, hk0, hat, hb]; rfl))) | (apply TailK.go; (focus (simp (maxSteps := 9999999) (disch := omega) only [go_sem, hr, hlen, hLo, g1, hk0, hat, hb]; rfl))) | refine AWpA.skip ?_ | refine AWpA.exit ?_ | refine AWpA.ret ?_ | (with_reducible refine ARoundsA.succ ?_) | ((first | refine Runs.kt (by assumption) (fun h9 => ?_) | refine Runs.kf (by assumption) (fun h9 => ?_) | refine Runs.nt (by assumption) (fun h9 => ?_) | refine Runs.nf (by assumption) (fun h9 => ?_) | refine CondP.ht (by assumption) (fun h9 => ?_) | refine CondP.hf (by assumption) (fun h9 => ?_) | refine CondP.nt (by assumption) (fun h9 => ?_) | refine CondP.nf (by assumption) (fun h9 => ?_)); (try simp only [h9]); clear h9)); (try simp (maxSteps := 9999999) (disch := omega) only [go_sem, hr, hlen, hLo, g1, hk0, hat, hb]); (try (refine And.intro ?_ ?_; (focus (first | omega | (simp only [go_sem]; done) | (simp; done) | (simp; omega) | assumption))))) | ((first | refine CondP.split (fun hif => ?_) (fun hif => ?_) | refine Runs.part (fun hif => ?_) (fun hif => ?_)) <;> ((try simp only [hif]); (try simp only [decide_eq_true_eq, decide_eq_false_iff_not, Bool.not_eq_true, Bool.not_eq_false, Bool.not_eq_true', Bool.not_eq_false', beq_iff_eq, bne_iff_ne, bne_eq_false_iff_eq, beq_eq_false_iff_ne, ne_eq, Bool.and_eq_true, Bool.or_eq_true, Bool.or_eq_false_iff] at hif); (try (have h9 : _ = true := hif; simp only [h9])); (try (have h9 : _ = false := hif; simp only [h9])); (try simp (maxSteps := 9999999) (disch := omega) only [go_sem, hr, hlen, hLo, g1, hk0, hat, hb]); (try (refine And.intro ?_ ?_; (focus (first | omega | (simp only [go_sem]; done) | (simp; done) | (simp; omega) | assumption)))); (try (exfalso; omega; done))))))
      (apply Back.to ((i + 1), out ++ [x]) [0, _]; (focus ((try simp (maxSteps := 9999999) (disch := omega) only [go_sem, hr, hfu, hsn, renL_append, List.length_append, List.length_singleton]); first | done | omega)); rotate_left; (focus (simp (maxSteps := 9999999) (disch := omega) only [go_sem, hr, hfu, hsn, renL_append, List.length_append, List.length_singleton]; (try (repeat' (first | done | trivial | rfl | exact leAs_rfl _ | decide | (refine And.intro ?_ ?_) | (simp; done) | omega | (simp; decide)))))))
      exact ⟨by simp only; omega, hs.symm⟩
  · obtain rfl : i = l.length := by omega
    have g1 : ((l.length : Int) < (l.length : Int)) = False := eq_false (by omega)
    rw [List.take_length] at ho
    subst ho
    (try simp (maxSteps := 9999999) (disch := omega) only [go_sem])
    (repeat' (first | refine AWpA.seq ?_ | refine AWpA.block ?_ | (with_reducible refine CondP.tt ?_) | (with_reducible refine CondP.ff ?_) | refine AWpA.condv (by simp (maxSteps := 9999999) (disch := omega) only [go_sem, hr, hlen, g1]; rfl) ?_ | ((first | (apply AWpA.region; (focus (simp (maxSteps := 9999999) (disch := omega) only [go_sem, hr, hlen, g1]; rfl))) | (apply AWpA.draw [] [] follows; (focus (first | rfl | decide)); (focus (simp (maxSteps := 9999999) (disch := omega) only [go_sem, hr, hlen, g1]; rfl)); (focus (simp (maxSteps := 9999999) (disch := omega) only [go_sem, hr, hlen, g1]; first | done | trivial)); (focus (simp (maxSteps := 9999999) (disch := omega) only [go_sem, hr, hlen, g1]; rfl))) | (apply TailK.go; (focus (simp (maxSteps := 9999999) (disch := omega) only [go_sem, hr, hlen, g1]; rfl))) | refine AWpA.skip ?_ | refine AWpA.exit ?_ | refine AWpA.ret ?_ | (with_reducible refine ARoundsA.succ ?_) | ((first | refine Runs.kt (by assumption) (fun h9 => ?_) | refine Runs.kf (by assumption) (fun h9 => ?_) | refine Runs.nt (by assumption) (fun h9 => ?_) | refine Runs.nf (by assumption) (fun h9 => ?_) | refine CondP.ht (by assumption) (fun h9 => ?_) | refine CondP.hf (by assumption) (fun h9 => ?_) | refine CondP.nt (by assumption) (fun h9 => ?_) | refine CondP.nf (by assumption) (fun h9 => ?_)); (try simp only [h9]); clear h9)); (try simp (maxSteps := 9999999) (disch := omega) only [go_sem, hr, hlen, g1]); (try (refine And.intro ?_ ?_; (focus (first | omega | (simp only [go_sem]; done) | (simp; done) | (simp; omega) | assumption))))) | ((first | refine CondP.split (fun hif => ?_) (fun hif => ?_) | refine Runs.part (fun hif => ?_) (fun hif => ?_)) <;> ((try simp only [hif]); (try simp only [decide_eq_true_eq, decide_eq_false_iff_not, Bool.not_eq_true, Bool.not_eq_false, Bool.not_eq_true', Bool.not_eq_false', beq_iff_eq, bne_iff_ne, bne_eq_false_iff_eq, beq_eq_false_iff_ne, ne_eq, Bool.and_eq_true, Bool.or_eq_true, Bool.or_eq_false_iff] at hif); (try (have h9 : _ = true := hif; simp only [h9])); (try (have h9 : _ = false := hif; simp only [h9])); (try simp (maxSteps := 9999999) (disch := omega) only [go_sem, hr, hlen, g1]); (try (refine And.intro ?_ ?_; (focus (first | omega | (simp only [go_sem]; done) | (simp; done) | (simp; omega) | assumption)))); (try (exfalso; omega; done))))))
    (apply Ret.det [0, 1]; (focus (first | exact .inl rfl | exact .inr rfl)); (focus (simp (maxSteps := 9999999) (disch := omega) only [go_sem, hr]; rfl)); (simp (maxSteps := 9999999) (disch := omega) only [go_sem, hr]; (try (repeat' (first | done | trivial | rfl | exact leAs_rfl _ | decide | (refine And.intro ?_ ?_) | (simp; done) | omega | (simp; decide))))))
theorem lat_in {r : List Mk} (h : RiseM r) {m : Mk} (hm : m ∉ r) {i : Nat} (hi : i < r.length) : latM m r[i] = decide (rankM r m ≤ i) := by
  have e1 := lat_rank h m i hi
  by_cases hir : i < rankM r m
  · rw [decide_eq_true hir] at e1
    rw [latM_asym e1, decide_eq_false (by omega)]
  · rw [decide_eq_false hir] at e1
    rw [decide_eq_true (by omega)]
    cases e2 : latM m r[i] with
    | true => rfl
    | false => exact absurd (by rw [← latM_tri e1 e2]; exact List.getElem_mem hi) hm
/-- What is put together, so many marks looked at. -/
def putA (r : List Mk) (m : Mk) (i : Nat) : List Mk := if i ≤ rankM r m then r.take i else r.take (rankM r m) ++ m :: (r.drop (rankM r m)).take (i - rankM r m)
theorem putA_lo {r : List Mk} {m : Mk} {i : Nat} (hi : i < r.length) (h : i < rankM r m) : putA r m (i + 1) = putA r m i ++ [r[i]] := by
  unfold putA
  rw [if_pos (by omega), if_pos (by omega), List.take_succ_eq_append_getElem hi]
theorem putA_at {r : List Mk} {m : Mk} (hi : rankM r m < r.length) : putA r m (rankM r m + 1) = putA r m (rankM r m) ++ [m] ++ [r[rankM r m]] := by
  unfold putA
  rw [if_neg (by omega), if_pos (by omega), show rankM r m + 1 - rankM r m = 0 + 1 by omega, List.take_succ_eq_append_getElem (by simp; omega)]
  simp
theorem putA_hi {r : List Mk} {m : Mk} {i : Nat} (hi : i < r.length) (h : rankM r m < i) : putA r m (i + 1) = putA r m i ++ [r[i]] := by
  unfold putA
  rw [if_neg (by omega), if_neg (by omega), show i + 1 - rankM r m = (i - rankM r m) + 1 by omega, List.take_succ_eq_append_getElem (by simp; omega)]
  simp only [List.getElem_drop, show rankM r m + (i - rankM r m) = i by omega, List.append_assoc, List.cons_append]
theorem putA_len (r : List Mk) (m : Mk) (i : Nat) : (putA r m i).length ≤ i + 1 := by
  unfold putA
  split
  · simp; omega
  · have := rankM_le r m
    simp; omega
theorem putA_end {r : List Mk} {m : Mk} (h : rankM r m < r.length) : putA r m r.length = insM r m := by
  unfold putA insM
  rw [if_neg (by omega), List.take_of_length_le (i := r.length - rankM r m) (by simp)]
theorem putA_none {r : List Mk} {m : Mk} (h : ¬ rankM r m < r.length) : putA r m r.length ++ [m] = insM r m := by
  have hr := rankM_le r m
  have e : rankM r m = r.length := by omega
  unfold putA insM
  rw [e, if_pos (by omega), List.drop_length]
theorem rputM_any (l : List Mk) (m : Mk) (hs : RiseM l) (hl : l.length ≤ 1099511627000) : ACall Try.prog 18 [.sl 0 0 l.length 3 none, MkG m] [.cells true (Rm 0 l)] (Det (.sl 1 0 (insM (dropF l m.key) m).length 3 none) [.cells true (Rm 0 l), .cells false (Rm 0 (insM (dropF l m.key) m))]) := by
  have hr := rm_ren 0
  have c := rdropM_any l m.key (by omega)
  have hsr : RiseM (dropF l m.key) := List.Pairwise.sublist (dropF_sub _ _) hs
  have hm : m ∉ dropF l m.key := fun hm => dropF_key hm rfl
  have hdl := dropF_le l m.key
  generalize dropF l m.key = r at *
  have hlen := rm_len 0 r
  refine ACall.startA c18_ok Try.func18 rfl Try.ntmps18 (by kernel_rfl) res18_ok rfl rfl rfl ?_; simp (maxSteps := 9999999) (disch := omega) only [go_sem]
  (repeat' (first | refine AWpA.seq ?_ | refine AWpA.block ?_ | (with_reducible refine CondP.tt ?_) | (with_reducible refine CondP.ff ?_) | refine AWpA.condv (by simp (maxSteps := 9999999) (disch := omega) only [go_sem, hr]; rfl) ?_ | ((first | (apply AWpA.region; (focus (simp (maxSteps := 9999999) (disch := omega) only [go_sem, hr]; rfl))) | (apply AWpA.draw [] [] follows; (focus (first | rfl | decide)); (focus (simp (maxSteps := 9999999) (disch := omega) only [go_sem, hr]; rfl)); (focus (simp (maxSteps := 9999999) (disch := omega) only [go_sem, hr]; first | done | trivial)); (focus (simp (maxSteps := 9999999) (disch := omega) only [go_sem, hr]; rfl))) | (apply TailK.go; (focus (simp (maxSteps := 9999999) (disch := omega) only [go_sem, hr]; rfl))) | refine AWpA.skip ?_ | refine AWpA.exit ?_ | refine AWpA.ret ?_ | (with_reducible refine ARoundsA.succ ?_) | ((first | refine Runs.kt (by assumption) (fun h9 => ?_) | refine Runs.kf (by assumption) (fun h9 => ?_) | refine Runs.nt (by assumption) (fun h9 => ?_) | refine Runs.nf (by assumption) (fun h9 => ?_) | refine CondP.ht (by assumption) (fun h9 => ?_) | refine CondP.hf (by assumption) (fun h9 => ?_) | refine CondP.nt (by assumption) (fun h9 => ?_) | refine CondP.nf (by assumption) (fun h9 => ?_)); (try simp only [h9]); clear h9) | ((first | (with_reducible apply CallG.plain1 [0] (c)) | (with_reducible apply CallG.draw1 [0] (c))); (focus ((try refine And.intro (leAs_of_eq rfl) ?_); (try refine And.intro (leOL_of_eq rfl) ?_); simp (maxSteps := 9999999) (disch := omega) only [go_sem, hr]; first | done | (repeat' (first | rfl | (refine And.intro ?_ ?_))))); (focus (simp (maxSteps := 9999999) (disch := omega) only [go_sem, hr]; rfl)))); (try simp (maxSteps := 9999999) (disch := omega) only [go_sem, hr]); (try (refine And.intro ?_ ?_; (focus (first | omega | (simp only [go_sem]; done) | (simp; done) | (simp; omega) | assumption))))) | ((first | refine CondP.split (fun hif => ?_) (fun hif => ?_) | refine Runs.part (fun hif => ?_) (fun hif => ?_)) <;> ((try simp only [hif]); (try simp only [decide_eq_true_eq, decide_eq_false_iff_not, Bool.not_eq_true, Bool.not_eq_false, Bool.not_eq_true', Bool.not_eq_false', beq_iff_eq, bne_iff_ne, bne_eq_false_iff_eq, beq_eq_false_iff_ne, ne_eq, Bool.and_eq_true, Bool.or_eq_true, Bool.or_eq_false_iff] at hif); (try (have h9 : _ = true := hif; simp only [h9])); (try (have h9 : _ = false := hif; simp only [h9])); (try simp (maxSteps := 9999999) (disch := omega) only [go_sem, hr]); (try (refine And.intro ?_ ?_; (focus (first | omega | (simp only [go_sem]; done) | (simp; done) | (simp; omega) | assumption)))); (try (exfalso; omega; done))))))
  (apply AWpA.loopL (fun p : Nat × List Mk => [(3, .ptr 1 0), (5, .sl 2 0 p.2.length 3 none), (6, Bo (decide (rankM r m < p.1))), (7, .sl 3 0 r.length 3 none), (8, I p.1)]) (fun p => [.cells true (Rm 0 l), .cells false (MkL m), .cells false (Rm 0 p.2), .cells false (Rm 0 r)]) (fun p => r.length - p.1) (fun p => p.1 ≤ r.length ∧ p.2 = putA r m p.1) ((0, [])) [0, _, _, _]; rotate_left; (focus (simp (maxSteps := 9999999) (disch := omega) only [go_sem, hr, rm_nil]; (try (repeat' (first | done | trivial | rfl | exact leAs_rfl _ | decide | (refine And.intro ?_ ?_) | (simp; done) | omega | (simp; decide)))))); rotate_right)
  · exact ⟨Nat.zero_le _, by unfold putA; simp⟩
  rintro ⟨i, out⟩ ⟨hi, ho⟩
  (try simp only at hi ho)
  have hol : out.length ≤ i + 1 := by rw [ho]; exact putA_len _ _ _
  have hLo := rm_len 0 out
  have hfu := rm_all out (n := out.length * 3) rfl
  by_cases hil : i < r.length
  · have g1 : ((i : Int) < (r.length : Int)) = True := eq_true (by omega)
    have hat := rm_at 0 r i hil
    rw [Nat.zero_add] at hat
    have hlat := lat_in hsr hm hil
    have c1 := rlat_any m r[i]
    rcases Nat.lt_trichotomy i (rankM r m) with h | h | h
    · have hs := putA_lo hil h
      rw [← ho] at hs
      rw [hlat, decide_eq_false (by omega)] at c1
      have hd1 : decide (rankM r m < i) = false := decide_eq_false (by omega)
      have hd2 : decide (rankM r m < i + 1) = false := decide_eq_false (by omega)
      clear ho hlat
      generalize r[i] = x at *
      have hsn := rm_app out [x]
      rw [rm_one] at hsn
      rw [hd1]
      (try simp (maxSteps := 9999999) (disch := omega) only [go_sem])
      (repeat' (first | refine AWpA.seq ?_ | refine AWpA.block ?_ | (with_reducible refine CondP.tt ?_) | (with_reducible refine CondP.ff ?_) | refine AWpA.condv (by simp (maxSteps := 9999999) (disch := omega) only [go_sem, hr, hlen, hLo, g1, hat]; rfl) ?_ | ((first | (apply AWpA.region; (focus (simp (maxSteps := 9999999) (disch := omega) only [go_sem, hr, hlen, hLo, g1, hat]; rfl))) | (apply AWpA.draw [] [] follows; (focus (first | rfl | decide)); (focus (simp (maxSteps := 9999999) (disch := omega) only [go_sem, hr, hlen, hLo, g1, hat]; rfl)); (focus (simp (maxSteps := 9999999) (disch := omega) only [go_sem, hr, hlen, hLo, g1, hat]; first | done | trivial)); (focus (simp (maxSteps := 9999999) (disch := omega) only [go_sem, hr, hlen, hLo, g1, hat]; rfl))) | (apply TailK.go; (focus (simp (maxSteps := 9999999) (disch := omega) only [go_sem, hr, hlen, hLo, g1, hat]; rfl))) | refine AWpA.skip ?_ | refine AWpA.exit ?_ | refine AWpA.ret ?_ | (with_reducible refine ARoundsA.succ ?_) | ((first | refine Runs.kt (by assumption) (fun h9 => ?_) | refine Runs.kf (by assumption) (fun h9 => ?_) | refine Runs.nt (by assumption) (fun h9 => ?_) | refine Runs.nf (by assumption) (fun h9 => ?_) | refine CondP.ht (by assumption) (fun h9 => ?_) | refine CondP.hf (by assumption) (fun h9 => ?_) | refine CondP.nt (by assumption) (fun h9 => ?_) | refine CondP.nf (by assumption) (fun h9 => ?_)); (try simp only [h9]); clear h9) | ((first | (with_reducible apply CallG.plain1 [] (c1)) | (with_reducible apply CallG.draw1 [] (c1))); (focus ((try refine And.intro (leAs_of_eq rfl) ?_); (try refine And.intro (leOL_of_eq rfl) ?_); simp (maxSteps := 9999999) (disch := omega) only [go_sem, hr, hlen, hLo, g1, hat]; first | done | (repeat' (first | rfl | (refine And.intro ?_ ?_))))); (focus (simp (maxSteps := 9999999) (disch := omega) only [go_sem, hr, hlen, hLo, g1, hat]; rfl)))); (try simp (maxSteps := 9999999) (disch := omega) only [go_sem, hr, hlen, hLo, g1, hat]); (try (refine And.intro ?_ ?_; (focus (first | omega | (simp only [go_sem]; done) | (simp; done) | (simp; omega) | assumption))))) | ((first | refine CondP.split (fun hif => ?_) (fun hif => ?_) | refine Runs.part (fun hif => ?_) (fun hif => ?_)) <;> ((try simp only [hif]); (try simp only [decide_eq_true_eq, decide_eq_false_iff_not, Bool.not_eq_true, Bool.not_eq_false, Bool.not_eq_true', Bool.not_eq_false', beq_iff_eq, bne_iff_ne, bne_eq_false_iff_eq, beq_eq_false_iff_ne, ne_eq, Bool.and_eq_true, Bool.or_eq_true, Bool.or_eq_false_iff] at hif); (try (have h9 : _ = true := hif; simp only [h9])); (try (have h9 : _ = false := hif; simp only [h9])); (try simp (maxSteps := 9999999) (disch := omega) only [go_sem, hr, hlen, hLo, g1, hat]); (try (refine And.intro ?_ ?_; (focus (first | omega | (simp only [go_sem]; done) | (simp; done) | (simp; omega) | assumption)))); (try (exfalso; omega; done))))))
      (apply Back.to ((i + 1), out ++ [x]) [0, 1, _, 3]; (focus ((try simp (maxSteps := 9999999) (disch := omega) only [go_sem, hr, hfu, hsn, hd2, renL_append, List.length_append, List.length_singleton]); first | done | omega)); rotate_left; (focus (simp (maxSteps := 9999999) (disch := omega) only [go_sem, hr, hfu, hsn, hd2, renL_append, List.length_append, List.length_singleton]; (try (repeat' (first | done | trivial | rfl | exact leAs_rfl _ | decide | (refine And.intro ?_ ?_) | (simp; done) | omega | (simp; decide)))))))
      exact ⟨by simp only; omega, hs.symm⟩
    · subst h
      have hs := putA_at hil
      rw [← ho] at hs
      rw [hlat, decide_eq_true (by omega)] at c1
      have hd1 : decide (rankM r m < rankM r m) = false := decide_eq_false (by omega)
      have hd2 : decide (rankM r m < rankM r m + 1) = true := decide_eq_true (by omega)
      clear ho hlat
      generalize r[rankM r m] = x at *
      have hsn := rm_app (out ++ [m]) [x]
      rw [rm_app out [m], rm_one, rm_one] at hsn
      have hLo2 : (Rm 0 out ++ MkL m).length = out.length * 3 + 3 := by simp [hLo]
      have htk : List.take ((out.length + 1) * 3) (Rm 0 out ++ [I m.act.c, I m.act.s, Str m.key]) = Rm 0 out ++ [I m.act.c, I m.act.s, Str m.key] := List.take_of_length_le (by simp [hLo]; omega)
      rw [hd1]
      (try simp (maxSteps := 9999999) (disch := omega) only [go_sem])
      (repeat' (first | refine AWpA.seq ?_ | refine AWpA.block ?_ | (with_reducible refine CondP.tt ?_) | (with_reducible refine CondP.ff ?_) | refine AWpA.condv (by simp (maxSteps := 9999999) (disch := omega) only [go_sem, hr, hlen, hLo, hfu, g1, hat, renL_append]; rfl) ?_ | ((first | (apply AWpA.region; (focus (simp (maxSteps := 9999999) (disch := omega) only [go_sem, hr, hlen, hLo, hfu, g1, hat, renL_append]; rfl))) | (apply AWpA.draw [] [] follows; (focus (first | rfl | decide)); (focus (simp (maxSteps := 9999999) (disch := omega) only [go_sem, hr, hlen, hLo, hfu, g1, hat, renL_append]; rfl)); (focus (simp (maxSteps := 9999999) (disch := omega) only [go_sem, hr, hlen, hLo, hfu, g1, hat, renL_append]; first | done | trivial)); (focus (simp (maxSteps := 9999999) (disch := omega) only [go_sem, hr, hlen, hLo, hfu, g1, hat, renL_append]; rfl))) | (apply TailK.go; (focus (simp (maxSteps := 9999999) (disch := omega) only [go_sem, hr, hlen, hLo, hfu, g1, hat, renL_append]; rfl))) | refine AWpA.skip ?_ | refine AWpA.exit ?_ | refine AWpA.ret ?_ | (with_reducible refine ARoundsA.succ ?_) | ((first | refine Runs.kt (by assumption) (fun h9 => ?_) | refine Runs.kf (by assumption) (fun h9 => ?_) | refine Runs.nt (by assumption) (fun h9 => ?_) | refine Runs.nf (by assumption) (fun h9 => ?_) | refine CondP.ht (by assumption) (fun h9 => ?_) | refine CondP.hf (by assumption) (fun h9 => ?_) | refine CondP.nt (by assumption) (fun h9 => ?_) | refine CondP.nf (by assumption) (fun h9 => ?_)); (try simp only [h9]); clear h9) | ((first | (with_reducible apply CallG.plain1 [] (c1)) | (with_reducible apply CallG.draw1 [] (c1))); (focus ((try refine And.intro (leAs_of_eq rfl) ?_); (try refine And.intro (leOL_of_eq rfl) ?_); simp (maxSteps := 9999999) (disch := omega) only [go_sem, hr, hlen, hLo, hfu, g1, hat, renL_append]; first | done | (repeat' (first | rfl | (refine And.intro ?_ ?_))))); (focus (simp (maxSteps := 9999999) (disch := omega) only [go_sem, hr, hlen, hLo, hfu, g1, hat, renL_append]; rfl)))); (try simp (maxSteps := 9999999) (disch := omega) only [go_sem, hr, hlen, hLo, hfu, g1, hat, renL_append]); (try (refine And.intro ?_ ?_; (focus (first | omega | (simp only [go_sem]; done) | (simp; done) | (simp; omega) | assumption))))) | ((first | refine CondP.split (fun hif => ?_) (fun hif => ?_) | refine Runs.part (fun hif => ?_) (fun hif => ?_)) <;> ((try simp only [hif]); (try simp only [decide_eq_true_eq, decide_eq_false_iff_not, Bool.not_eq_true, Bool.not_eq_false, Bool.not_eq_true', Bool.not_eq_false', beq_iff_eq, bne_iff_ne, bne_eq_false_iff_eq, beq_eq_false_iff_ne, ne_eq, Bool.and_eq_true, Bool.or_eq_true, Bool.or_eq_false_iff] at hif); (try (have h9 : _ = true := hif; simp only [h9])); (try (have h9 : _ = false := hif; simp only [h9])); (try simp (maxSteps := 9999999) (disch := omega) only [go_sem, hr, hlen, hLo, hfu, g1, hat, renL_append]); (try (refine And.intro ?_ ?_; (focus (first | omega | (simp only [go_sem]; done) | (simp; done) | (simp; omega) | assumption)))); (try (exfalso; omega; done))))))
      (apply Back.to ((rankM r m + 1), out ++ [m] ++ [x]) [0, 1, _, 3]; (focus ((try simp (maxSteps := 9999999) (disch := omega) only [go_sem, hr, hfu, hsn, hd2, htk, renL_append, List.length_append, List.length_singleton]); first | done | omega)); rotate_left; (focus (simp (maxSteps := 9999999) (disch := omega) only [go_sem, hr, hfu, hsn, hd2, htk, renL_append, List.length_append, List.length_singleton]; (try (repeat' (first | done | trivial | rfl | exact leAs_rfl _ | decide | (refine And.intro ?_ ?_) | (simp; done) | omega | (simp; decide)))))))
      exact ⟨by simp only; omega, hs.symm⟩
    · have hs := putA_hi hil h
      rw [← ho] at hs
      have hd1 : decide (rankM r m < i) = true := decide_eq_true (by omega)
      have hd2 : decide (rankM r m < i + 1) = true := decide_eq_true (by omega)
      clear ho hlat
      generalize r[i] = x at *
      have hsn := rm_app out [x]
      rw [rm_one] at hsn
      rw [hd1]
      (try simp (maxSteps := 9999999) (disch := omega) only [go_sem])
      (repeat' (first | refine AWpA.seq ?_ | refine AWpA.block ?_ | (with_reducible refine CondP.tt ?_) | (with_reducible refine CondP.ff ?_) | refine AWpA.condv (by simp (maxSteps := 9999999) (disch := omega) only [go_sem, hr, hlen, hLo, g1, hat]; rfl) ?_ | ((first | (apply AWpA.region; (focus (simp (maxSteps := 9999999) (disch := omega) only [go_sem, hr, hlen, hLo, g1, hat]; rfl))) | (apply AWpA.draw [] [] follows; (focus (first | rfl | decide)); (focus (simp (maxSteps := 9999999) (disch := omega) only [go_sem, hr, hlen, hLo, g1, hat]; rfl)); (focus (simp (maxSteps := 9999999) (disch := omega) only [go_sem, hr, hlen, hLo, g1, hat]; first | done | trivial)); (focus (simp (maxSteps := 9999999) (disch := omega) only [go_sem, hr, hlen, hLo, g1, hat]; rfl))) | (apply TailK.go; (focus (simp (maxSteps := 9999999) (disch := omega) only [go_sem, hr, hlen, hLo, g1, hat]; rfl))) | refine AWpA.skip ?_ | refine AWpA.exit ?_ | refine AWpA.ret ?_ | (with_reducible refine ARoundsA.succ ?_) | ((first | refine Runs.kt (by assumption) (fun h9 => ?_) | refine Runs.kf (by assumption) (fun h9 => ?_) | refine Runs.nt (by assumption) (fun h9 => ?_) | refine Runs.nf (by assumption) (fun h9 => ?_) | refine CondP.ht (by assumption) (fun h9 => ?_) | refine CondP.hf (by assumption) (fun h9 => ?_) | refine CondP.nt (by assumption) (fun h9 => ?_) | refine CondP.nf (by assumption) (fun h9 => ?_)); (try simp only [h9]); clear h9)); (try simp (maxSteps := 9999999) (disch := omega) only [go_sem, hr, hlen, hLo, g1, hat]); (try (refine And.intro ?_ ?_; (focus (first | omega | (simp only [go_sem]; done) | (simp; done) | (simp; omega) | assumption))))) | ((first | refine CondP.split (fun hif => ?_) (fun hif => ?_) | refine Runs.part (fun hif => ?_) (fun hif => ?_)) <;> ((try simp only [hif]); (try simp only [decide_eq_true_eq, decide_eq_false_iff_not, Bool.not_eq_true, Bool.not_eq_false, Bool.not_eq_true', Bool.not_eq_false', beq_iff_eq, bne_iff_ne, bne_eq_false_iff_eq, beq_eq_false_iff_ne, ne_eq, Bool.and_eq_true, Bool.or_eq_true, Bool.or_eq_false_iff] at hif); (try (have h9 : _ = true := hif; simp only [h9])); (try (have h9 : _ = false := hif; simp only [h9])); (try simp (maxSteps := 9999999) (disch := omega) only [go_sem, hr, hlen, hLo, g1, hat]); (try (refine And.intro ?_ ?_; (focus (first | omega | (simp only [go_sem]; done) | (simp; done) | (simp; omega) | assumption)))); (try (exfalso; omega; done))))))
      (apply Back.to ((i + 1), out ++ [x]) [0, 1, _, 3]; (focus ((try simp (maxSteps := 9999999) (disch := omega) only [go_sem, hr, hfu, hsn, hd2, renL_append, List.length_append, List.length_singleton]); first | done | omega)); rotate_left; (focus (simp (maxSteps := 9999999) (disch := omega) only [go_sem, hr, hfu, hsn, hd2, renL_append, List.length_append, List.length_singleton]; (try (repeat' (first | done | trivial | rfl | exact leAs_rfl _ | decide | (refine And.intro ?_ ?_) | (simp; done) | omega | (simp; decide)))))))
      exact ⟨by simp only; omega, hs.symm⟩
  · obtain rfl : i = r.length := by omega
    have g1 : ((r.length : Int) < (r.length : Int)) = False := eq_false (by omega)
    by_cases hrk : rankM r m < r.length
    · have e := putA_end hrk
      rw [← ho] at e
      have hd1 : decide (rankM r m < r.length) = true := decide_eq_true hrk
      rw [← e, hd1]
      clear ho e
      (try simp (maxSteps := 9999999) (disch := omega) only [go_sem])
      (repeat' (first | refine AWpA.seq ?_ | refine AWpA.block ?_ | (with_reducible refine CondP.tt ?_) | (with_reducible refine CondP.ff ?_) | refine AWpA.condv (by simp (maxSteps := 9999999) (disch := omega) only [go_sem, hr, hlen, g1]; rfl) ?_ | ((first | (apply AWpA.region; (focus (simp (maxSteps := 9999999) (disch := omega) only [go_sem, hr, hlen, g1]; rfl))) | (apply AWpA.draw [] [] follows; (focus (first | rfl | decide)); (focus (simp (maxSteps := 9999999) (disch := omega) only [go_sem, hr, hlen, g1]; rfl)); (focus (simp (maxSteps := 9999999) (disch := omega) only [go_sem, hr, hlen, g1]; first | done | trivial)); (focus (simp (maxSteps := 9999999) (disch := omega) only [go_sem, hr, hlen, g1]; rfl))) | (apply TailK.go; (focus (simp (maxSteps := 9999999) (disch := omega) only [go_sem, hr, hlen, g1]; rfl))) | refine AWpA.skip ?_ | refine AWpA.exit ?_ | refine AWpA.ret ?_ | (with_reducible refine ARoundsA.succ ?_) | ((first | refine Runs.kt (by assumption) (fun h9 => ?_) | refine Runs.kf (by assumption) (fun h9 => ?_) | refine Runs.nt (by assumption) (fun h9 => ?_) | refine Runs.nf (by assumption) (fun h9 => ?_) | refine CondP.ht (by assumption) (fun h9 => ?_) | refine CondP.hf (by assumption) (fun h9 => ?_) | refine CondP.nt (by assumption) (fun h9 => ?_) | refine CondP.nf (by assumption) (fun h9 => ?_)); (try simp only [h9]); clear h9)); (try simp (maxSteps := 9999999) (disch := omega) only [go_sem, hr, hlen, g1]); (try (refine And.intro ?_ ?_; (focus (first | omega | (simp only [go_sem]; done) | (simp; done) | (simp; omega) | assumption))))) | ((first | refine CondP.split (fun hif => ?_) (fun hif => ?_) | refine Runs.part (fun hif => ?_) (fun hif => ?_)) <;> ((try simp only [hif]); (try simp only [decide_eq_true_eq, decide_eq_false_iff_not, Bool.not_eq_true, Bool.not_eq_false, Bool.not_eq_true', Bool.not_eq_false', beq_iff_eq, bne_iff_ne, bne_eq_false_iff_eq, beq_eq_false_iff_ne, ne_eq, Bool.and_eq_true, Bool.or_eq_true, Bool.or_eq_false_iff] at hif); (try (have h9 : _ = true := hif; simp only [h9])); (try (have h9 : _ = false := hif; simp only [h9])); (try simp (maxSteps := 9999999) (disch := omega) only [go_sem, hr, hlen, g1]); (try (refine And.intro ?_ ?_; (focus (first | omega | (simp only [go_sem]; done) | (simp; done) | (simp; omega) | assumption)))); (try (exfalso; omega; done))))))
      (apply Ret.det [0, 2]; (focus (first | exact .inl rfl | exact .inr rfl)); (focus (simp (maxSteps := 9999999) (disch := omega) only [go_sem, hr]; rfl)); (simp (maxSteps := 9999999) (disch := omega) only [go_sem, hr]; (try (repeat' (first | done | trivial | rfl | exact leAs_rfl _ | decide | (refine And.intro ?_ ?_) | (simp; done) | omega | (simp; decide))))))
    · have e := putA_none hrk
      rw [← ho] at e
      have hd1 : decide (rankM r m < r.length) = false := decide_eq_false hrk
      have hsn := rm_app out [m]
      rw [rm_one] at hsn
      rw [← e, hd1]
      clear ho e
      (try simp (maxSteps := 9999999) (disch := omega) only [go_sem])
      (repeat' (first | refine AWpA.seq ?_ | refine AWpA.block ?_ | (with_reducible refine CondP.tt ?_) | (with_reducible refine CondP.ff ?_) | refine AWpA.condv (by simp (maxSteps := 9999999) (disch := omega) only [go_sem, hr, hlen, hLo, g1]; rfl) ?_ | ((first | (apply AWpA.region; (focus (simp (maxSteps := 9999999) (disch := omega) only [go_sem, hr, hlen, hLo, g1]; rfl))) | (apply AWpA.draw [] [] follows; (focus (first | rfl | decide)); (focus (simp (maxSteps := 9999999) (disch := omega) only [go_sem, hr, hlen, hLo, g1]; rfl)); (focus (simp (maxSteps := 9999999) (disch := omega) only [go_sem, hr, hlen, hLo, g1]; first | done | trivial)); (focus (simp (maxSteps := 9999999) (disch := omega) only [go_sem, hr, hlen, hLo, g1]; rfl))) | (apply TailK.go; (focus (simp (maxSteps := 9999999) (disch := omega) only [go_sem, hr, hlen, hLo, g1]; rfl))) | refine AWpA.skip ?_ | refine AWpA.exit ?_ | refine AWpA.ret ?_ | (with_reducible refine ARoundsA.succ ?_) | ((first | refine Runs.kt (by assumption) (fun h9 => ?_) | refine Runs.kf (by assumption) (fun h9 => ?_) | refine Runs.nt (by assumption) (fun h9 => ?_) | refine Runs.nf (by assumption) (fun h9 => ?_) | refine CondP.ht (by assumption) (fun h9 => ?_) | refine CondP.hf (by assumption) (fun h9 => ?_) | refine CondP.nt (by assumption) (fun h9 => ?_) | refine CondP.nf (by assumption) (fun h9 => ?_)); (try simp only [h9]); clear h9)); (try simp (maxSteps := 9999999) (disch := omega) only [go_sem, hr, hlen, hLo, g1]); (try (refine And.intro ?_ ?_; (focus (first | omega | (simp only [go_sem]; done) | (simp; done) | (simp; omega) | assumption))))) | ((first | refine CondP.split (fun hif => ?_) (fun hif => ?_) | refine Runs.part (fun hif => ?_) (fun hif => ?_)) <;> ((try simp only [hif]); (try simp only [decide_eq_true_eq, decide_eq_false_iff_not, Bool.not_eq_true, Bool.not_eq_false, Bool.not_eq_true', Bool.not_eq_false', beq_iff_eq, bne_iff_ne, bne_eq_false_iff_eq, beq_eq_false_iff_ne, ne_eq, Bool.and_eq_true, Bool.or_eq_true, Bool.or_eq_false_iff] at hif); (try (have h9 : _ = true := hif; simp only [h9])); (try (have h9 : _ = false := hif; simp only [h9])); (try simp (maxSteps := 9999999) (disch := omega) only [go_sem, hr, hlen, hLo, g1]); (try (refine And.intro ?_ ?_; (focus (first | omega | (simp only [go_sem]; done) | (simp; done) | (simp; omega) | assumption)))); (try (exfalso; omega; done))))))
      (apply Ret.det [0, _]; (focus (first | exact .inl rfl | exact .inr rfl)); (focus (simp (maxSteps := 9999999) (disch := omega) only [go_sem, hr, hfu, hsn, renL_append, List.length_append, List.length_singleton]; rfl)); (simp (maxSteps := 9999999) (disch := omega) only [go_sem, hr, hfu, hsn, renL_append, List.length_append, List.length_singleton]; (try (repeat' (first | done | trivial | rfl | exact leAs_rfl _ | decide | (refine And.intro ?_ ?_) | (simp; done) | omega | (simp; decide))))))
theorem rbelowM_any (l : List Mk) (m : Mk) (n : Int) (hs : RiseM l) (hl : l.length ≤ 1099511627000) : ACall Try.prog 28 [.sl 0 0 l.length 3 none, MkG m, I n] [.cells true (Rm 0 l)] (Det (.sl 1 0 (belowM l m n).length 3 none) [.cells true (Rm 0 l), .cells false (Rm 0 (belowM l m n))]) := by
  have hr := rm_ren 0
  have hlen := rm_len 0 l
  rw [below_def hs]
  obtain ⟨p, hp⟩ : ∃ p : Mk → Bool, p = fun a => decide (m = zeroM) || latM m a := ⟨_, rfl⟩
  rw [← hp]
  refine ACall.startA c28_ok Try.func28 rfl Try.ntmps28 (by kernel_rfl) res28_ok rfl rfl rfl ?_; simp (maxSteps := 9999999) (disch := omega) only [go_sem]
  (repeat' (first | refine AWpA.seq ?_ | refine AWpA.block ?_ | (with_reducible refine CondP.tt ?_) | (with_reducible refine CondP.ff ?_) | refine AWpA.condv (by simp (maxSteps := 9999999) (disch := omega) only [go_sem, hr]; rfl) ?_ | ((first | (apply AWpA.region; (focus (simp (maxSteps := 9999999) (disch := omega) only [go_sem, hr]; rfl))) | (apply AWpA.draw [] [] follows; (focus (first | rfl | decide)); (focus (simp (maxSteps := 9999999) (disch := omega) only [go_sem, hr]; rfl)); (focus (simp (maxSteps := 9999999) (disch := omega) only [go_sem, hr]; first | done | trivial)); (focus (simp (maxSteps := 9999999) (disch := omega) only [go_sem, hr]; rfl))) | (apply TailK.go; (focus (simp (maxSteps := 9999999) (disch := omega) only [go_sem, hr]; rfl))) | refine AWpA.skip ?_ | refine AWpA.exit ?_ | refine AWpA.ret ?_ | (with_reducible refine ARoundsA.succ ?_) | ((first | refine Runs.kt (by assumption) (fun h9 => ?_) | refine Runs.kf (by assumption) (fun h9 => ?_) | refine Runs.nt (by assumption) (fun h9 => ?_) | refine Runs.nf (by assumption) (fun h9 => ?_) | refine CondP.ht (by assumption) (fun h9 => ?_) | refine CondP.hf (by assumption) (fun h9 => ?_) | refine CondP.nt (by assumption) (fun h9 => ?_) | refine CondP.nf (by assumption) (fun h9 => ?_)); (try simp only [h9]); clear h9)); (try simp (maxSteps := 9999999) (disch := omega) only [go_sem, hr]); (try (refine And.intro ?_ ?_; (focus (first | omega | (simp only [go_sem]; done) | (simp; done) | (simp; omega) | assumption))))) | ((first | refine CondP.split (fun hif => ?_) (fun hif => ?_) | refine Runs.part (fun hif => ?_) (fun hif => ?_)) <;> ((try simp only [hif]); (try simp only [decide_eq_true_eq, decide_eq_false_iff_not, Bool.not_eq_true, Bool.not_eq_false, Bool.not_eq_true', Bool.not_eq_false', beq_iff_eq, bne_iff_ne, bne_eq_false_iff_eq, beq_eq_false_iff_ne, ne_eq, Bool.and_eq_true, Bool.or_eq_true, Bool.or_eq_false_iff] at hif); (try (have h9 : _ = true := hif; simp only [h9])); (try (have h9 : _ = false := hif; simp only [h9])); (try simp (maxSteps := 9999999) (disch := omega) only [go_sem, hr]); (try (refine And.intro ?_ ?_; (focus (first | omega | (simp only [go_sem]; done) | (simp; done) | (simp; omega) | assumption)))); (try (exfalso; omega; done))))))
  (apply AWpA.loopL (fun q : Nat × List Mk => [(0, .sl 0 0 l.length 3 none), (2, I n), (4, .ptr 1 0), (7, .sl 2 0 q.2.length 3 none), (8, I q.1)]) (fun q => [.cells true (Rm 0 l), .cells false (MkL m), .cells false (Rm 0 q.2)]) (fun q => l.length - q.1) (fun q => q.1 ≤ l.length ∧ q.2 = ((l.take q.1).filter p).take (max n 0).toNat) ((0, [])) [0, _, _]; rotate_left; (focus (simp (maxSteps := 9999999) (disch := omega) only [go_sem, hr, rm_nil]; (try (repeat' (first | done | trivial | rfl | exact leAs_rfl _ | decide | (refine And.intro ?_ ?_) | (simp; done) | omega | (simp; decide)))))); rotate_right)
  · exact ⟨Nat.zero_le _, by simp⟩
  rintro ⟨i, out⟩ ⟨hi, ho⟩
  (try simp only at hi ho)
  have hLo := rm_len 0 out
  have hfu := rm_all out (n := out.length * 3) rfl
  by_cases hil : i < l.length
  · have g1 : ((i : Int) < (l.length : Int)) = True := eq_true (by omega)
    have hat := rm_at 0 l i hil
    rw [Nat.zero_add] at hat
    have c1 := rlat_any m l[i]
    have hol : out.length ≤ i := by
      rw [ho]
      have h1 : ((l.take i).filter p).length ≤ (l.take i).length := List.length_filter_le _ _
      simp only [List.length_take] at h1 ⊢
      omega
    have hpx : p l[i] = (decide (m = zeroM) || latM m l[i]) := by rw [hp]
    have hs : (List.filter p (l.take (i + 1))).take (max n 0).toNat = if p l[i] = true ∧ (out.length : Int) < n then out ++ [l[i]] else out := by
      rw [List.take_succ_eq_append_getElem hil, List.filter_append]
      cases hpl : p l[i] with
      | false => rw [List.filter_cons_of_neg (by simp [hpl]), List.filter_nil, List.append_nil, ← ho]; simp
      | true =>
        rw [List.filter_cons_of_pos hpl, List.filter_nil]
        by_cases hn : (out.length : Int) < n
        · rw [if_pos ⟨rfl, hn⟩]
          have h1 : (List.filter p (l.take i)).length < (max n 0).toNat := by
            have h2 := congrArg List.length ho
            rw [List.length_take] at h2
            omega
          have ho' : out = List.filter p (l.take i) := by rw [ho]; exact List.take_of_length_le (by omega)
          rw [← ho'] at h1 ⊢
          exact List.take_of_length_le (by simp; omega)
        · rw [if_neg (fun h => hn h.2)]
          have h1 : (max n 0).toNat ≤ (List.filter p (l.take i)).length := by
            have h2 := congrArg List.length ho
            rw [List.length_take] at h2
            omega
          rw [List.take_append_of_le_length h1, ← ho]
    clear ho hp
    generalize latM m l[i] = lt at *
    generalize p l[i] = pl at *
    generalize l[i] = x at *
    have hbe : ∀ x : ByteArray, (x == x) = true := fun x => (_root_.Go.MapKept.bytes_beq _ _).2 rfl
    have hsn := rm_app out [x]
    rw [rm_one] at hsn
    have step : ∀ (g : (decide (m = zeroM) || lt) = true → (out.length : Int) < n → True), True := fun _ => trivial
    clear step
    by_cases hz : m = zeroM
    · subst hz
      rw [decide_eq_true rfl, Bool.true_or] at hpx
      subst hpx
      by_cases hn : (out.length : Int) < n
      · have g2 : ((out.length : Int) < n) = True := eq_true hn
        rw [if_pos ⟨rfl, hn⟩] at hs
        (try simp (maxSteps := 9999999) (disch := omega) only [go_sem])
        (repeat' (first | refine AWpA.seq ?_ | refine AWpA.block ?_ | (with_reducible refine CondP.tt ?_) | (with_reducible refine CondP.ff ?_) | refine AWpA.condv (by simp (maxSteps := 9999999) (disch := omega) only [go_sem, hr, hlen, hLo, g1, g2, hat, hbe]; rfl) ?_ | ((first | (apply AWpA.region; (focus (simp (maxSteps := 9999999) (disch := omega) only [go_sem, hr, hlen, hLo, g1, g2, hat, hbe]; rfl))) | (apply AWpA.draw [] [] follows; (focus (first | rfl | decide)); (focus (simp (maxSteps := 9999999) (disch := omega) only [go_sem, hr, hlen, hLo, g1, g2, hat, hbe]; rfl)); (focus (simp (maxSteps := 9999999) (disch := omega) only [go_sem, hr, hlen, hLo, g1, g2, hat, hbe]; first | done | trivial)); (focus (simp (maxSteps := 9999999) (disch := omega) only [go_sem, hr, hlen, hLo, g1, g2, hat, hbe]; rfl))) | (apply TailK.go; (focus (simp (maxSteps := 9999999) (disch := omega) only [go_sem, hr, hlen, hLo, g1, g2, hat, hbe]; rfl))) | refine AWpA.skip ?_ | refine AWpA.exit ?_ | refine AWpA.ret ?_ | (with_reducible refine ARoundsA.succ ?_) | ((first | refine Runs.kt (by assumption) (fun h9 => ?_) | refine Runs.kf (by assumption) (fun h9 => ?_) | refine Runs.nt (by assumption) (fun h9 => ?_) | refine Runs.nf (by assumption) (fun h9 => ?_) | refine CondP.ht (by assumption) (fun h9 => ?_) | refine CondP.hf (by assumption) (fun h9 => ?_) | refine CondP.nt (by assumption) (fun h9 => ?_) | refine CondP.nf (by assumption) (fun h9 => ?_)); (try simp only [h9]); clear h9)); (try simp (maxSteps := 9999999) (disch := omega) only [go_sem, hr, hlen, hLo, g1, g2, hat, hbe]); (try (refine And.intro ?_ ?_; (focus (first | omega | (simp only [go_sem]; done) | (simp; done) | (simp; omega) | assumption))))) | ((first | refine CondP.split (fun hif => ?_) (fun hif => ?_) | refine Runs.part (fun hif => ?_) (fun hif => ?_)) <;> ((try simp only [hif]); (try simp only [decide_eq_true_eq, decide_eq_false_iff_not, Bool.not_eq_true, Bool.not_eq_false, Bool.not_eq_true', Bool.not_eq_false', beq_iff_eq, bne_iff_ne, bne_eq_false_iff_eq, beq_eq_false_iff_ne, ne_eq, Bool.and_eq_true, Bool.or_eq_true, Bool.or_eq_false_iff] at hif); (try (have h9 : _ = true := hif; simp only [h9])); (try (have h9 : _ = false := hif; simp only [h9])); (try simp (maxSteps := 9999999) (disch := omega) only [go_sem, hr, hlen, hLo, g1, g2, hat, hbe]); (try (refine And.intro ?_ ?_; (focus (first | omega | (simp only [go_sem]; done) | (simp; done) | (simp; omega) | assumption)))); (try (exfalso; omega; done))))))
        (apply Back.to ((i + 1), out ++ [x]) [0, 1, _]; (focus ((try simp (maxSteps := 9999999) (disch := omega) only [go_sem, hr, hfu, hsn, renL_append, List.length_append, List.length_singleton]); first | done | omega)); rotate_left; (focus (simp (maxSteps := 9999999) (disch := omega) only [go_sem, hr, hfu, hsn, renL_append, List.length_append, List.length_singleton]; (try (repeat' (first | done | trivial | rfl | exact leAs_rfl _ | decide | (refine And.intro ?_ ?_) | (simp; done) | omega | (simp; decide)))))))
        exact ⟨by simp only; omega, hs.symm⟩
      · have g2 : ((out.length : Int) < n) = False := eq_false hn
        rw [if_neg (fun h => hn h.2)] at hs
        (try simp (maxSteps := 9999999) (disch := omega) only [go_sem])
        (repeat' (first | refine AWpA.seq ?_ | refine AWpA.block ?_ | (with_reducible refine CondP.tt ?_) | (with_reducible refine CondP.ff ?_) | refine AWpA.condv (by simp (maxSteps := 9999999) (disch := omega) only [go_sem, hr, hlen, hLo, g1, g2, hat, hbe]; rfl) ?_ | ((first | (apply AWpA.region; (focus (simp (maxSteps := 9999999) (disch := omega) only [go_sem, hr, hlen, hLo, g1, g2, hat, hbe]; rfl))) | (apply AWpA.draw [] [] follows; (focus (first | rfl | decide)); (focus (simp (maxSteps := 9999999) (disch := omega) only [go_sem, hr, hlen, hLo, g1, g2, hat, hbe]; rfl)); (focus (simp (maxSteps := 9999999) (disch := omega) only [go_sem, hr, hlen, hLo, g1, g2, hat, hbe]; first | done | trivial)); (focus (simp (maxSteps := 9999999) (disch := omega) only [go_sem, hr, hlen, hLo, g1, g2, hat, hbe]; rfl))) | (apply TailK.go; (focus (simp (maxSteps := 9999999) (disch := omega) only [go_sem, hr, hlen, hLo, g1, g2, hat, hbe]; rfl))) | refine AWpA.skip ?_ | refine AWpA.exit ?_ | refine AWpA.ret ?_ | (with_reducible refine ARoundsA.succ ?_) | ((first | refine Runs.kt (by assumption) (fun h9 => ?_) | refine Runs.kf (by assumption) (fun h9 => ?_) | refine Runs.nt (by assumption) (fun h9 => ?_) | refine Runs.nf (by assumption) (fun h9 => ?_) | refine CondP.ht (by assumption) (fun h9 => ?_) | refine CondP.hf (by assumption) (fun h9 => ?_) | refine CondP.nt (by assumption) (fun h9 => ?_) | refine CondP.nf (by assumption) (fun h9 => ?_)); (try simp only [h9]); clear h9)); (try simp (maxSteps := 9999999) (disch := omega) only [go_sem, hr, hlen, hLo, g1, g2, hat, hbe]); (try (refine And.intro ?_ ?_; (focus (first | omega | (simp only [go_sem]; done) | (simp; done) | (simp; omega) | assumption))))) | ((first | refine CondP.split (fun hif => ?_) (fun hif => ?_) | refine Runs.part (fun hif => ?_) (fun hif => ?_)) <;> ((try simp only [hif]); (try simp only [decide_eq_true_eq, decide_eq_false_iff_not, Bool.not_eq_true, Bool.not_eq_false, Bool.not_eq_true', Bool.not_eq_false', beq_iff_eq, bne_iff_ne, bne_eq_false_iff_eq, beq_eq_false_iff_ne, ne_eq, Bool.and_eq_true, Bool.or_eq_true, Bool.or_eq_false_iff] at hif); (try (have h9 : _ = true := hif; simp only [h9])); (try (have h9 : _ = false := hif; simp only [h9])); (try simp (maxSteps := 9999999) (disch := omega) only [go_sem, hr, hlen, hLo, g1, g2, hat, hbe]); (try (refine And.intro ?_ ?_; (focus (first | omega | (simp only [go_sem]; done) | (simp; done) | (simp; omega) | assumption)))); (try (exfalso; omega; done))))))
        (apply Back.to ((i + 1), out) [0, 1, 2]; (focus ((try simp (maxSteps := 9999999) (disch := omega) only [go_sem, hr, hfu]); first | done | omega)); rotate_left; (focus (simp (maxSteps := 9999999) (disch := omega) only [go_sem, hr, hfu]; (try (repeat' (first | done | trivial | rfl | exact leAs_rfl _ | decide | (refine And.intro ?_ ?_) | (simp; done) | omega | (simp; decide)))))))
        exact ⟨by simp only; omega, hs.symm⟩
    · have hzz : mkE m zeroM = false := by rw [mkE_dec, decide_eq_false hz]
      rw [decide_eq_false hz, Bool.false_or] at hpx
      subst hpx
      cases pl with
      | false =>
        rw [if_neg (fun h => Bool.noConfusion h.1)] at hs
        (try simp (maxSteps := 9999999) (disch := omega) only [go_sem])
        (repeat' (first | refine AWpA.seq ?_ | refine AWpA.block ?_ | (with_reducible refine CondP.tt ?_) | (with_reducible refine CondP.ff ?_) | refine AWpA.condv (by simp (maxSteps := 9999999) (disch := omega) only [go_sem, hr, hlen, hLo, g1, hat, hzz]; rfl) ?_ | ((first | (apply AWpA.region; (focus (simp (maxSteps := 9999999) (disch := omega) only [go_sem, hr, hlen, hLo, g1, hat, hzz]; rfl))) | (apply AWpA.draw [] [] follows; (focus (first | rfl | decide)); (focus (simp (maxSteps := 9999999) (disch := omega) only [go_sem, hr, hlen, hLo, g1, hat, hzz]; rfl)); (focus (simp (maxSteps := 9999999) (disch := omega) only [go_sem, hr, hlen, hLo, g1, hat, hzz]; first | done | trivial)); (focus (simp (maxSteps := 9999999) (disch := omega) only [go_sem, hr, hlen, hLo, g1, hat, hzz]; rfl))) | (apply TailK.go; (focus (simp (maxSteps := 9999999) (disch := omega) only [go_sem, hr, hlen, hLo, g1, hat, hzz]; rfl))) | refine AWpA.skip ?_ | refine AWpA.exit ?_ | refine AWpA.ret ?_ | (with_reducible refine ARoundsA.succ ?_) | ((first | refine Runs.kt (by assumption) (fun h9 => ?_) | refine Runs.kf (by assumption) (fun h9 => ?_) | refine Runs.nt (by assumption) (fun h9 => ?_) | refine Runs.nf (by assumption) (fun h9 => ?_) | refine CondP.ht (by assumption) (fun h9 => ?_) | refine CondP.hf (by assumption) (fun h9 => ?_) | refine CondP.nt (by assumption) (fun h9 => ?_) | refine CondP.nf (by assumption) (fun h9 => ?_)); (try simp only [h9]); clear h9) | ((first | (with_reducible apply CallG.plain1 [] (c1)) | (with_reducible apply CallG.draw1 [] (c1))); (focus ((try refine And.intro (leAs_of_eq rfl) ?_); (try refine And.intro (leOL_of_eq rfl) ?_); simp (maxSteps := 9999999) (disch := omega) only [go_sem, hr, hlen, hLo, g1, hat, hzz]; first | done | (repeat' (first | rfl | (refine And.intro ?_ ?_))))); (focus (simp (maxSteps := 9999999) (disch := omega) only [go_sem, hr, hlen, hLo, g1, hat, hzz]; rfl)))); (try simp (maxSteps := 9999999) (disch := omega) only [go_sem, hr, hlen, hLo, g1, hat, hzz]); (try (refine And.intro ?_ ?_; (focus (first | omega | (simp only [go_sem]; done) | (simp; done) | (simp; omega) | assumption))))) | ((first | refine CondP.split (fun hif => ?_) (fun hif => ?_) | refine Runs.part (fun hif => ?_) (fun hif => ?_)) <;> ((try simp only [hif]); (try simp only [decide_eq_true_eq, decide_eq_false_iff_not, Bool.not_eq_true, Bool.not_eq_false, Bool.not_eq_true', Bool.not_eq_false', beq_iff_eq, bne_iff_ne, bne_eq_false_iff_eq, beq_eq_false_iff_ne, ne_eq, Bool.and_eq_true, Bool.or_eq_true, Bool.or_eq_false_iff] at hif); (try (have h9 : _ = true := hif; simp only [h9])); (try (have h9 : _ = false := hif; simp only [h9])); (try simp (maxSteps := 9999999) (disch := omega) only [go_sem, hr, hlen, hLo, g1, hat, hzz]); (try (refine And.intro ?_ ?_; (focus (first | omega | (simp only [go_sem]; done) | (simp; done) | (simp; omega) | assumption)))); (try (exfalso; omega; done))))))
        (apply Back.to ((i + 1), out) [0, 1, 2]; (focus ((try simp (maxSteps := 9999999) (disch := omega) only [go_sem, hr, hfu]); first | done | omega)); rotate_left; (focus (simp (maxSteps := 9999999) (disch := omega) only [go_sem, hr, hfu]; (try (repeat' (first | done | trivial | rfl | exact leAs_rfl _ | decide | (refine And.intro ?_ ?_) | (simp; done) | omega | (simp; decide)))))))
        exact ⟨by simp only; omega, hs.symm⟩
      | true =>
        by_cases hn : (out.length : Int) < n
        · have g2 : ((out.length : Int) < n) = True := eq_true hn
          rw [if_pos ⟨rfl, hn⟩] at hs
          (try simp (maxSteps := 9999999) (disch := omega) only [go_sem])
          (repeat' (first | refine AWpA.seq ?_ | refine AWpA.block ?_ | (with_reducible refine CondP.tt ?_) | (with_reducible refine CondP.ff ?_) | refine AWpA.condv (by simp (maxSteps := 9999999) (disch := omega) only [go_sem, hr, hlen, hLo, g1, g2, hat, hzz]; rfl) ?_ | ((first | (apply AWpA.region; (focus (simp (maxSteps := 9999999) (disch := omega) only [go_sem, hr, hlen, hLo, g1, g2, hat, hzz]; rfl))) | (apply AWpA.draw [] [] follows; (focus (first | rfl | decide)); (focus (simp (maxSteps := 9999999) (disch := omega) only [go_sem, hr, hlen, hLo, g1, g2, hat, hzz]; rfl)); (focus (simp (maxSteps := 9999999) (disch := omega) only [go_sem, hr, hlen, hLo, g1, g2, hat, hzz]; first | done | trivial)); (focus (simp (maxSteps := 9999999) (disch := omega) only [go_sem, hr, hlen, hLo, g1, g2, hat, hzz]; rfl))) | (apply TailK.go; (focus (simp (maxSteps := 9999999) (disch := omega) only [go_sem, hr, hlen, hLo, g1, g2, hat, hzz]; rfl))) | refine AWpA.skip ?_ | refine AWpA.exit ?_ | refine AWpA.ret ?_ | (with_reducible refine ARoundsA.succ ?_) | ((first | refine Runs.kt (by assumption) (fun h9 => ?_) | refine Runs.kf (by assumption) (fun h9 => ?_) | refine Runs.nt (by assumption) (fun h9 => ?_) | refine Runs.nf (by assumption) (fun h9 => ?_) | refine CondP.ht (by assumption) (fun h9 => ?_) | refine CondP.hf (by assumption) (fun h9 => ?_) | refine CondP.nt (by assumption) (fun h9 => ?_) | refine CondP.nf (by assumption) (fun h9 => ?_)); (try simp only [h9]); clear h9) | ((first | (with_reducible apply CallG.plain1 [] (c1)) | (with_reducible apply CallG.draw1 [] (c1))); (focus ((try refine And.intro (leAs_of_eq rfl) ?_); (try refine And.intro (leOL_of_eq rfl) ?_); simp (maxSteps := 9999999) (disch := omega) only [go_sem, hr, hlen, hLo, g1, g2, hat, hzz]; first | done | (repeat' (first | rfl | (refine And.intro ?_ ?_))))); (focus (simp (maxSteps := 9999999) (disch := omega) only [go_sem, hr, hlen, hLo, g1, g2, hat, hzz]; rfl)))); (try simp (maxSteps := 9999999) (disch := omega) only [go_sem, hr, hlen, hLo, g1, g2, hat, hzz]); (try (refine And.intro ?_ ?_; (focus (first | omega | (simp only [go_sem]; done) | (simp; done) | (simp; omega) | assumption))))) | ((first | refine CondP.split (fun hif => ?_) (fun hif => ?_) | refine Runs.part (fun hif => ?_) (fun hif => ?_)) <;> ((try simp only [hif]); (try simp only [decide_eq_true_eq, decide_eq_false_iff_not, Bool.not_eq_true, Bool.not_eq_false, Bool.not_eq_true', Bool.not_eq_false', beq_iff_eq, bne_iff_ne, bne_eq_false_iff_eq, beq_eq_false_iff_ne, ne_eq, Bool.and_eq_true, Bool.or_eq_true, Bool.or_eq_false_iff] at hif); (try (have h9 : _ = true := hif; simp only [h9])); (try (have h9 : _ = false := hif; simp only [h9])); (try simp (maxSteps := 9999999) (disch := omega) only [go_sem, hr, hlen, hLo, g1, g2, hat, hzz]); (try (refine And.intro ?_ ?_; (focus (first | omega | (simp only [go_sem]; done) | (simp; done) | (simp; omega) | assumption)))); (try (exfalso; omega; done))))))
          (apply Back.to ((i + 1), out ++ [x]) [0, 1, _]; (focus ((try simp (maxSteps := 9999999) (disch := omega) only [go_sem, hr, hfu, hsn, renL_append, List.length_append, List.length_singleton]); first | done | omega)); rotate_left; (focus (simp (maxSteps := 9999999) (disch := omega) only [go_sem, hr, hfu, hsn, renL_append, List.length_append, List.length_singleton]; (try (repeat' (first | done | trivial | rfl | exact leAs_rfl _ | decide | (refine And.intro ?_ ?_) | (simp; done) | omega | (simp; decide)))))))
          exact ⟨by simp only; omega, hs.symm⟩
        · have g2 : ((out.length : Int) < n) = False := eq_false hn
          rw [if_neg (fun h => hn h.2)] at hs
          (try simp (maxSteps := 9999999) (disch := omega) only [go_sem])
          (repeat' (first | refine AWpA.seq ?_ | refine AWpA.block ?_ | (with_reducible refine CondP.tt ?_) | (with_reducible refine CondP.ff ?_) | refine AWpA.condv (by simp (maxSteps := 9999999) (disch := omega) only [go_sem, hr, hlen, hLo, g1, g2, hat, hzz]; rfl) ?_ | ((first | (apply AWpA.region; (focus (simp (maxSteps := 9999999) (disch := omega) only [go_sem, hr, hlen, hLo, g1, g2, hat, hzz]; rfl))) | (apply AWpA.draw [] [] follows; (focus (first | rfl | decide)); (focus (simp (maxSteps := 9999999) (disch := omega) only [go_sem, hr, hlen, hLo, g1, g2, hat, hzz]; rfl)); (focus (simp (maxSteps := 9999999) (disch := omega) only [go_sem, hr, hlen, hLo, g1, g2, hat, hzz]; first | done | trivial)); (focus (simp (maxSteps := 9999999) (disch := omega) only [go_sem, hr, hlen, hLo, g1, g2, hat, hzz]; rfl))) | (apply TailK.go; (focus (simp (maxSteps := 9999999) (disch := omega) only [go_sem, hr, hlen, hLo, g1, g2, hat, hzz]; rfl))) | refine AWpA.skip ?_ | refine AWpA.exit ?_ | refine AWpA.ret ?_ | (with_reducible refine ARoundsA.succ ?_) | ((first | refine Runs.kt (by assumption) (fun h9 => ?_) | refine Runs.kf (by assumption) (fun h9 => ?_) | refine Runs.nt (by assumption) (fun h9 => ?_) | refine Runs.nf (by assumption) (fun h9 => ?_) | refine CondP.ht (by assumption) (fun h9 => ?_) | refine CondP.hf (by assumption) (fun h9 => ?_) | refine CondP.nt (by assumption) (fun h9 => ?_) | refine CondP.nf (by assumption) (fun h9 => ?_)); (try simp only [h9]); clear h9) | ((first | (with_reducible apply CallG.plain1 [] (c1)) | (with_reducible apply CallG.draw1 [] (c1))); (focus ((try refine And.intro (leAs_of_eq rfl) ?_); (try refine And.intro (leOL_of_eq rfl) ?_); simp (maxSteps := 9999999) (disch := omega) only [go_sem, hr, hlen, hLo, g1, g2, hat, hzz]; first | done | (repeat' (first | rfl | (refine And.intro ?_ ?_))))); (focus (simp (maxSteps := 9999999) (disch := omega) only [go_sem, hr, hlen, hLo, g1, g2, hat, hzz]; rfl)))); (try simp (maxSteps := 9999999) (disch := omega) only [go_sem, hr, hlen, hLo, g1, g2, hat, hzz]); (try (refine And.intro ?_ ?_; (focus (first | omega | (simp only [go_sem]; done) | (simp; done) | (simp; omega) | assumption))))) | ((first | refine CondP.split (fun hif => ?_) (fun hif => ?_) | refine Runs.part (fun hif => ?_) (fun hif => ?_)) <;> ((try simp only [hif]); (try simp only [decide_eq_true_eq, decide_eq_false_iff_not, Bool.not_eq_true, Bool.not_eq_false, Bool.not_eq_true', Bool.not_eq_false', beq_iff_eq, bne_iff_ne, bne_eq_false_iff_eq, beq_eq_false_iff_ne, ne_eq, Bool.and_eq_true, Bool.or_eq_true, Bool.or_eq_false_iff] at hif); (try (have h9 : _ = true := hif; simp only [h9])); (try (have h9 : _ = false := hif; simp only [h9])); (try simp (maxSteps := 9999999) (disch := omega) only [go_sem, hr, hlen, hLo, g1, g2, hat, hzz]); (try (refine And.intro ?_ ?_; (focus (first | omega | (simp only [go_sem]; done) | (simp; done) | (simp; omega) | assumption)))); (try (exfalso; omega; done))))))
          (apply Back.to ((i + 1), out) [0, 1, 2]; (focus ((try simp (maxSteps := 9999999) (disch := omega) only [go_sem, hr, hfu]); first | done | omega)); rotate_left; (focus (simp (maxSteps := 9999999) (disch := omega) only [go_sem, hr, hfu]; (try (repeat' (first | done | trivial | rfl | exact leAs_rfl _ | decide | (refine And.intro ?_ ?_) | (simp; done) | omega | (simp; decide)))))))
          exact ⟨by simp only; omega, hs.symm⟩
  · obtain rfl : i = l.length := by omega
    have g1 : ((l.length : Int) < (l.length : Int)) = False := eq_false (by omega)
    rw [List.take_length] at ho
    rw [← ho]
    clear ho hp
    (try simp (maxSteps := 9999999) (disch := omega) only [go_sem])
    (repeat' (first | refine AWpA.seq ?_ | refine AWpA.block ?_ | (with_reducible refine CondP.tt ?_) | (with_reducible refine CondP.ff ?_) | refine AWpA.condv (by simp (maxSteps := 9999999) (disch := omega) only [go_sem, hr, hlen, g1]; rfl) ?_ | ((first | (apply AWpA.region; (focus (simp (maxSteps := 9999999) (disch := omega) only [go_sem, hr, hlen, g1]; rfl))) | (apply AWpA.draw [] [] follows; (focus (first | rfl | decide)); (focus (simp (maxSteps := 9999999) (disch := omega) only [go_sem, hr, hlen, g1]; rfl)); (focus (simp (maxSteps := 9999999) (disch := omega) only [go_sem, hr, hlen, g1]; first | done | trivial)); (focus (simp (maxSteps := 9999999) (disch := omega) only [go_sem, hr, hlen, g1]; rfl))) | (apply TailK.go; (focus (simp (maxSteps := 9999999) (disch := omega) only [go_sem, hr, hlen, g1]; rfl))) | refine AWpA.skip ?_ | refine AWpA.exit ?_ | refine AWpA.ret ?_ | (with_reducible refine ARoundsA.succ ?_) | ((first | refine Runs.kt (by assumption) (fun h9 => ?_) | refine Runs.kf (by assumption) (fun h9 => ?_) | refine Runs.nt (by assumption) (fun h9 => ?_) | refine Runs.nf (by assumption) (fun h9 => ?_) | refine CondP.ht (by assumption) (fun h9 => ?_) | refine CondP.hf (by assumption) (fun h9 => ?_) | refine CondP.nt (by assumption) (fun h9 => ?_) | refine CondP.nf (by assumption) (fun h9 => ?_)); (try simp only [h9]); clear h9)); (try simp (maxSteps := 9999999) (disch := omega) only [go_sem, hr, hlen, g1]); (try (refine And.intro ?_ ?_; (focus (first | omega | (simp only [go_sem]; done) | (simp; done) | (simp; omega) | assumption))))) | ((first | refine CondP.split (fun hif => ?_) (fun hif => ?_) | refine Runs.part (fun hif => ?_) (fun hif => ?_)) <;> ((try simp only [hif]); (try simp only [decide_eq_true_eq, decide_eq_false_iff_not, Bool.not_eq_true, Bool.not_eq_false, Bool.not_eq_true', Bool.not_eq_false', beq_iff_eq, bne_iff_ne, bne_eq_false_iff_eq, beq_eq_false_iff_ne, ne_eq, Bool.and_eq_true, Bool.or_eq_true, Bool.or_eq_false_iff] at hif); (try (have h9 : _ = true := hif; simp only [h9])); (try (have h9 : _ = false := hif; simp only [h9])); (try simp (maxSteps := 9999999) (disch := omega) only [go_sem, hr, hlen, g1]); (try (refine And.intro ?_ ?_; (focus (first | omega | (simp only [go_sem]; done) | (simp; done) | (simp; omega) | assumption)))); (try (exfalso; omega; done))))))
    (apply Ret.det [0, 2]; (focus (first | exact .inl rfl | exact .inr rfl)); (focus (simp (maxSteps := 9999999) (disch := omega) only [go_sem, hr]; rfl)); (simp (maxSteps := 9999999) (disch := omega) only [go_sem, hr]; (try (repeat' (first | done | trivial | rfl | exact leAs_rfl _ | decide | (refine And.intro ?_ ?_) | (simp; done) | omega | (simp; decide))))))
end Go.Proofs.Ytgjimlgofakbpaa
