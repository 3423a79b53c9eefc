/- Contracts: a watch looks on; the document's. -/
import Derived.Test.YtbblpmkdhdnkhaaBw6
namespace Go.Proofs.Ytbblpmkdhdnkhaa
set_option linter.unusedSimpArgs false
set_option linter.unusedVariables false
set_option maxHeartbeats 4000000
open Go Go.Am Go.RowKit
set_option maxRecDepth 100000
/- slices.Clone[[]quidnunc/api.Entry,quidnunc/api.Entry] -/
noncomputable def c45_1 : ACode := .region false [⟨some 2, .move, [.c (.val (.slice none 0 0))], none⟩] [] [] [0] false [] []
noncomputable def c45_4 : ACode := .region false [⟨some 3, .move, [.t 0], none⟩,
  ⟨some 4, .eqS false, [.t 3, .c (.val (.slice none 0 0))], none⟩] [] [] [0, 4] false [] []
noncomputable def c45_7 : ACode := .region false [⟨some 2, .move, [.c (.val (.slice none 0 0))], none⟩] [] [] [2] false [] []
noncomputable def c45_6 : ACode := .seq c45_7 .ret
noncomputable def c45_5 : ACode := .cond (.t 4) c45_6 .skip
noncomputable def c45_3 : ACode := .seq c45_4 c45_5
noncomputable def c45_9 : ACode := .region false [⟨some 5, .buildSl 9 0 [(.string ⟨#[]⟩), (.string ⟨#[]⟩), (.bool false), (.int .i64 0), (.int .i64 0), (.int .i64 0), (.int .i64 0), (.int .i64 0), (.int .i64 0)] [], [], none⟩,
  ⟨some 6, .move, [.t 0], none⟩,
  ⟨some 7, .append 9 88 false, [.t 5, .t 6], none⟩,
  ⟨some 2, .move, [.t 7], none⟩] [] [] [2] true [] []
noncomputable def c45_8 : ACode := .seq c45_9 .ret
noncomputable def c45_2 : ACode := .seq c45_3 c45_8
noncomputable def c45_0 : ACode := .seq c45_1 c45_2
noncomputable def code45 : Code := (Try.f45.body).getD .skip
theorem c45_ok : compC Try.prog 8 code45 = some (strip c45_0) := by kernel_rfl
theorem res45_ok : Try.f45.results.toList.mapM (resC Try.prog) = some [(2, none)] := by kernel_rfl
/- quidnunc/watch.risen -/
noncomputable def c44_1 : ACode := .region false [⟨some 2, .move, [.c (.val (.bool false))], none⟩] [] [] [0] false [] []
noncomputable def c44_4 : ACode := .region false [⟨some 3, .move, [.c (.val (.int .i64 1))], none⟩] [] [] [0, 3] false [] []
noncomputable def c44_9 : ACode := .region false [⟨some 4, .move, [.t 3], none⟩,
  ⟨some 5, .move, [.t 0], none⟩,
  ⟨some 6, .len, [.t 5], none⟩,
  ⟨some 7, .bin .lss, [.t 4, .t 6], none⟩] [] [] [0, 3, 7] false [] []
noncomputable def c44_10 : ACode := .cond (.t 7) .skip (.exit 0)
noncomputable def c44_8 : ACode := .seq c44_9 c44_10
noncomputable def c44_14 : ACode := .region true [⟨some 10, .move, [.t 0], none⟩,
  ⟨some 11, .move, [.t 3], none⟩,
  ⟨some 12, .bin .sub, [.t 11, .c (.val (.int .i64 1))], none⟩,
  ⟨some 13, .ixS 9, [.t 10, .t 12], none⟩,
  ⟨some 14, .addr 0, [.t 13], none⟩,
  ⟨some 15, .load false 1, [.t 14], none⟩,
  ⟨some 16, .move, [.t 0], none⟩,
  ⟨some 17, .move, [.t 3], none⟩,
  ⟨some 18, .ixS 9, [.t 16, .t 17], none⟩,
  ⟨some 19, .addr 0, [.t 18], none⟩,
  ⟨some 20, .load false 1, [.t 19], none⟩,
  ⟨some 21, .bin .geq, [.t 15, .t 20], none⟩] [] [] [0, 3, 21] false [] []
noncomputable def c44_17 : ACode := .region false [⟨some 2, .move, [.c (.val (.bool false))], none⟩] [] [] [2] false [] []
noncomputable def c44_16 : ACode := .seq c44_17 .ret
noncomputable def c44_15 : ACode := .cond (.t 21) c44_16 .skip
noncomputable def c44_13 : ACode := .seq c44_14 c44_15
noncomputable def c44_12 : ACode := .block 1 c44_13
noncomputable def c44_18 : ACode := .region false [⟨some 8, .move, [.t 3], none⟩,
  ⟨some 9, .bin .add, [.t 8, .c (.val (.int .i64 1))], none⟩,
  ⟨some 3, .move, [.t 9], none⟩] [] [] [0, 3] false [] []
noncomputable def c44_11 : ACode := .seq c44_12 c44_18
noncomputable def c44_7 : ACode := .seq c44_8 c44_11
noncomputable def c44_6 : ACode := .loop c44_7
noncomputable def c44_5 : ACode := .block 0 c44_6
noncomputable def c44_3 : ACode := .seq c44_4 c44_5
noncomputable def c44_20 : ACode := .region false [⟨some 2, .move, [.c (.val (.bool true))], none⟩] [] [] [2] false [] []
noncomputable def c44_19 : ACode := .seq c44_20 .ret
noncomputable def c44_2 : ACode := .seq c44_3 c44_19
noncomputable def c44_0 : ACode := .seq c44_1 c44_2
noncomputable def code44 : Code := (Try.f44.body).getD .skip
theorem c44_ok : compC Try.prog 22 code44 = some (strip c44_0) := by kernel_rfl
theorem res44_ok : Try.f44.results.toList.mapM (resC Try.prog) = some [(2, none)] := by kernel_rfl
/- quidnunc/quidnuncref26.Risen -/
noncomputable def c43_1 : ACode := .region false [⟨some 2, .move, [.c (.val (.bool false))], none⟩] [] [] [0] false [] []
noncomputable def c43_4 : ACode := .region false [⟨some 3, .move, [.c (.val (.int .i64 1))], none⟩] [] [] [0, 3] false [] []
noncomputable def c43_9 : ACode := .region false [⟨some 4, .move, [.t 3], none⟩,
  ⟨some 5, .move, [.t 0], none⟩,
  ⟨some 6, .len, [.t 5], none⟩,
  ⟨some 7, .bin .lss, [.t 4, .t 6], none⟩] [] [] [0, 3, 7] false [] []
noncomputable def c43_10 : ACode := .cond (.t 7) .skip (.exit 0)
noncomputable def c43_8 : ACode := .seq c43_9 c43_10
noncomputable def c43_14 : ACode := .region true [⟨some 10, .move, [.t 0], none⟩,
  ⟨some 11, .move, [.t 3], none⟩,
  ⟨some 12, .bin .sub, [.t 11, .c (.val (.int .i64 1))], none⟩,
  ⟨some 13, .ixS 9, [.t 10, .t 12], none⟩,
  ⟨some 14, .addr 0, [.t 13], none⟩,
  ⟨some 15, .load false 1, [.t 14], none⟩,
  ⟨some 16, .move, [.t 0], none⟩,
  ⟨some 17, .move, [.t 3], none⟩,
  ⟨some 18, .ixS 9, [.t 16, .t 17], none⟩,
  ⟨some 19, .addr 0, [.t 18], none⟩,
  ⟨some 20, .load false 1, [.t 19], none⟩,
  ⟨some 21, .bin .geq, [.t 15, .t 20], none⟩] [] [] [0, 3, 21] false [] []
noncomputable def c43_17 : ACode := .region false [⟨some 2, .move, [.c (.val (.bool false))], none⟩] [] [] [2] false [] []
noncomputable def c43_16 : ACode := .seq c43_17 .ret
noncomputable def c43_15 : ACode := .cond (.t 21) c43_16 .skip
noncomputable def c43_13 : ACode := .seq c43_14 c43_15
noncomputable def c43_12 : ACode := .block 1 c43_13
noncomputable def c43_18 : ACode := .region false [⟨some 8, .move, [.t 3], none⟩,
  ⟨some 9, .bin .add, [.t 8, .c (.val (.int .i64 1))], none⟩,
  ⟨some 3, .move, [.t 9], none⟩] [] [] [0, 3] false [] []
noncomputable def c43_11 : ACode := .seq c43_12 c43_18
noncomputable def c43_7 : ACode := .seq c43_8 c43_11
noncomputable def c43_6 : ACode := .loop c43_7
noncomputable def c43_5 : ACode := .block 0 c43_6
noncomputable def c43_3 : ACode := .seq c43_4 c43_5
noncomputable def c43_20 : ACode := .region false [⟨some 2, .move, [.c (.val (.bool true))], none⟩] [] [] [2] false [] []
noncomputable def c43_19 : ACode := .seq c43_20 .ret
noncomputable def c43_2 : ACode := .seq c43_3 c43_19
noncomputable def c43_0 : ACode := .seq c43_1 c43_2
noncomputable def code43 : Code := (Try.f43.body).getD .skip
theorem c43_ok : compC Try.prog 22 code43 = some (strip c43_0) := by kernel_rfl
theorem res43_ok : Try.f43.results.toList.mapM (resC Try.prog) = some [(2, none)] := by kernel_rfl
/- quidnunc/watch.New -/
noncomputable def c17_1 : ACode := .region false [⟨some 2, .move, [.c (.val (.pointer none))], none⟩] [] [] [0] false [] []
noncomputable def c17_3 : ACode := .region false [⟨some 3, .move, [.t 0], none⟩,
  ⟨some 4, .build [(.int .i64 0), (.int .i64 0), (.slice none 0 0), (.slice none 0 0)] [(0, 1)], [.t 3], none⟩,
  ⟨some 5, .box 0, [.t 4], none⟩,
  ⟨some 2, .move, [.t 5], none⟩] [] [] [2] true [] []
noncomputable def c17_2 : ACode := .seq c17_3 .ret
noncomputable def c17_0 : ACode := .seq c17_1 c17_2
noncomputable def code17 : Code := (Try.f17.body).getD .skip
theorem c17_ok : compC Try.prog 6 code17 = some (strip c17_0) := by kernel_rfl
theorem res17_ok : Try.f17.results.toList.mapM (resC Try.prog) = some [(2, none)] := by kernel_rfl
/- (*quidnunc/watch.Watch).Wrote -/
noncomputable def c18_1 : ACode := .region false [⟨some 3, .box 0, [.t 1], none⟩] [] [] [0, 3] true [] []
noncomputable def c18_2 : ACode := .region true [⟨some 4, .move, [.t 0], none⟩,
  ⟨some 5, .move, [.t 0], none⟩,
  ⟨some 6, .nilChk, [.t 5], none⟩,
  ⟨some 7, .addr 2, [.t 6], none⟩,
  ⟨some 8, .load false 1, [.t 7], none⟩,
  ⟨some 9, .load true 10, [.t 3], none⟩,
  ⟨some 10, .buildSl 10 1 [(.string ⟨#[]⟩), (.string ⟨#[]⟩), (.bool false), (.int .i64 0), (.int .i64 0), (.int .i64 0), (.int .i64 0), (.int .i64 0), (.int .i64 0), (.bool false)] [(0, 10)], [.t 9], none⟩,
  ⟨some 11, .append 10 96 false, [.t 8, .t 10], none⟩,
  ⟨some 12, .nilChk, [.t 4], none⟩,
  ⟨some 13, .addr 2, [.t 12], none⟩,
  ⟨none, .store 1, [.t 13, .t 11], none⟩] [4] [(4, 6)] [] true [0] []
noncomputable def c18_0 : ACode := .seq c18_1 c18_2
noncomputable def code18 : Code := (Try.f18.body).getD .skip
theorem c18_ok : compC Try.prog 14 code18 = some (strip c18_0) := by kernel_rfl
theorem res18_ok : Try.f18.results.toList.mapM (resC Try.prog) = some [] := by kernel_rfl
/- (*quidnunc/watch.Watch).Seen -/
noncomputable def c22_1 : ACode := .region false [⟨some 2, .move, [.c (.val (.int .i64 0))], none⟩] [] [] [0] false [] []
noncomputable def c22_3 : ACode := .region false [⟨some 3, .move, [.t 0], none⟩,
  ⟨some 4, .nilChk, [.t 3], none⟩,
  ⟨some 5, .addr 1, [.t 4], none⟩,
  ⟨some 6, .load false 1, [.t 5], none⟩,
  ⟨some 2, .move, [.t 6], none⟩] [] [] [2] false [] []
noncomputable def c22_2 : ACode := .seq c22_3 .ret
noncomputable def c22_0 : ACode := .seq c22_1 c22_2
noncomputable def code22 : Code := (Try.f22.body).getD .skip
theorem c22_ok : compC Try.prog 7 code22 = some (strip c22_0) := by kernel_rfl
theorem res22_ok : Try.f22.results.toList.mapM (resC Try.prog) = some [(2, none)] := by kernel_rfl
/- (*quidnunc/watch.Watch).See -/
noncomputable def c21_1 : ACode := .region false [⟨some 4, .move, [.c (.val (.int .i64 0))], none⟩] [] [] [0, 1] false [] []
noncomputable def c21_3 : ACode := .region false [⟨some 8, .move, [.t 0], none⟩,
  ⟨some 9, .nilChk, [.t 8], none⟩,
  ⟨some 10, .addr 3, [.t 9], none⟩,
  ⟨some 11, .load false 1, [.t 10], none⟩,
  ⟨some 12, .move, [.t 1], none⟩,
  ⟨some 13, .call 25, [.t 11, .t 12], none⟩,
  ⟨some 7, .move, [.t 13], none⟩,
  ⟨some 14, .ext 0, [.t 7], none⟩,
  ⟨some 15, .ext 1, [.t 7], none⟩,
  ⟨some 5, .move, [.t 14], none⟩,
  ⟨some 6, .move, [.t 15], none⟩] [] [] [0, 1, 6] true [] []
noncomputable def c21_7 : ACode := .region false [⟨some 17, .move, [.t 1], none⟩,
  ⟨some 18, .call 44, [.t 17], none⟩,
  ⟨some 19, .un .not, [.t 18], none⟩,
  ⟨some 16, .move, [.t 19], none⟩] [] [] [0, 1, 6, 16] true [] []
noncomputable def c21_10 : ACode := .region false [⟨some 4, .move, [.c (.val (.int .i64 4))], none⟩] [] [] [4] false [] []
noncomputable def c21_9 : ACode := .seq c21_10 .ret
noncomputable def c21_12 : ACode := .region false [⟨some 21, .move, [.t 1], none⟩,
  ⟨some 22, .move, [.t 0], none⟩,
  ⟨some 23, .nilChk, [.t 22], none⟩,
  ⟨some 24, .addr 2, [.t 23], none⟩,
  ⟨some 25, .load false 1, [.t 24], none⟩,
  ⟨some 26, .call 11, [.t 21, .t 25], none⟩,
  ⟨some 27, .bin .geq, [.t 26, .c (.val (.int .i64 0))], none⟩,
  ⟨some 20, .move, [.t 27], none⟩] [] [] [0, 1, 6, 20] true [] []
noncomputable def c21_15 : ACode := .region false [⟨some 4, .move, [.c (.val (.int .i64 5))], none⟩] [] [] [4] false [] []
noncomputable def c21_14 : ACode := .seq c21_15 .ret
noncomputable def c21_17 : ACode := .region true [⟨some 29, .move, [.t 1], none⟩,
  ⟨some 30, .move, [.t 0], none⟩,
  ⟨some 31, .nilChk, [.t 30], none⟩,
  ⟨some 32, .addr 0, [.t 31], none⟩,
  ⟨some 33, .load false 1, [.t 32], none⟩,
  ⟨some 34, .move, [.t 0], none⟩,
  ⟨some 35, .nilChk, [.t 34], none⟩,
  ⟨some 36, .addr 2, [.t 35], none⟩,
  ⟨some 37, .load false 1, [.t 36], none⟩,
  ⟨some 38, .call 15, [.t 29, .t 33, .t 37], none⟩,
  ⟨some 39, .bin .geq, [.t 38, .c (.val (.int .i64 0))], none⟩,
  ⟨some 28, .move, [.t 39], none⟩] [] [] [0, 1, 6, 28] true [] []
noncomputable def c21_20 : ACode := .region false [⟨some 4, .move, [.c (.val (.int .i64 6))], none⟩] [] [] [4] false [] []
noncomputable def c21_19 : ACode := .seq c21_20 .ret
noncomputable def c21_22 : ACode := .region false [⟨some 41, .move, [.t 6], none⟩,
  ⟨some 40, .move, [.t 41], none⟩] [] [] [0, 1, 40] false [] []
noncomputable def c21_25 : ACode := .region false [⟨some 4, .move, [.c (.val (.int .i64 12))], none⟩] [] [] [4] false [] []
noncomputable def c21_24 : ACode := .seq c21_25 .ret
noncomputable def c21_23 : ACode := .cond (.t 40) c21_24 .skip
noncomputable def c21_21 : ACode := .seq c21_22 c21_23
noncomputable def c21_18 : ACode := .cond (.t 28) c21_19 c21_21
noncomputable def c21_16 : ACode := .seq c21_17 c21_18
noncomputable def c21_13 : ACode := .cond (.t 20) c21_14 c21_16
noncomputable def c21_11 : ACode := .seq c21_12 c21_13
noncomputable def c21_8 : ACode := .cond (.t 16) c21_9 c21_11
noncomputable def c21_6 : ACode := .seq c21_7 c21_8
noncomputable def c21_5 : ACode := .block 0 c21_6
noncomputable def c21_27 : ACode := .region false [⟨some 42, .move, [.t 0], none⟩,
  ⟨some 43, .move, [.t 1], none⟩,
  ⟨some 44, .call 45, [.t 43], none⟩,
  ⟨some 45, .nilChk, [.t 42], none⟩,
  ⟨some 46, .addr 3, [.t 45], none⟩,
  ⟨none, .store 1, [.t 46, .t 44], none⟩] [] [] [0] true [] []
noncomputable def c21_29 : ACode := .region false [⟨some 47, .move, [.t 0], none⟩,
  ⟨some 48, .nilChk, [.t 47], none⟩,
  ⟨some 49, .addr 1, [.t 48], none⟩,
  ⟨some 50, .load false 1, [.t 49], none⟩,
  ⟨some 51, .bin .add, [.t 50, .c (.val (.int .i64 1))], none⟩,
  ⟨some 52, .nilChk, [.t 47], none⟩,
  ⟨some 53, .addr 1, [.t 52], none⟩,
  ⟨none, .store 1, [.t 53, .t 51], none⟩] [] [] [] true [] []
noncomputable def c21_31 : ACode := .region false [⟨some 4, .move, [.c (.val (.int .i64 0))], none⟩] [] [] [4] false [] []
noncomputable def c21_30 : ACode := .seq c21_31 .ret
noncomputable def c21_28 : ACode := .seq c21_29 c21_30
noncomputable def c21_26 : ACode := .seq c21_27 c21_28
noncomputable def c21_4 : ACode := .seq c21_5 c21_26
noncomputable def c21_2 : ACode := .seq c21_3 c21_4
noncomputable def c21_0 : ACode := .seq c21_1 c21_2
noncomputable def code21 : Code := (Try.f21.body).getD .skip
theorem c21_ok : compC Try.prog 54 code21 = some (strip c21_0) := by kernel_rfl
theorem res21_ok : Try.f21.results.toList.mapM (resC Try.prog) = some [(4, none)] := by kernel_rfl
/- quidnunc/quidnuncref26.See -/
noncomputable def c20_1 : ACode := .region false [⟨some 2, .box 0, [.t 0], none⟩,
  ⟨some 4, .alloc [(.int .i64 0), (.int .i64 0), (.slice none 0 0), (.slice none 0 0)], [], none⟩,
  ⟨some 5, .move, [.c (.val (.int .i64 0))], none⟩] [] [] [1, 2, 4] true [] []
noncomputable def c20_4 : ACode := .region false [⟨some 8, .move, [.t 1], none⟩,
  ⟨some 9, .call 43, [.t 8], none⟩,
  ⟨some 10, .un .not, [.t 9], none⟩] [] [] [1, 2, 4, 10] true [] []
noncomputable def c20_7 : ACode := .region false [⟨some 11, .load true 4, [.t 2], none⟩,
  ⟨none, .store 4, [.t 4, .t 11], none⟩,
  ⟨some 5, .move, [.c (.val (.int .i64 4))], none⟩] [] [] [4, 5] true [] []
noncomputable def c20_6 : ACode := .seq c20_7 .ret
noncomputable def c20_5 : ACode := .cond (.t 10) c20_6 .skip
noncomputable def c20_3 : ACode := .seq c20_4 c20_5
noncomputable def c20_10 : ACode := .region false [⟨some 12, .move, [.t 1], none⟩,
  ⟨some 13, .addr 2, [.t 2], none⟩,
  ⟨some 14, .load false 1, [.t 13], none⟩,
  ⟨some 15, .call 14, [.t 12, .t 14], none⟩,
  ⟨some 16, .bin .geq, [.t 15, .c (.val (.int .i64 0))], none⟩] [] [] [1, 2, 4, 16] true [] []
noncomputable def c20_13 : ACode := .region false [⟨some 17, .load true 4, [.t 2], none⟩,
  ⟨none, .store 4, [.t 4, .t 17], none⟩,
  ⟨some 5, .move, [.c (.val (.int .i64 5))], none⟩] [] [] [4, 5] true [] []
noncomputable def c20_12 : ACode := .seq c20_13 .ret
noncomputable def c20_11 : ACode := .cond (.t 16) c20_12 .skip
noncomputable def c20_9 : ACode := .seq c20_10 c20_11
noncomputable def c20_16 : ACode := .region false [⟨some 18, .move, [.t 1], none⟩,
  ⟨some 19, .addr 0, [.t 2], none⟩,
  ⟨some 20, .load false 1, [.t 19], none⟩,
  ⟨some 21, .addr 2, [.t 2], none⟩,
  ⟨some 22, .load false 1, [.t 21], none⟩,
  ⟨some 23, .call 16, [.t 18, .t 20, .t 22], none⟩,
  ⟨some 24, .bin .geq, [.t 23, .c (.val (.int .i64 0))], none⟩] [] [] [1, 2, 4, 24] true [] []
noncomputable def c20_19 : ACode := .region false [⟨some 25, .load true 4, [.t 2], none⟩,
  ⟨none, .store 4, [.t 4, .t 25], none⟩,
  ⟨some 5, .move, [.c (.val (.int .i64 6))], none⟩] [] [] [4, 5] true [] []
noncomputable def c20_18 : ACode := .seq c20_19 .ret
noncomputable def c20_17 : ACode := .cond (.t 24) c20_18 .skip
noncomputable def c20_15 : ACode := .seq c20_16 c20_17
noncomputable def c20_22 : ACode := .region false [⟨some 27, .addr 3, [.t 2], none⟩,
  ⟨some 28, .load false 1, [.t 27], none⟩,
  ⟨some 29, .move, [.t 1], none⟩,
  ⟨some 30, .call 26, [.t 28, .t 29], none⟩,
  ⟨some 26, .move, [.t 30], none⟩,
  ⟨some 31, .ext 0, [.t 26], none⟩,
  ⟨some 32, .ext 1, [.t 26], none⟩,
  ⟨some 6, .move, [.t 31], none⟩,
  ⟨some 7, .move, [.t 32], none⟩] [] [] [1, 2, 4, 7] true [] []
noncomputable def c20_24 : ACode := .region false [⟨some 33, .move, [.t 7], none⟩] [] [] [1, 2, 4, 33] false [] []
noncomputable def c20_27 : ACode := .region false [⟨some 34, .load true 4, [.t 2], none⟩,
  ⟨none, .store 4, [.t 4, .t 34], none⟩,
  ⟨some 5, .move, [.c (.val (.int .i64 12))], none⟩] [] [] [4, 5] true [] []
noncomputable def c20_26 : ACode := .seq c20_27 .ret
noncomputable def c20_25 : ACode := .cond (.t 33) c20_26 .skip
noncomputable def c20_23 : ACode := .seq c20_24 c20_25
noncomputable def c20_21 : ACode := .seq c20_22 c20_23
noncomputable def c20_29 : ACode := .region false [⟨some 35, .move, [.t 1], none⟩,
  ⟨some 36, .addr 3, [.t 2], none⟩,
  ⟨none, .store 1, [.t 36, .t 35], none⟩] [] [] [2, 4] true [] []
noncomputable def c20_31 : ACode := .region false [⟨some 37, .addr 1, [.t 2], none⟩,
  ⟨some 38, .load false 1, [.t 37], none⟩,
  ⟨some 39, .bin .add, [.t 38, .c (.val (.int .i64 1))], none⟩,
  ⟨some 40, .addr 1, [.t 2], none⟩,
  ⟨none, .store 1, [.t 40, .t 39], none⟩] [] [] [2, 4] true [] []
noncomputable def c20_33 : ACode := .region false [⟨some 41, .load true 4, [.t 2], none⟩,
  ⟨none, .store 4, [.t 4, .t 41], none⟩,
  ⟨some 5, .move, [.c (.val (.int .i64 0))], none⟩] [] [] [4, 5] true [] []
noncomputable def c20_32 : ACode := .seq c20_33 .ret
noncomputable def c20_30 : ACode := .seq c20_31 c20_32
noncomputable def c20_28 : ACode := .seq c20_29 c20_30
noncomputable def c20_20 : ACode := .seq c20_21 c20_28
noncomputable def c20_14 : ACode := .seq c20_15 c20_20
noncomputable def c20_8 : ACode := .seq c20_9 c20_14
noncomputable def c20_2 : ACode := .seq c20_3 c20_8
noncomputable def c20_0 : ACode := .seq c20_1 c20_2
noncomputable def code20 : Code := (Try.f20.body).getD .skip
theorem c20_ok : compC Try.prog 42 code20 = some (strip c20_0) := by kernel_rfl
theorem res20_ok : Try.f20.results.toList.mapM (resC Try.prog) = some [(4, some (true, 4)), (5, none)] := by kernel_rfl
theorem clonee_any (C : List AV) (off : Nat) (l : List En) (hl : l.length ≤ 1099511627776) (hr : ∀ ρ, renL ρ C = C) (hle : off + l.length * 9 ≤ C.length) (hseg : (C.drop off).take (l.length * 9) = Re 0 l) : ACall Try.prog 45 [.sl 0 off l.length 9 none] [.cells true C] (Det (.sl 1 0 l.length 9 none) [.cells true C, .cells false (Re 0 l)]) := by
  have hr2 := re_ren
  have hno := re_noAny
  by_cases h0 : l.length = 0
  · have hl : l = [] := List.length_eq_zero_iff.1 h0
    subst hl
    simp only [List.length_nil, Nat.zero_mul, Nat.add_zero] at hle
    clear hseg h0
    refine ACall.startA c45_ok Try.func45 rfl Try.ntmps45 (by kernel_rfl) res45_ok rfl rfl rfl ?_; simp (maxSteps := 9999999) (disch := omega) only [go_sem]
    refine AWpA.nilcase 0 rfl ?_ (fun q => ?_) (fun cp => ?_)
    · refine AWpA.dummy ?_
      (repeat' (first | refine AWpA.seq ?_ | refine AWpA.block ?_ | (with_reducible refine CondP.tt ?_) | (with_reducible refine CondP.ff ?_) | refine AWpA.condv (by simp (maxSteps := 9999999) (disch := omega) only [go_sem, hr, hr2]; rfl) ?_ | ((first | (apply AWpA.region; (focus (simp (maxSteps := 9999999) (disch := omega) only [go_sem, hr, hr2]; rfl))) | (apply AWpA.draw [] [] follows; (focus (first | rfl | decide)); (focus (simp (maxSteps := 9999999) (disch := omega) only [go_sem, hr, hr2]; rfl)); (focus (simp (maxSteps := 9999999) (disch := omega) only [go_sem, hr, hr2]; first | done | trivial)); (focus (simp (maxSteps := 9999999) (disch := omega) only [go_sem, hr, hr2]; rfl))) | (apply TailK.go; (focus (simp (maxSteps := 9999999) (disch := omega) only [go_sem, hr, hr2]; rfl))) | refine AWpA.skip ?_ | refine AWpA.exit ?_ | refine AWpA.ret ?_ | (with_reducible refine ARoundsA.succ ?_) | ((first | refine Runs.kt (by assumption) (fun h9 => ?_) | refine Runs.kf (by assumption) (fun h9 => ?_) | refine Runs.nt (by assumption) (fun h9 => ?_) | refine Runs.nf (by assumption) (fun h9 => ?_) | refine CondP.ht (by assumption) (fun h9 => ?_) | refine CondP.hf (by assumption) (fun h9 => ?_) | refine CondP.nt (by assumption) (fun h9 => ?_) | refine CondP.nf (by assumption) (fun h9 => ?_)); (try simp only [h9]); clear h9)); (try simp (maxSteps := 9999999) (disch := omega) only [go_sem, hr, hr2]); (try (refine And.intro ?_ ?_; (focus (first | omega | (simp only [go_sem]; done) | (simp; done) | (simp; omega) | assumption))))) | ((first | refine CondP.split (fun hif => ?_) (fun hif => ?_) | refine Runs.part (fun hif => ?_) (fun hif => ?_)) <;> ((try simp only [hif]); (try simp only [decide_eq_true_eq, decide_eq_false_iff_not, Bool.not_eq_true, Bool.not_eq_false, Bool.not_eq_true', Bool.not_eq_false', beq_iff_eq, bne_iff_ne, bne_eq_false_iff_eq, beq_eq_false_iff_ne, ne_eq, Bool.and_eq_true, Bool.or_eq_true, Bool.or_eq_false_iff] at hif); (try (have h9 : _ = true := hif; simp only [h9])); (try (have h9 : _ = false := hif; simp only [h9])); (try simp (maxSteps := 9999999) (disch := omega) only [go_sem, hr, hr2]); (try (refine And.intro ?_ ?_; (focus (first | omega | (simp only [go_sem]; done) | (simp; done) | (simp; omega) | assumption)))); (try (exfalso; omega; done))))))
      (apply Ret.det [0, 1]; (focus (first | exact .inl rfl | exact .inr rfl)); (focus (simp (maxSteps := 9999999) (disch := omega) only [go_sem, hr, re_nil]; rfl)); (simp (maxSteps := 9999999) (disch := omega) only [go_sem, hr, re_nil]; (try (repeat' (first | done | trivial | rfl | exact leAs_rfl _ | decide | (refine And.intro ?_ ?_) | (simp; done) | omega | (simp; decide))))))
    · (repeat' (first | refine AWpA.seq ?_ | refine AWpA.block ?_ | (with_reducible refine CondP.tt ?_) | (with_reducible refine CondP.ff ?_) | refine AWpA.condv (by simp (maxSteps := 9999999) (disch := omega) only [go_sem, hr, hr2, hle, re_nil]; rfl) ?_ | ((first | (apply AWpA.region; (focus (simp (maxSteps := 9999999) (disch := omega) only [go_sem, hr, hr2, hle, re_nil]; rfl))) | (apply AWpA.draw [] [] follows; (focus (first | rfl | decide)); (focus (simp (maxSteps := 9999999) (disch := omega) only [go_sem, hr, hr2, hle, re_nil]; rfl)); (focus (simp (maxSteps := 9999999) (disch := omega) only [go_sem, hr, hr2, hle, re_nil]; first | done | trivial)); (focus (simp (maxSteps := 9999999) (disch := omega) only [go_sem, hr, hr2, hle, re_nil]; rfl))) | (apply TailK.go; (focus (simp (maxSteps := 9999999) (disch := omega) only [go_sem, hr, hr2, hle, re_nil]; rfl))) | refine AWpA.skip ?_ | refine AWpA.exit ?_ | refine AWpA.ret ?_ | (with_reducible refine ARoundsA.succ ?_) | ((first | refine Runs.kt (by assumption) (fun h9 => ?_) | refine Runs.kf (by assumption) (fun h9 => ?_) | refine Runs.nt (by assumption) (fun h9 => ?_) | refine Runs.nf (by assumption) (fun h9 => ?_) | refine CondP.ht (by assumption) (fun h9 => ?_) | refine CondP.hf (by assumption) (fun h9 => ?_) | refine CondP.nt (by assumption) (fun h9 => ?_) | refine CondP.nf (by assumption) (fun h9 => ?_)); (try simp only [h9]); clear h9)); (try simp (maxSteps := 9999999) (disch := omega) only [go_sem, hr, hr2, hle, re_nil]); (try (refine And.intro ?_ ?_; (focus (first | omega | (simp only [go_sem]; done) | (simp; done) | (simp; omega) | assumption))))) | ((first | refine CondP.split (fun hif => ?_) (fun hif => ?_) | refine Runs.part (fun hif => ?_) (fun hif => ?_)) <;> ((try simp only [hif]); (try simp only [decide_eq_true_eq, decide_eq_false_iff_not, Bool.not_eq_true, Bool.not_eq_false, Bool.not_eq_true', Bool.not_eq_false', beq_iff_eq, bne_iff_ne, bne_eq_false_iff_eq, beq_eq_false_iff_ne, ne_eq, Bool.and_eq_true, Bool.or_eq_true, Bool.or_eq_false_iff] at hif); (try (have h9 : _ = true := hif; simp only [h9])); (try (have h9 : _ = false := hif; simp only [h9])); (try simp (maxSteps := 9999999) (disch := omega) only [go_sem, hr, hr2, hle, re_nil]); (try (refine And.intro ?_ ?_; (focus (first | omega | (simp only [go_sem]; done) | (simp; done) | (simp; omega) | assumption)))); (try (exfalso; omega; done))))))
      (apply Ret.det [0, _]; (focus (first | exact .inl rfl | exact .inr rfl)); (focus (simp (maxSteps := 9999999) (disch := omega) only [go_sem, hr, re_nil]; rfl)); (simp (maxSteps := 9999999) (disch := omega) only [go_sem, hr, re_nil]; (try (repeat' (first | done | trivial | rfl | exact leAs_rfl _ | decide | (refine And.intro ?_ ?_) | (simp; done) | omega | (simp; decide))))))
    · (repeat' (first | refine AWpA.seq ?_ | refine AWpA.block ?_ | (with_reducible refine CondP.tt ?_) | (with_reducible refine CondP.ff ?_) | refine AWpA.condv (by simp (maxSteps := 9999999) (disch := omega) only [go_sem, hr, hr2, hle, re_nil]; rfl) ?_ | ((first | (apply AWpA.region; (focus (simp (maxSteps := 9999999) (disch := omega) only [go_sem, hr, hr2, hle, re_nil]; rfl))) | (apply AWpA.draw [] [] follows; (focus (first | rfl | decide)); (focus (simp (maxSteps := 9999999) (disch := omega) only [go_sem, hr, hr2, hle, re_nil]; rfl)); (focus (simp (maxSteps := 9999999) (disch := omega) only [go_sem, hr, hr2, hle, re_nil]; first | done | trivial)); (focus (simp (maxSteps := 9999999) (disch := omega) only [go_sem, hr, hr2, hle, re_nil]; rfl))) | (apply TailK.go; (focus (simp (maxSteps := 9999999) (disch := omega) only [go_sem, hr, hr2, hle, re_nil]; rfl))) | refine AWpA.skip ?_ | refine AWpA.exit ?_ | refine AWpA.ret ?_ | (with_reducible refine ARoundsA.succ ?_) | ((first | refine Runs.kt (by assumption) (fun h9 => ?_) | refine Runs.kf (by assumption) (fun h9 => ?_) | refine Runs.nt (by assumption) (fun h9 => ?_) | refine Runs.nf (by assumption) (fun h9 => ?_) | refine CondP.ht (by assumption) (fun h9 => ?_) | refine CondP.hf (by assumption) (fun h9 => ?_) | refine CondP.nt (by assumption) (fun h9 => ?_) | refine CondP.nf (by assumption) (fun h9 => ?_)); (try simp only [h9]); clear h9)); (try simp (maxSteps := 9999999) (disch := omega) only [go_sem, hr, hr2, hle, re_nil]); (try (refine And.intro ?_ ?_; (focus (first | omega | (simp only [go_sem]; done) | (simp; done) | (simp; omega) | assumption))))) | ((first | refine CondP.split (fun hif => ?_) (fun hif => ?_) | refine Runs.part (fun hif => ?_) (fun hif => ?_)) <;> ((try simp only [hif]); (try simp only [decide_eq_true_eq, decide_eq_false_iff_not, Bool.not_eq_true, Bool.not_eq_false, Bool.not_eq_true', Bool.not_eq_false', beq_iff_eq, bne_iff_ne, bne_eq_false_iff_eq, beq_eq_false_iff_ne, ne_eq, Bool.and_eq_true, Bool.or_eq_true, Bool.or_eq_false_iff] at hif); (try (have h9 : _ = true := hif; simp only [h9])); (try (have h9 : _ = false := hif; simp only [h9])); (try simp (maxSteps := 9999999) (disch := omega) only [go_sem, hr, hr2, hle, re_nil]); (try (refine And.intro ?_ ?_; (focus (first | omega | (simp only [go_sem]; done) | (simp; done) | (simp; omega) | assumption)))); (try (exfalso; omega; done))))))
      (apply Ret.det [0, _]; (focus (first | exact .inl rfl | exact .inr rfl)); (focus (simp (maxSteps := 9999999) (disch := omega) only [go_sem, hr, re_nil]; rfl)); (simp (maxSteps := 9999999) (disch := omega) only [go_sem, hr, re_nil]; (try (repeat' (first | done | trivial | rfl | exact leAs_rfl _ | decide | (refine And.intro ?_ ?_) | (simp; done) | omega | (simp; decide))))))
  · have h1 : (0 < l.length) = True := by simp; omega
    have h2 : (l.length ≤ 0) = False := eq_false (by omega)
    refine ACall.startA c45_ok Try.func45 rfl Try.ntmps45 (by kernel_rfl) res45_ok rfl rfl rfl ?_; simp (maxSteps := 9999999) (disch := omega) only [go_sem]
    (repeat' (first | refine AWpA.seq ?_ | refine AWpA.block ?_ | (with_reducible refine CondP.tt ?_) | (with_reducible refine CondP.ff ?_) | refine AWpA.condv (by simp (maxSteps := 9999999) (disch := omega) only [go_sem, hr, hr2, hle, hseg, hno, h1, h2]; rfl) ?_ | ((first | (apply AWpA.region; (focus (simp (maxSteps := 9999999) (disch := omega) only [go_sem, hr, hr2, hle, hseg, hno, h1, h2]; rfl))) | (apply AWpA.draw [] [] follows; (focus (first | rfl | decide)); (focus (simp (maxSteps := 9999999) (disch := omega) only [go_sem, hr, hr2, hle, hseg, hno, h1, h2]; rfl)); (focus (simp (maxSteps := 9999999) (disch := omega) only [go_sem, hr, hr2, hle, hseg, hno, h1, h2]; first | done | trivial)); (focus (simp (maxSteps := 9999999) (disch := omega) only [go_sem, hr, hr2, hle, hseg, hno, h1, h2]; rfl))) | (apply TailK.go; (focus (simp (maxSteps := 9999999) (disch := omega) only [go_sem, hr, hr2, hle, hseg, hno, h1, h2]; rfl))) | refine AWpA.skip ?_ | refine AWpA.exit ?_ | refine AWpA.ret ?_ | (with_reducible refine ARoundsA.succ ?_) | ((first | refine Runs.kt (by assumption) (fun h9 => ?_) | refine Runs.kf (by assumption) (fun h9 => ?_) | refine Runs.nt (by assumption) (fun h9 => ?_) | refine Runs.nf (by assumption) (fun h9 => ?_) | refine CondP.ht (by assumption) (fun h9 => ?_) | refine CondP.hf (by assumption) (fun h9 => ?_) | refine CondP.nt (by assumption) (fun h9 => ?_) | refine CondP.nf (by assumption) (fun h9 => ?_)); (try simp only [h9]); clear h9)); (try simp (maxSteps := 9999999) (disch := omega) only [go_sem, hr, hr2, hle, hseg, hno, h1, h2]); (try (refine And.intro ?_ ?_; (focus (first | omega | (simp only [go_sem]; done) | (simp; done) | (simp; omega) | assumption))))) | ((first | refine CondP.split (fun hif => ?_) (fun hif => ?_) | refine Runs.part (fun hif => ?_) (fun hif => ?_)) <;> ((try simp only [hif]); (try simp only [decide_eq_true_eq, decide_eq_false_iff_not, Bool.not_eq_true, Bool.not_eq_false, Bool.not_eq_true', Bool.not_eq_false', beq_iff_eq, bne_iff_ne, bne_eq_false_iff_eq, beq_eq_false_iff_ne, ne_eq, Bool.and_eq_true, Bool.or_eq_true, Bool.or_eq_false_iff] at hif); (try (have h9 : _ = true := hif; simp only [h9])); (try (have h9 : _ = false := hif; simp only [h9])); (try simp (maxSteps := 9999999) (disch := omega) only [go_sem, hr, hr2, hle, hseg, hno, h1, h2]); (try (refine And.intro ?_ ?_; (focus (first | omega | (simp only [go_sem]; done) | (simp; done) | (simp; omega) | assumption)))); (try (exfalso; omega; done))))))
    (apply Ret.det [0, _]; (focus (first | exact .inl rfl | exact .inr rfl)); (focus (simp (maxSteps := 9999999) (disch := omega) only [go_sem, hr, hr2]; rfl)); (simp (maxSteps := 9999999) (disch := omega) only [go_sem, hr, hr2]; (try (repeat' (first | done | trivial | rfl | exact leAs_rfl _ | decide | (refine And.intro ?_ ?_) | (simp; done) | omega | (simp; decide))))))
/-- Do keys rise? -/
def risB : List En → Bool
  | [] => true
  | [_] => true
  | a :: b :: l => ltK a.key b.key && risB (b :: l)
theorem risB_no : ∀ {l : List En} {i : Nat} (h : i + 1 < l.length), ltK l[i].key l[i + 1].key = false → risB l = false
  | [], i, h, _ => by simp at h
  | [_], i, h, _ => by simp at h
  | a :: b :: l, 0, h, hk => by
    simp only [List.getElem_cons_zero, List.getElem_cons_succ, Nat.zero_add] at hk
    simp [risB, hk]
  | a :: b :: l, i + 1, h, hk => by
    have := risB_no (l := b :: l) (i := i) (by simpa using h) (by simpa using hk)
    simp [risB, this]
theorem risB_all : ∀ {l : List En}, (∀ i (h : i + 1 < l.length), ltK l[i].key l[i + 1].key = true) → risB l = true
  | [], _ => rfl
  | [_], _ => rfl
  | a :: b :: l, h => by
    have h0 := h 0 (by simp)
    simp only [List.getElem_cons_zero, List.getElem_cons_succ, Nat.zero_add] at h0
    have := risB_all (l := b :: l) fun i hi => by
      have := h (i + 1) (by simp only [List.length_cons] at hi ⊢; omega)
      simpa using this
    simp [risB, h0, this]
theorem risen_any (l : List En) (hl : l.length ≤ 1099511627776) : ACall Try.prog 44 [.sl 0 0 l.length 9 none] [.cells true (Re 0 l)] (Det (Bo (risB l)) [.cells true (Re 0 l)]) := by
  have hr := re_ren 0 l
  have hL := re_len 0 l
  refine ACall.startA c44_ok Try.func44 rfl Try.ntmps44 (by kernel_rfl) res44_ok rfl rfl rfl ?_; simp (maxSteps := 9999999) (disch := omega) only [go_sem]
  (repeat' (first | refine AWpA.seq ?_ | refine AWpA.block ?_ | (with_reducible refine CondP.tt ?_) | (with_reducible refine CondP.ff ?_) | refine AWpA.condv (by simp (maxSteps := 9999999) (disch := omega) only [go_sem, hr]; rfl) ?_ | ((first | (apply AWpA.region; (focus (simp (maxSteps := 9999999) (disch := omega) only [go_sem, hr]; rfl))) | (apply AWpA.draw [] [] follows; (focus (first | rfl | decide)); (focus (simp (maxSteps := 9999999) (disch := omega) only [go_sem, hr]; rfl)); (focus (simp (maxSteps := 9999999) (disch := omega) only [go_sem, hr]; first | done | trivial)); (focus (simp (maxSteps := 9999999) (disch := omega) only [go_sem, hr]; rfl))) | (apply TailK.go; (focus (simp (maxSteps := 9999999) (disch := omega) only [go_sem, hr]; rfl))) | refine AWpA.skip ?_ | refine AWpA.exit ?_ | refine AWpA.ret ?_ | (with_reducible refine ARoundsA.succ ?_) | ((first | refine Runs.kt (by assumption) (fun h9 => ?_) | refine Runs.kf (by assumption) (fun h9 => ?_) | refine Runs.nt (by assumption) (fun h9 => ?_) | refine Runs.nf (by assumption) (fun h9 => ?_) | refine CondP.ht (by assumption) (fun h9 => ?_) | refine CondP.hf (by assumption) (fun h9 => ?_) | refine CondP.nt (by assumption) (fun h9 => ?_) | refine CondP.nf (by assumption) (fun h9 => ?_)); (try simp only [h9]); clear h9)); (try simp (maxSteps := 9999999) (disch := omega) only [go_sem, hr]); (try (refine And.intro ?_ ?_; (focus (first | omega | (simp only [go_sem]; done) | (simp; done) | (simp; omega) | assumption))))) | ((first | refine CondP.split (fun hif => ?_) (fun hif => ?_) | refine Runs.part (fun hif => ?_) (fun hif => ?_)) <;> ((try simp only [hif]); (try simp only [decide_eq_true_eq, decide_eq_false_iff_not, Bool.not_eq_true, Bool.not_eq_false, Bool.not_eq_true', Bool.not_eq_false', beq_iff_eq, bne_iff_ne, bne_eq_false_iff_eq, beq_eq_false_iff_ne, ne_eq, Bool.and_eq_true, Bool.or_eq_true, Bool.or_eq_false_iff] at hif); (try (have h9 : _ = true := hif; simp only [h9])); (try (have h9 : _ = false := hif; simp only [h9])); (try simp (maxSteps := 9999999) (disch := omega) only [go_sem, hr]); (try (refine And.intro ?_ ?_; (focus (first | omega | (simp only [go_sem]; done) | (simp; done) | (simp; omega) | assumption)))); (try (exfalso; omega; done))))))
  (apply AWpA.loopL (fun i : Nat => [(0, .sl 0 0 l.length 9 none), (3, I i)]) (fun i => [.cells true (Re 0 l)]) (fun i => l.length - i) (fun i => 1 ≤ i ∧ ∀ q (h : q + 1 < l.length), q + 1 < i → ltK l[q].key l[q + 1].key = true) (1) [0]; rotate_left; (focus (simp (maxSteps := 9999999) (disch := omega) only [go_sem, hr]; (try (repeat' (first | done | trivial | rfl | exact leAs_rfl _ | decide | (refine And.intro ?_ ?_) | (simp; done) | omega | (simp; decide)))))); rotate_right)
  · exact ⟨Nat.le_refl _, fun q h hq => by omega⟩
  rintro i ⟨hi, hq⟩
  (try simp only at hi hq)
  by_cases hin : i < l.length
  · have g1 : ((i : Int) < (l.length : Int)) = True := eq_true (by omega)
    obtain ⟨j, rfl⟩ : ∃ j, i = j + 1 := ⟨i - 1, by omega⟩
    have hix : (((j + 1 : Nat) : Int) - 1).toNat = j := by omega
    have hix2 : ((j : Int) + 1 - 1).toNat = j := by omega
    have hix3 : ((j : Int) + 1).toNat = j + 1 := by omega
    have k1 := re_key 0 l j (by omega)
    have k2 := re_key 0 l (j + 1) hin
    have hb : ltK l[j].key l[j + 1].key = false → risB l = false := fun h => risB_no hin h
    have hn : ltK l[j].key l[j + 1].key = true → ∀ q (h : q + 1 < l.length), q + 1 < j + 1 + 1 → ltK l[q].key l[q + 1].key = true := fun h q hl hq' => by
      rcases Nat.lt_or_eq_of_le (show q ≤ j by omega) with h' | rfl
      · exact hq q hl (by omega)
      · exact h
    clear hq
    (try rw [Nat.zero_add] at k1 k2)
    generalize l[j + 1] = y at *
    generalize l[j] = x at *
    cases hlt : ltK x.key y.key with
    | false =>
      rw [hb hlt]
      clear hb hn
      (try simp (maxSteps := 9999999) (disch := omega) only [go_sem])
      (repeat' (first | refine AWpA.seq ?_ | refine AWpA.block ?_ | (with_reducible refine CondP.tt ?_) | (with_reducible refine CondP.ff ?_) | refine AWpA.condv (by simp (maxSteps := 9999999) (disch := omega) only [go_sem, hr, hL, g1, k1, k2, hix, hix2, hix3, hlt]; rfl) ?_ | ((first | (apply AWpA.region; (focus (simp (maxSteps := 9999999) (disch := omega) only [go_sem, hr, hL, g1, k1, k2, hix, hix2, hix3, hlt]; rfl))) | (apply AWpA.draw [] [] follows; (focus (first | rfl | decide)); (focus (simp (maxSteps := 9999999) (disch := omega) only [go_sem, hr, hL, g1, k1, k2, hix, hix2, hix3, hlt]; rfl)); (focus (simp (maxSteps := 9999999) (disch := omega) only [go_sem, hr, hL, g1, k1, k2, hix, hix2, hix3, hlt]; first | done | trivial)); (focus (simp (maxSteps := 9999999) (disch := omega) only [go_sem, hr, hL, g1, k1, k2, hix, hix2, hix3, hlt]; rfl))) | (apply TailK.go; (focus (simp (maxSteps := 9999999) (disch := omega) only [go_sem, hr, hL, g1, k1, k2, hix, hix2, hix3, hlt]; rfl))) | refine AWpA.skip ?_ | refine AWpA.exit ?_ | refine AWpA.ret ?_ | (with_reducible refine ARoundsA.succ ?_) | ((first | refine Runs.kt (by assumption) (fun h9 => ?_) | refine Runs.kf (by assumption) (fun h9 => ?_) | refine Runs.nt (by assumption) (fun h9 => ?_) | refine Runs.nf (by assumption) (fun h9 => ?_) | refine CondP.ht (by assumption) (fun h9 => ?_) | refine CondP.hf (by assumption) (fun h9 => ?_) | refine CondP.nt (by assumption) (fun h9 => ?_) | refine CondP.nf (by assumption) (fun h9 => ?_)); (try simp only [h9]); clear h9)); (try simp (maxSteps := 9999999) (disch := omega) only [go_sem, hr, hL, g1, k1, k2, hix, hix2, hix3, hlt]); (try (refine And.intro ?_ ?_; (focus (first | omega | (simp only [go_sem]; done) | (simp; done) | (simp; omega) | assumption))))) | ((first | refine CondP.split (fun hif => ?_) (fun hif => ?_) | refine Runs.part (fun hif => ?_) (fun hif => ?_)) <;> ((try simp only [hif]); (try simp only [decide_eq_true_eq, decide_eq_false_iff_not, Bool.not_eq_true, Bool.not_eq_false, Bool.not_eq_true', Bool.not_eq_false', beq_iff_eq, bne_iff_ne, bne_eq_false_iff_eq, beq_eq_false_iff_ne, ne_eq, Bool.and_eq_true, Bool.or_eq_true, Bool.or_eq_false_iff] at hif); (try (have h9 : _ = true := hif; simp only [h9])); (try (have h9 : _ = false := hif; simp only [h9])); (try simp (maxSteps := 9999999) (disch := omega) only [go_sem, hr, hL, g1, k1, k2, hix, hix2, hix3, hlt]); (try (refine And.intro ?_ ?_; (focus (first | omega | (simp only [go_sem]; done) | (simp; done) | (simp; omega) | assumption)))); (try (exfalso; omega; done))))))
      (apply Ret.det [0]; (focus (first | exact .inl rfl | exact .inr rfl)); (focus (simp (maxSteps := 9999999) (disch := omega) only [go_sem, hr]; rfl)); (simp (maxSteps := 9999999) (disch := omega) only [go_sem, hr]; (try (repeat' (first | done | trivial | rfl | exact leAs_rfl _ | decide | (refine And.intro ?_ ?_) | (simp; done) | omega | (simp; decide))))))
    | true =>
      have hn := hn hlt
      clear hb
      (try simp (maxSteps := 9999999) (disch := omega) only [go_sem])
      (repeat' (first | refine AWpA.seq ?_ | refine AWpA.block ?_ | (with_reducible refine CondP.tt ?_) | (with_reducible refine CondP.ff ?_) | refine AWpA.condv (by simp (maxSteps := 9999999) (disch := omega) only [go_sem, hr, hL, g1, k1, k2, hix, hix2, hix3, hlt]; rfl) ?_ | ((first | (apply AWpA.region; (focus (simp (maxSteps := 9999999) (disch := omega) only [go_sem, hr, hL, g1, k1, k2, hix, hix2, hix3, hlt]; rfl))) | (apply AWpA.draw [] [] follows; (focus (first | rfl | decide)); (focus (simp (maxSteps := 9999999) (disch := omega) only [go_sem, hr, hL, g1, k1, k2, hix, hix2, hix3, hlt]; rfl)); (focus (simp (maxSteps := 9999999) (disch := omega) only [go_sem, hr, hL, g1, k1, k2, hix, hix2, hix3, hlt]; first | done | trivial)); (focus (simp (maxSteps := 9999999) (disch := omega) only [go_sem, hr, hL, g1, k1, k2, hix, hix2, hix3, hlt]; rfl))) | (apply TailK.go; (focus (simp (maxSteps := 9999999) (disch := omega) only [go_sem, hr, hL, g1, k1, k2, hix, hix2, hix3, hlt]; rfl))) | refine AWpA.skip ?_ | refine AWpA.exit ?_ | refine AWpA.ret ?_ | (with_reducible refine ARoundsA.succ ?_) | ((first | refine Runs.kt (by assumption) (fun h9 => ?_) | refine Runs.kf (by assumption) (fun h9 => ?_) | refine Runs.nt (by assumption) (fun h9 => ?_) | refine Runs.nf (by assumption) (fun h9 => ?_) | refine CondP.ht (by assumption) (fun h9 => ?_) | refine CondP.hf (by assumption) (fun h9 => ?_) | refine CondP.nt (by assumption) (fun h9 => ?_) | refine CondP.nf (by assumption) (fun h9 => ?_)); (try simp only [h9]); clear h9)); (try simp (maxSteps := 9999999) (disch := omega) only [go_sem, hr, hL, g1, k1, k2, hix, hix2, hix3, hlt]); (try (refine And.intro ?_ ?_; (focus (first | omega | (simp only [go_sem]; done) | (simp; done) | (simp; omega) | assumption))))) | ((first | refine CondP.split (fun hif => ?_) (fun hif => ?_) | refine Runs.part (fun hif => ?_) (fun hif => ?_)) <;> ((try simp only [hif]); (try simp only [decide_eq_true_eq, decide_eq_false_iff_not, Bool.not_eq_true, Bool.not_eq_false, Bool.not_eq_true', Bool.not_eq_false', beq_iff_eq, bne_iff_ne, bne_eq_false_iff_eq, beq_eq_false_iff_ne, ne_eq, Bool.and_eq_true, Bool.or_eq_true, Bool.or_eq_false_iff] at hif); (try (have h9 : _ = true := hif; simp only [h9])); (try (have h9 : _ = false := hif; simp only [h9])); (try simp (maxSteps := 9999999) (disch := omega) only [go_sem, hr, hL, g1, k1, k2, hix, hix2, hix3, hlt]); (try (refine And.intro ?_ ?_; (focus (first | omega | (simp only [go_sem]; done) | (simp; done) | (simp; omega) | assumption)))); (try (exfalso; omega; done))))))
      (apply Back.to (j + 1 + 1) [0]; (focus ((try simp (maxSteps := 9999999) (disch := omega) only [go_sem, hr]); first | done | omega)); rotate_left; (focus (simp (maxSteps := 9999999) (disch := omega) only [go_sem, hr]; (try (repeat' (first | done | trivial | rfl | exact leAs_rfl _ | decide | (refine And.intro ?_ ?_) | (simp; done) | omega | (simp; decide)))))))
      exact ⟨by omega, hn⟩
  · have g1 : ((i : Int) < (l.length : Int)) = False := eq_false (by omega)
    have hall : risB l = true := risB_all fun q h => hq q h (by omega)
    rw [hall]
    clear hq
    (try simp (maxSteps := 9999999) (disch := omega) only [go_sem])
    (repeat' (first | refine AWpA.seq ?_ | refine AWpA.block ?_ | (with_reducible refine CondP.tt ?_) | (with_reducible refine CondP.ff ?_) | refine AWpA.condv (by simp (maxSteps := 9999999) (disch := omega) only [go_sem, hr, g1]; rfl) ?_ | ((first | (apply AWpA.region; (focus (simp (maxSteps := 9999999) (disch := omega) only [go_sem, hr, g1]; rfl))) | (apply AWpA.draw [] [] follows; (focus (first | rfl | decide)); (focus (simp (maxSteps := 9999999) (disch := omega) only [go_sem, hr, g1]; rfl)); (focus (simp (maxSteps := 9999999) (disch := omega) only [go_sem, hr, g1]; first | done | trivial)); (focus (simp (maxSteps := 9999999) (disch := omega) only [go_sem, hr, g1]; rfl))) | (apply TailK.go; (focus (simp (maxSteps := 9999999) (disch := omega) only [go_sem, hr, g1]; rfl))) | refine AWpA.skip ?_ | refine AWpA.exit ?_ | refine AWpA.ret ?_ | (with_reducible refine ARoundsA.succ ?_) | ((first | refine Runs.kt (by assumption) (fun h9 => ?_) | refine Runs.kf (by assumption) (fun h9 => ?_) | refine Runs.nt (by assumption) (fun h9 => ?_) | refine Runs.nf (by assumption) (fun h9 => ?_) | refine CondP.ht (by assumption) (fun h9 => ?_) | refine CondP.hf (by assumption) (fun h9 => ?_) | refine CondP.nt (by assumption) (fun h9 => ?_) | refine CondP.nf (by assumption) (fun h9 => ?_)); (try simp only [h9]); clear h9)); (try simp (maxSteps := 9999999) (disch := omega) only [go_sem, hr, g1]); (try (refine And.intro ?_ ?_; (focus (first | omega | (simp only [go_sem]; done) | (simp; done) | (simp; omega) | assumption))))) | ((first | refine CondP.split (fun hif => ?_) (fun hif => ?_) | refine Runs.part (fun hif => ?_) (fun hif => ?_)) <;> ((try simp only [hif]); (try simp only [decide_eq_true_eq, decide_eq_false_iff_not, Bool.not_eq_true, Bool.not_eq_false, Bool.not_eq_true', Bool.not_eq_false', beq_iff_eq, bne_iff_ne, bne_eq_false_iff_eq, beq_eq_false_iff_ne, ne_eq, Bool.and_eq_true, Bool.or_eq_true, Bool.or_eq_false_iff] at hif); (try (have h9 : _ = true := hif; simp only [h9])); (try (have h9 : _ = false := hif; simp only [h9])); (try simp (maxSteps := 9999999) (disch := omega) only [go_sem, hr, g1]); (try (refine And.intro ?_ ?_; (focus (first | omega | (simp only [go_sem]; done) | (simp; done) | (simp; omega) | assumption)))); (try (exfalso; omega; done))))))
    (apply Ret.det [0]; (focus (first | exact .inl rfl | exact .inr rfl)); (focus (simp (maxSteps := 9999999) (disch := omega) only [go_sem, hr]; rfl)); (simp (maxSteps := 9999999) (disch := omega) only [go_sem, hr]; (try (repeat' (first | done | trivial | rfl | exact leAs_rfl _ | decide | (refine And.intro ?_ ?_) | (simp; done) | omega | (simp; decide))))))
theorem rrisen_any (o : Nat) (l : List En) (hl : l.length ≤ 1099511627776) : ACall Try.prog 43 [.sl 0 o l.length 9 none] [.cells true (Re o l)] (Det (Bo (risB l)) [.cells true (Re o l)]) := by
  have hr := re_ren o l
  have hL := re_len o l
  refine ACall.startA c43_ok Try.func43 rfl Try.ntmps43 (by kernel_rfl) res43_ok rfl rfl rfl ?_; simp (maxSteps := 9999999) (disch := omega) only [go_sem]
  (repeat' (first | refine AWpA.seq ?_ | refine AWpA.block ?_ | (with_reducible refine CondP.tt ?_) | (with_reducible refine CondP.ff ?_) | refine AWpA.condv (by simp (maxSteps := 9999999) (disch := omega) only [go_sem, hr]; rfl) ?_ | ((first | (apply AWpA.region; (focus (simp (maxSteps := 9999999) (disch := omega) only [go_sem, hr]; rfl))) | (apply AWpA.draw [] [] follows; (focus (first | rfl | decide)); (focus (simp (maxSteps := 9999999) (disch := omega) only [go_sem, hr]; rfl)); (focus (simp (maxSteps := 9999999) (disch := omega) only [go_sem, hr]; first | done | trivial)); (focus (simp (maxSteps := 9999999) (disch := omega) only [go_sem, hr]; rfl))) | (apply TailK.go; (focus (simp (maxSteps := 9999999) (disch := omega) only [go_sem, hr]; rfl))) | refine AWpA.skip ?_ | refine AWpA.exit ?_ | refine AWpA.ret ?_ | (with_reducible refine ARoundsA.succ ?_) | ((first | refine Runs.kt (by assumption) (fun h9 => ?_) | refine Runs.kf (by assumption) (fun h9 => ?_) | refine Runs.nt (by assumption) (fun h9 => ?_) | refine Runs.nf (by assumption) (fun h9 => ?_) | refine CondP.ht (by assumption) (fun h9 => ?_) | refine CondP.hf (by assumption) (fun h9 => ?_) | refine CondP.nt (by assumption) (fun h9 => ?_) | refine CondP.nf (by assumption) (fun h9 => ?_)); (try simp only [h9]); clear h9)); (try simp (maxSteps := 9999999) (disch := omega) only [go_sem, hr]); (try (refine And.intro ?_ ?_; (focus (first | omega | (simp only [go_sem]; done) | (simp; done) | (simp; omega) | assumption))))) | ((first | refine CondP.split (fun hif => ?_) (fun hif => ?_) | refine Runs.part (fun hif => ?_) (fun hif => ?_)) <;> ((try simp only [hif]); (try simp only [decide_eq_true_eq, decide_eq_false_iff_not, Bool.not_eq_true, Bool.not_eq_false, Bool.not_eq_true', Bool.not_eq_false', beq_iff_eq, bne_iff_ne, bne_eq_false_iff_eq, beq_eq_false_iff_ne, ne_eq, Bool.and_eq_true, Bool.or_eq_true, Bool.or_eq_false_iff] at hif); (try (have h9 : _ = true := hif; simp only [h9])); (try (have h9 : _ = false := hif; simp only [h9])); (try simp (maxSteps := 9999999) (disch := omega) only [go_sem, hr]); (try (refine And.intro ?_ ?_; (focus (first | omega | (simp only [go_sem]; done) | (simp; done) | (simp; omega) | assumption)))); (try (exfalso; omega; done))))))
  (apply AWpA.loopL (fun i : Nat => [(0, .sl 0 o l.length 9 none), (3, I i)]) (fun i => [.cells true (Re o l)]) (fun i => l.length - i) (fun i => 1 ≤ i ∧ ∀ q (h : q + 1 < l.length), q + 1 < i → ltK l[q].key l[q + 1].key = true) (1) [0]; rotate_left; (focus (simp (maxSteps := 9999999) (disch := omega) only [go_sem, hr]; (try (repeat' (first | done | trivial | rfl | exact leAs_rfl _ | decide | (refine And.intro ?_ ?_) | (simp; done) | omega | (simp; decide)))))); rotate_right)
  · exact ⟨Nat.le_refl _, fun q h hq => by omega⟩
  rintro i ⟨hi, hq⟩
  (try simp only at hi hq)
  by_cases hin : i < l.length
  · have g1 : ((i : Int) < (l.length : Int)) = True := eq_true (by omega)
    obtain ⟨j, rfl⟩ : ∃ j, i = j + 1 := ⟨i - 1, by omega⟩
    have hix : (((j + 1 : Nat) : Int) - 1).toNat = j := by omega
    have hix2 : ((j : Int) + 1 - 1).toNat = j := by omega
    have hix3 : ((j : Int) + 1).toNat = j + 1 := by omega
    have k1 := re_key o l j (by omega)
    have k2 := re_key o l (j + 1) hin
    have hb : ltK l[j].key l[j + 1].key = false → risB l = false := fun h => risB_no hin h
    have hn : ltK l[j].key l[j + 1].key = true → ∀ q (h : q + 1 < l.length), q + 1 < j + 1 + 1 → ltK l[q].key l[q + 1].key = true := fun h q hl hq' => by
      rcases Nat.lt_or_eq_of_le (show q ≤ j by omega) with h' | rfl
      · exact hq q hl (by omega)
      · exact h
    clear hq
    (try rw [Nat.zero_add] at k1 k2)
    generalize l[j + 1] = y at *
    generalize l[j] = x at *
    cases hlt : ltK x.key y.key with
    | false =>
      rw [hb hlt]
      clear hb hn
      (try simp (maxSteps := 9999999) (disch := omega) only [go_sem])
      (repeat' (first | refine AWpA.seq ?_ | refine AWpA.block ?_ | (with_reducible refine CondP.tt ?_) | (with_reducible refine CondP.ff ?_) | refine AWpA.condv (by simp (maxSteps := 9999999) (disch := omega) only [go_sem, hr, hL, g1, k1, k2, hix, hix2, hix3, hlt]; rfl) ?_ | ((first | (apply AWpA.region; (focus (simp (maxSteps := 9999999) (disch := omega) only [go_sem, hr, hL, g1, k1, k2, hix, hix2, hix3, hlt]; rfl))) | (apply AWpA.draw [] [] follows; (focus (first | rfl | decide)); (focus (simp (maxSteps := 9999999) (disch := omega) only [go_sem, hr, hL, g1, k1, k2, hix, hix2, hix3, hlt]; rfl)); (focus (simp (maxSteps := 9999999) (disch := omega) only [go_sem, hr, hL, g1, k1, k2, hix, hix2, hix3, hlt]; first | done | trivial)); (focus (simp (maxSteps := 9999999) (disch := omega) only [go_sem, hr, hL, g1, k1, k2, hix, hix2, hix3, hlt]; rfl))) | (apply TailK.go; (focus (simp (maxSteps := 9999999) (disch := omega) only [go_sem, hr, hL, g1, k1, k2, hix, hix2, hix3, hlt]; rfl))) | refine AWpA.skip ?_ | refine AWpA.exit ?_ | refine AWpA.ret ?_ | (with_reducible refine ARoundsA.succ ?_) | ((first | refine Runs.kt (by assumption) (fun h9 => ?_) | refine Runs.kf (by assumption) (fun h9 => ?_) | refine Runs.nt (by assumption) (fun h9 => ?_) | refine Runs.nf (by assumption) (fun h9 => ?_) | refine CondP.ht (by assumption) (fun h9 => ?_) | refine CondP.hf (by assumption) (fun h9 => ?_) | refine CondP.nt (by assumption) (fun h9 => ?_) | refine CondP.nf (by assumption) (fun h9 => ?_)); (try simp only [h9]); clear h9)); (try simp (maxSteps := 9999999) (disch := omega) only [go_sem, hr, hL, g1, k1, k2, hix, hix2, hix3, hlt]); (try (refine And.intro ?_ ?_; (focus (first | omega | (simp only [go_sem]; done) | (simp; done) | (simp; omega) | assumption))))) | ((first | refine CondP.split (fun hif => ?_) (fun hif => ?_) | refine Runs.part (fun hif => ?_) (fun hif => ?_)) <;> ((try simp only [hif]); (try simp only [decide_eq_true_eq, decide_eq_false_iff_not, Bool.not_eq_true, Bool.not_eq_false, Bool.not_eq_true', Bool.not_eq_false', beq_iff_eq, bne_iff_ne, bne_eq_false_iff_eq, beq_eq_false_iff_ne, ne_eq, Bool.and_eq_true, Bool.or_eq_true, Bool.or_eq_false_iff] at hif); (try (have h9 : _ = true := hif; simp only [h9])); (try (have h9 : _ = false := hif; simp only [h9])); (try simp (maxSteps := 9999999) (disch := omega) only [go_sem, hr, hL, g1, k1, k2, hix, hix2, hix3, hlt]); (try (refine And.intro ?_ ?_; (focus (first | omega | (simp only [go_sem]; done) | (simp; done) | (simp; omega) | assumption)))); (try (exfalso; omega; done))))))
      (apply Ret.det [0]; (focus (first | exact .inl rfl | exact .inr rfl)); (focus (simp (maxSteps := 9999999) (disch := omega) only [go_sem, hr]; rfl)); (simp (maxSteps := 9999999) (disch := omega) only [go_sem, hr]; (try (repeat' (first | done | trivial | rfl | exact leAs_rfl _ | decide | (refine And.intro ?_ ?_) | (simp; done) | omega | (simp; decide))))))
    | true =>
      have hn := hn hlt
      clear hb
      (try simp (maxSteps := 9999999) (disch := omega) only [go_sem])
      (repeat' (first | refine AWpA.seq ?_ | refine AWpA.block ?_ | (with_reducible refine CondP.tt ?_) | (with_reducible refine CondP.ff ?_) | refine AWpA.condv (by simp (maxSteps := 9999999) (disch := omega) only [go_sem, hr, hL, g1, k1, k2, hix, hix2, hix3, hlt]; rfl) ?_ | ((first | (apply AWpA.region; (focus (simp (maxSteps := 9999999) (disch := omega) only [go_sem, hr, hL, g1, k1, k2, hix, hix2, hix3, hlt]; rfl))) | (apply AWpA.draw [] [] follows; (focus (first | rfl | decide)); (focus (simp (maxSteps := 9999999) (disch := omega) only [go_sem, hr, hL, g1, k1, k2, hix, hix2, hix3, hlt]; rfl)); (focus (simp (maxSteps := 9999999) (disch := omega) only [go_sem, hr, hL, g1, k1, k2, hix, hix2, hix3, hlt]; first | done | trivial)); (focus (simp (maxSteps := 9999999) (disch := omega) only [go_sem, hr, hL, g1, k1, k2, hix, hix2, hix3, hlt]; rfl))) | (apply TailK.go; (focus (simp (maxSteps := 9999999) (disch := omega) only [go_sem, hr, hL, g1, k1, k2, hix, hix2, hix3, hlt]; rfl))) | refine AWpA.skip ?_ | refine AWpA.exit ?_ | refine AWpA.ret ?_ | (with_reducible refine ARoundsA.succ ?_) | ((first | refine Runs.kt (by assumption) (fun h9 => ?_) | refine Runs.kf (by assumption) (fun h9 => ?_) | refine Runs.nt (by assumption) (fun h9 => ?_) | refine Runs.nf (by assumption) (fun h9 => ?_) | refine CondP.ht (by assumption) (fun h9 => ?_) | refine CondP.hf (by assumption) (fun h9 => ?_) | refine CondP.nt (by assumption) (fun h9 => ?_) | refine CondP.nf (by assumption) (fun h9 => ?_)); (try simp only [h9]); clear h9)); (try simp (maxSteps := 9999999) (disch := omega) only [go_sem, hr, hL, g1, k1, k2, hix, hix2, hix3, hlt]); (try (refine And.intro ?_ ?_; (focus (first | omega | (simp only [go_sem]; done) | (simp; done) | (simp; omega) | assumption))))) | ((first | refine CondP.split (fun hif => ?_) (fun hif => ?_) | refine Runs.part (fun hif => ?_) (fun hif => ?_)) <;> ((try simp only [hif]); (try simp only [decide_eq_true_eq, decide_eq_false_iff_not, Bool.not_eq_true, Bool.not_eq_false, Bool.not_eq_true', Bool.not_eq_false', beq_iff_eq, bne_iff_ne, bne_eq_false_iff_eq, beq_eq_false_iff_ne, ne_eq, Bool.and_eq_true, Bool.or_eq_true, Bool.or_eq_false_iff] at hif); (try (have h9 : _ = true := hif; simp only [h9])); (try (have h9 : _ = false := hif; simp only [h9])); (try simp (maxSteps := 9999999) (disch := omega) only [go_sem, hr, hL, g1, k1, k2, hix, hix2, hix3, hlt]); (try (refine And.intro ?_ ?_; (focus (first | omega | (simp only [go_sem]; done) | (simp; done) | (simp; omega) | assumption)))); (try (exfalso; omega; done))))))
      (apply Back.to (j + 1 + 1) [0]; (focus ((try simp (maxSteps := 9999999) (disch := omega) only [go_sem, hr]); first | done | omega)); rotate_left; (focus (simp (maxSteps := 9999999) (disch := omega) only [go_sem, hr]; (try (repeat' (first | done | trivial | rfl | exact leAs_rfl _ | decide | (refine And.intro ?_ ?_) | (simp; done) | omega | (simp; decide)))))))
      exact ⟨by omega, hn⟩
  · have g1 : ((i : Int) < (l.length : Int)) = False := eq_false (by omega)
    have hall : risB l = true := risB_all fun q h => hq q h (by omega)
    rw [hall]
    clear hq
    (try simp (maxSteps := 9999999) (disch := omega) only [go_sem])
    (repeat' (first | refine AWpA.seq ?_ | refine AWpA.block ?_ | (with_reducible refine CondP.tt ?_) | (with_reducible refine CondP.ff ?_) | refine AWpA.condv (by simp (maxSteps := 9999999) (disch := omega) only [go_sem, hr, g1]; rfl) ?_ | ((first | (apply AWpA.region; (focus (simp (maxSteps := 9999999) (disch := omega) only [go_sem, hr, g1]; rfl))) | (apply AWpA.draw [] [] follows; (focus (first | rfl | decide)); (focus (simp (maxSteps := 9999999) (disch := omega) only [go_sem, hr, g1]; rfl)); (focus (simp (maxSteps := 9999999) (disch := omega) only [go_sem, hr, g1]; first | done | trivial)); (focus (simp (maxSteps := 9999999) (disch := omega) only [go_sem, hr, g1]; rfl))) | (apply TailK.go; (focus (simp (maxSteps := 9999999) (disch := omega) only [go_sem, hr, g1]; rfl))) | refine AWpA.skip ?_ | refine AWpA.exit ?_ | refine AWpA.ret ?_ | (with_reducible refine ARoundsA.succ ?_) | ((first | refine Runs.kt (by assumption) (fun h9 => ?_) | refine Runs.kf (by assumption) (fun h9 => ?_) | refine Runs.nt (by assumption) (fun h9 => ?_) | refine Runs.nf (by assumption) (fun h9 => ?_) | refine CondP.ht (by assumption) (fun h9 => ?_) | refine CondP.hf (by assumption) (fun h9 => ?_) | refine CondP.nt (by assumption) (fun h9 => ?_) | refine CondP.nf (by assumption) (fun h9 => ?_)); (try simp only [h9]); clear h9)); (try simp (maxSteps := 9999999) (disch := omega) only [go_sem, hr, g1]); (try (refine And.intro ?_ ?_; (focus (first | omega | (simp only [go_sem]; done) | (simp; done) | (simp; omega) | assumption))))) | ((first | refine CondP.split (fun hif => ?_) (fun hif => ?_) | refine Runs.part (fun hif => ?_) (fun hif => ?_)) <;> ((try simp only [hif]); (try simp only [decide_eq_true_eq, decide_eq_false_iff_not, Bool.not_eq_true, Bool.not_eq_false, Bool.not_eq_true', Bool.not_eq_false', beq_iff_eq, bne_iff_ne, bne_eq_false_iff_eq, beq_eq_false_iff_ne, ne_eq, Bool.and_eq_true, Bool.or_eq_true, Bool.or_eq_false_iff] at hif); (try (have h9 : _ = true := hif; simp only [h9])); (try (have h9 : _ = false := hif; simp only [h9])); (try simp (maxSteps := 9999999) (disch := omega) only [go_sem, hr, g1]); (try (refine And.intro ?_ ?_; (focus (first | omega | (simp only [go_sem]; done) | (simp; done) | (simp; omega) | assumption)))); (try (exfalso; omega; done))))))
    (apply Ret.det [0]; (focus (first | exact .inl rfl | exact .inr rfl)); (focus (simp (maxSteps := 9999999) (disch := omega) only [go_sem, hr]; rfl)); (simp (maxSteps := 9999999) (disch := omega) only [go_sem, hr]; (try (repeat' (first | done | trivial | rfl | exact leAs_rfl _ | decide | (refine And.intro ?_ ?_) | (simp; done) | omega | (simp; decide))))))
abbrev WO (i j : Nat) (site seen : Int) (ups : List Up) (last : List En) : AObj := .cells false [I site, I seen, .sl i 0 ups.length 10 none, .sl j 0 last.length 9 none]
abbrev WR (i j : Nat) (site seen : Int) (ups : List Up) (last : List En) : AObj := .cells true [I site, I seen, .sl i 0 ups.length 10 none, .sl j 0 last.length 9 none]
theorem wnew_any (site : Int) : ACall Try.prog 17 [I site] [] (Det (.ptr 0 0) [.cells false [I site, I 0, .val (.slice none 0 0), .val (.slice none 0 0)]]) := by
  refine ACall.startA c17_ok Try.func17 rfl Try.ntmps17 (by kernel_rfl) res17_ok rfl rfl rfl ?_; simp (maxSteps := 9999999) (disch := omega) only [go_sem]
  (repeat' (first | refine AWpA.seq ?_ | refine AWpA.block ?_ | (with_reducible refine CondP.tt ?_) | (with_reducible refine CondP.ff ?_) | refine AWpA.condv (by simp (maxSteps := 9999999) (disch := omega) only [go_sem]; rfl) ?_ | ((first | (apply AWpA.region; (focus (simp (maxSteps := 9999999) (disch := omega) only [go_sem]; rfl))) | (apply AWpA.draw [] [] follows; (focus (first | rfl | decide)); (focus (simp (maxSteps := 9999999) (disch := omega) only [go_sem]; rfl)); (focus (simp (maxSteps := 9999999) (disch := omega) only [go_sem]; first | done | trivial)); (focus (simp (maxSteps := 9999999) (disch := omega) only [go_sem]; rfl))) | (apply TailK.go; (focus (simp (maxSteps := 9999999) (disch := omega) only [go_sem]; rfl))) | refine AWpA.skip ?_ | refine AWpA.exit ?_ | refine AWpA.ret ?_ | (with_reducible refine ARoundsA.succ ?_) | ((first | refine Runs.kt (by assumption) (fun h9 => ?_) | refine Runs.kf (by assumption) (fun h9 => ?_) | refine Runs.nt (by assumption) (fun h9 => ?_) | refine Runs.nf (by assumption) (fun h9 => ?_) | refine CondP.ht (by assumption) (fun h9 => ?_) | refine CondP.hf (by assumption) (fun h9 => ?_) | refine CondP.nt (by assumption) (fun h9 => ?_) | refine CondP.nf (by assumption) (fun h9 => ?_)); (try simp only [h9]); clear h9)); (try simp (maxSteps := 9999999) (disch := omega) only [go_sem]); (try (refine And.intro ?_ ?_; (focus (first | omega | (simp only [go_sem]; done) | (simp; done) | (simp; omega) | assumption))))) | ((first | refine CondP.split (fun hif => ?_) (fun hif => ?_) | refine Runs.part (fun hif => ?_) (fun hif => ?_)) <;> ((try simp only [hif]); (try simp only [decide_eq_true_eq, decide_eq_false_iff_not, Bool.not_eq_true, Bool.not_eq_false, Bool.not_eq_true', Bool.not_eq_false', beq_iff_eq, bne_iff_ne, bne_eq_false_iff_eq, beq_eq_false_iff_ne, ne_eq, Bool.and_eq_true, Bool.or_eq_true, Bool.or_eq_false_iff] at hif); (try (have h9 : _ = true := hif; simp only [h9])); (try (have h9 : _ = false := hif; simp only [h9])); (try simp (maxSteps := 9999999) (disch := omega) only [go_sem]); (try (refine And.intro ?_ ?_; (focus (first | omega | (simp only [go_sem]; done) | (simp; done) | (simp; omega) | assumption)))); (try (exfalso; omega; done))))))
  (apply Ret.det [_]; (focus (first | exact .inl rfl | exact .inr rfl)); (focus (simp (maxSteps := 9999999) (disch := omega) only [go_sem]; rfl)); (simp (maxSteps := 9999999) (disch := omega) only [go_sem]; (try (repeat' (first | done | trivial | rfl | exact leAs_rfl _ | decide | (refine And.intro ?_ ?_) | (simp; done) | omega | (simp; decide))))))
theorem seen_any (site seen : Int) (ups : List Up) (last : List En) : ACall Try.prog 22 [.ptr 0 0] [WR 1 2 site seen ups last, .cells true (Ru 0 ups), .cells true (Re 0 last)] (Det (I seen) [WR 1 2 site seen ups last, .cells true (Ru 0 ups), .cells true (Re 0 last)]) := by
  have hr := re_ren 0
  have hu := ru_ren 0
  refine ACall.startA c22_ok Try.func22 rfl Try.ntmps22 (by kernel_rfl) res22_ok rfl rfl rfl ?_; simp (maxSteps := 9999999) (disch := omega) only [go_sem]
  (repeat' (first | refine AWpA.seq ?_ | refine AWpA.block ?_ | (with_reducible refine CondP.tt ?_) | (with_reducible refine CondP.ff ?_) | refine AWpA.condv (by simp (maxSteps := 9999999) (disch := omega) only [go_sem, hr, hu]; rfl) ?_ | ((first | (apply AWpA.region; (focus (simp (maxSteps := 9999999) (disch := omega) only [go_sem, hr, hu]; rfl))) | (apply AWpA.draw [] [] follows; (focus (first | rfl | decide)); (focus (simp (maxSteps := 9999999) (disch := omega) only [go_sem, hr, hu]; rfl)); (focus (simp (maxSteps := 9999999) (disch := omega) only [go_sem, hr, hu]; first | done | trivial)); (focus (simp (maxSteps := 9999999) (disch := omega) only [go_sem, hr, hu]; rfl))) | (apply TailK.go; (focus (simp (maxSteps := 9999999) (disch := omega) only [go_sem, hr, hu]; rfl))) | refine AWpA.skip ?_ | refine AWpA.exit ?_ | refine AWpA.ret ?_ | (with_reducible refine ARoundsA.succ ?_) | ((first | refine Runs.kt (by assumption) (fun h9 => ?_) | refine Runs.kf (by assumption) (fun h9 => ?_) | refine Runs.nt (by assumption) (fun h9 => ?_) | refine Runs.nf (by assumption) (fun h9 => ?_) | refine CondP.ht (by assumption) (fun h9 => ?_) | refine CondP.hf (by assumption) (fun h9 => ?_) | refine CondP.nt (by assumption) (fun h9 => ?_) | refine CondP.nf (by assumption) (fun h9 => ?_)); (try simp only [h9]); clear h9)); (try simp (maxSteps := 9999999) (disch := omega) only [go_sem, hr, hu]); (try (refine And.intro ?_ ?_; (focus (first | omega | (simp only [go_sem]; done) | (simp; done) | (simp; omega) | assumption))))) | ((first | refine CondP.split (fun hif => ?_) (fun hif => ?_) | refine Runs.part (fun hif => ?_) (fun hif => ?_)) <;> ((try simp only [hif]); (try simp only [decide_eq_true_eq, decide_eq_false_iff_not, Bool.not_eq_true, Bool.not_eq_false, Bool.not_eq_true', Bool.not_eq_false', beq_iff_eq, bne_iff_ne, bne_eq_false_iff_eq, beq_eq_false_iff_ne, ne_eq, Bool.and_eq_true, Bool.or_eq_true, Bool.or_eq_false_iff] at hif); (try (have h9 : _ = true := hif; simp only [h9])); (try (have h9 : _ = false := hif; simp only [h9])); (try simp (maxSteps := 9999999) (disch := omega) only [go_sem, hr, hu]); (try (refine And.intro ?_ ?_; (focus (first | omega | (simp only [go_sem]; done) | (simp; done) | (simp; omega) | assumption)))); (try (exfalso; omega; done))))))
  (apply Ret.det [0, 1, 2]; (focus (first | exact .inl rfl | exact .inr rfl)); (focus (simp (maxSteps := 9999999) (disch := omega) only [go_sem, hr, hu]; rfl)); (simp (maxSteps := 9999999) (disch := omega) only [go_sem, hr, hu]; (try (repeat' (first | done | trivial | rfl | exact leAs_rfl _ | decide | (refine And.intro ?_ ?_) | (simp; done) | omega | (simp; decide))))))
theorem wrote_any (site seen : Int) (ups : List Up) (last : List En) (u : Up) (hl : ups.length ≤ 1099511627776) : ACall Try.prog 18 [.ptr 0 0, UpA u] [WO 1 2 site seen ups last, .cells false (Ru 0 ups), .cells false (Re 0 last)] (Det (.tup []) [WO 3 2 site seen (ups ++ [u]) last, .gone, .cells false (Re 0 last), .cells false (Ru 0 (ups ++ [u]))]) := by
  have hr := re_ren 0
  have hu := ru_ren 0
  have hL := ru_len 0 ups
  have hfu := ru_all ups (n := ups.length * 10) rfl
  have hp := ru_app ups [u]
  rw [ru_one] at hp
  refine ACall.startA c18_ok Try.func18 rfl Try.ntmps18 (by kernel_rfl) res18_ok rfl rfl rfl ?_; simp (maxSteps := 9999999) (disch := omega) only [go_sem]
  (repeat' (first | refine AWpA.seq ?_ | refine AWpA.block ?_ | (with_reducible refine CondP.tt ?_) | (with_reducible refine CondP.ff ?_) | refine AWpA.condv (by simp (maxSteps := 9999999) (disch := omega) only [go_sem, hr, hu, hL]; rfl) ?_ | ((first | (apply AWpA.region; (focus (simp (maxSteps := 9999999) (disch := omega) only [go_sem, hr, hu, hL]; rfl))) | (apply AWpA.draw [1] [] follows; (focus (first | rfl | decide)); (focus (simp (maxSteps := 9999999) (disch := omega) only [go_sem, hr, hu, hL]; rfl)); (focus (simp (maxSteps := 9999999) (disch := omega) only [go_sem, hr, hu, hL]; first | done | trivial)); (focus (simp (maxSteps := 9999999) (disch := omega) only [go_sem, hr, hu, hL]; rfl))) | (apply TailK.go; (focus (simp (maxSteps := 9999999) (disch := omega) only [go_sem, hr, hu, hL]; rfl))) | refine AWpA.skip ?_ | refine AWpA.exit ?_ | refine AWpA.ret ?_ | (with_reducible refine ARoundsA.succ ?_) | ((first | refine Runs.kt (by assumption) (fun h9 => ?_) | refine Runs.kf (by assumption) (fun h9 => ?_) | refine Runs.nt (by assumption) (fun h9 => ?_) | refine Runs.nf (by assumption) (fun h9 => ?_) | refine CondP.ht (by assumption) (fun h9 => ?_) | refine CondP.hf (by assumption) (fun h9 => ?_) | refine CondP.nt (by assumption) (fun h9 => ?_) | refine CondP.nf (by assumption) (fun h9 => ?_)); (try simp only [h9]); clear h9)); (try simp (maxSteps := 9999999) (disch := omega) only [go_sem, hr, hu, hL]); (try (refine And.intro ?_ ?_; (focus (first | omega | (simp only [go_sem]; done) | (simp; done) | (simp; omega) | assumption))))) | ((first | refine CondP.split (fun hif => ?_) (fun hif => ?_) | refine Runs.part (fun hif => ?_) (fun hif => ?_)) <;> ((try simp only [hif]); (try simp only [decide_eq_true_eq, decide_eq_false_iff_not, Bool.not_eq_true, Bool.not_eq_false, Bool.not_eq_true', Bool.not_eq_false', beq_iff_eq, bne_iff_ne, bne_eq_false_iff_eq, beq_eq_false_iff_ne, ne_eq, Bool.and_eq_true, Bool.or_eq_true, Bool.or_eq_false_iff] at hif); (try (have h9 : _ = true := hif; simp only [h9])); (try (have h9 : _ = false := hif; simp only [h9])); (try simp (maxSteps := 9999999) (disch := omega) only [go_sem, hr, hu, hL]); (try (refine And.intro ?_ ?_; (focus (first | omega | (simp only [go_sem]; done) | (simp; done) | (simp; omega) | assumption)))); (try (exfalso; omega; done))))))
  (apply Ret.det [0, 1, 2, _]; (focus (first | exact .inl rfl | exact .inr rfl)); (focus (simp (maxSteps := 9999999) (disch := omega) only [go_sem, hr, hu, hfu, hp, renL_append]; rfl)); (simp (maxSteps := 9999999) (disch := omega) only [go_sem, hr, hu, hfu, hp, renL_append]; (try (repeat' (first | done | trivial | rfl | exact leAs_rfl _ | decide | (refine And.intro ?_ ?_) | (simp; done) | omega | (simp; decide))))))
/-- What a look tells. -/
def seeC (site : Int) (ups : List Up) (last table : List En) : Int := if risB table = false then 4 else if 0 ≤ strangeI table ups then 5 else if 0 ≤ shortI table site ups then 6 else if fellI last table = -1 then 0 else 12
theorem fellR_yes {was is : List En} (h : fellI was is ≠ -1) : ∃ k, fellR was is = .tup [Str k, Bo true] := by
  rcases idxI_cases was (fellP is) with ⟨e, _⟩ | ⟨i, hi, e, _⟩
  · exact absurd e h
  · exact ⟨_, fellR_at hi e⟩
theorem wsee_any (site seen : Int) (hsn : 0 ≤ seen ∧ seen ≤ 1000000) (ups : List Up) (last table : List En) (hu1 : ups.length ≤ 1099511627776) (hl1 : last.length ≤ 1099511627776) (ht1 : table.length ≤ 1099511627776) : ACall Try.prog 21 [.ptr 0 0, .sl 3 0 table.length 9 none] [WO 1 2 site seen ups last, .cells false (Ru 0 ups), .cells false (Re 0 last), .cells true (Re 0 table)]
    (Det (I (seeC site ups last table)) [WO 1 4 site (if seeC site ups last table = 0 then seen + 1 else seen) ups (if seeC site ups last table = 0 then table else last), .cells false (Ru 0 ups), .gone, .cells true (Re 0 table), .cells false (Re 0 (if seeC site ups last table = 0 then table else last))]) := by
  have hr := re_ren 0
  have hu := ru_ren 0
  have c1 := fell_any 0 last table hl1 ht1
  have c2 := risen_any table ht1
  have c3 := strange_any table ups ht1 hu1
  have c4 := wshort_any table site ups ht1 hu1
  have c5 := clonee_any (Re 0 table) 0 table ht1 (re_ren 0 table) (by rw [re_len]; omega) (re_seg 0 table rfl)
  obtain ⟨c, hc⟩ : ∃ c, c = seeC site ups last table := ⟨_, rfl⟩
  rw [← hc]
  unfold seeC at hc
  have hfe : ∃ k b, fellR last table = .tup [Str k, Bo b] ∧ (b = false ↔ fellI last table = -1) := by
    by_cases h : fellI last table = -1
    · exact ⟨_, _, fellR_no h, by simp [h]⟩
    · obtain ⟨k, hk⟩ := fellR_yes h
      exact ⟨k, true, hk, by simp [h]⟩
  obtain ⟨k, b, hfr, hb⟩ := hfe
  rw [hfr] at c1
  clear hfr
  cases hrs : risB table with
  | false =>
    rw [if_pos hrs] at hc
    rw [hrs] at c2
    subst hc
    rw [if_neg (by decide), if_neg (by decide)]
    refine ACall.startA c21_ok Try.func21 rfl Try.ntmps21 (by kernel_rfl) res21_ok rfl rfl rfl ?_; simp (maxSteps := 9999999) (disch := omega) only [go_sem]
    (repeat' (first | refine AWpA.seq ?_ | refine AWpA.block ?_ | (with_reducible refine CondP.tt ?_) | (with_reducible refine CondP.ff ?_) | refine AWpA.condv (by simp (maxSteps := 9999999) (disch := omega) only [go_sem, hr, hu]; rfl) ?_ | ((first | (apply AWpA.region; (focus (simp (maxSteps := 9999999) (disch := omega) only [go_sem, hr, hu]; rfl))) | (apply AWpA.draw [] [] follows; (focus (first | rfl | decide)); (focus (simp (maxSteps := 9999999) (disch := omega) only [go_sem, hr, hu]; rfl)); (focus (simp (maxSteps := 9999999) (disch := omega) only [go_sem, hr, hu]; first | done | trivial)); (focus (simp (maxSteps := 9999999) (disch := omega) only [go_sem, hr, hu]; rfl))) | (apply TailK.go; (focus (simp (maxSteps := 9999999) (disch := omega) only [go_sem, hr, hu]; rfl))) | refine AWpA.skip ?_ | refine AWpA.exit ?_ | refine AWpA.ret ?_ | (with_reducible refine ARoundsA.succ ?_) | ((first | refine Runs.kt (by assumption) (fun h9 => ?_) | refine Runs.kf (by assumption) (fun h9 => ?_) | refine Runs.nt (by assumption) (fun h9 => ?_) | refine Runs.nf (by assumption) (fun h9 => ?_) | refine CondP.ht (by assumption) (fun h9 => ?_) | refine CondP.hf (by assumption) (fun h9 => ?_) | refine CondP.nt (by assumption) (fun h9 => ?_) | refine CondP.nf (by assumption) (fun h9 => ?_)); (try simp only [h9]); clear h9) | ((first | (with_reducible apply CallG.plain1 [2, 3] (c1)) | (with_reducible apply CallG.draw1 [2, 3] (c1))); (focus ((try refine And.intro (leAs_of_eq rfl) ?_); (try refine And.intro (leOL_of_eq rfl) ?_); simp (maxSteps := 9999999) (disch := omega) only [go_sem, hr, hu]; first | done | (repeat' (first | rfl | (refine And.intro ?_ ?_))))); (focus (simp (maxSteps := 9999999) (disch := omega) only [go_sem, hr, hu]; rfl))) | ((first | (with_reducible apply CallG.plain1 [3] (c2)) | (with_reducible apply CallG.draw1 [3] (c2))); (focus ((try refine And.intro (leAs_of_eq rfl) ?_); (try refine And.intro (leOL_of_eq rfl) ?_); simp (maxSteps := 9999999) (disch := omega) only [go_sem, hr, hu]; first | done | (repeat' (first | rfl | (refine And.intro ?_ ?_))))); (focus (simp (maxSteps := 9999999) (disch := omega) only [go_sem, hr, hu]; rfl)))); (try simp (maxSteps := 9999999) (disch := omega) only [go_sem, hr, hu]); (try (refine And.intro ?_ ?_; (focus (first | omega | (simp only [go_sem]; done) | (simp; done) | (simp; omega) | assumption))))) | ((first | refine CondP.split (fun hif => ?_) (fun hif => ?_) | refine Runs.part (fun hif => ?_) (fun hif => ?_)) <;> ((try simp only [hif]); (try simp only [decide_eq_true_eq, decide_eq_false_iff_not, Bool.not_eq_true, Bool.not_eq_false, Bool.not_eq_true', Bool.not_eq_false', beq_iff_eq, bne_iff_ne, bne_eq_false_iff_eq, beq_eq_false_iff_ne, ne_eq, Bool.and_eq_true, Bool.or_eq_true, Bool.or_eq_false_iff] at hif); (try (have h9 : _ = true := hif; simp only [h9])); (try (have h9 : _ = false := hif; simp only [h9])); (try simp (maxSteps := 9999999) (disch := omega) only [go_sem, hr, hu]); (try (refine And.intro ?_ ?_; (focus (first | omega | (simp only [go_sem]; done) | (simp; done) | (simp; omega) | assumption)))); (try (exfalso; omega; done))))))
    (apply Ret.det [0, 1, 2, 3, 2]; (focus (first | exact .inl rfl | exact .inr rfl)); (focus (simp (maxSteps := 9999999) (disch := omega) only [go_sem, hr, hu]; rfl)); (simp (maxSteps := 9999999) (disch := omega) only [go_sem, hr, hu]; (try (repeat' (first | done | trivial | rfl | exact leAs_rfl _ | decide | (refine And.intro ?_ ?_) | (simp; done) | omega | (simp; decide))))))
  | true =>
    rw [if_neg (by rw [hrs]; decide)] at hc
    rw [hrs] at c2
    generalize strangeI table ups = x at *
    by_cases hx : 0 ≤ x
    · rw [if_pos hx] at hc
      have g1 : (0 ≤ x) = True := eq_true hx
      subst hc
      rw [if_neg (by decide), if_neg (by decide)]
      refine ACall.startA c21_ok Try.func21 rfl Try.ntmps21 (by kernel_rfl) res21_ok rfl rfl rfl ?_; simp (maxSteps := 9999999) (disch := omega) only [go_sem]
      (repeat' (first | refine AWpA.seq ?_ | refine AWpA.block ?_ | (with_reducible refine CondP.tt ?_) | (with_reducible refine CondP.ff ?_) | refine AWpA.condv (by simp (maxSteps := 9999999) (disch := omega) only [go_sem, hr, hu, g1]; rfl) ?_ | ((first | (apply AWpA.region; (focus (simp (maxSteps := 9999999) (disch := omega) only [go_sem, hr, hu, g1]; rfl))) | (apply AWpA.draw [] [] follows; (focus (first | rfl | decide)); (focus (simp (maxSteps := 9999999) (disch := omega) only [go_sem, hr, hu, g1]; rfl)); (focus (simp (maxSteps := 9999999) (disch := omega) only [go_sem, hr, hu, g1]; first | done | trivial)); (focus (simp (maxSteps := 9999999) (disch := omega) only [go_sem, hr, hu, g1]; rfl))) | (apply TailK.go; (focus (simp (maxSteps := 9999999) (disch := omega) only [go_sem, hr, hu, g1]; rfl))) | refine AWpA.skip ?_ | refine AWpA.exit ?_ | refine AWpA.ret ?_ | (with_reducible refine ARoundsA.succ ?_) | ((first | refine Runs.kt (by assumption) (fun h9 => ?_) | refine Runs.kf (by assumption) (fun h9 => ?_) | refine Runs.nt (by assumption) (fun h9 => ?_) | refine Runs.nf (by assumption) (fun h9 => ?_) | refine CondP.ht (by assumption) (fun h9 => ?_) | refine CondP.hf (by assumption) (fun h9 => ?_) | refine CondP.nt (by assumption) (fun h9 => ?_) | refine CondP.nf (by assumption) (fun h9 => ?_)); (try simp only [h9]); clear h9) | ((first | (with_reducible apply CallG.plain1 [2, 3] (c1)) | (with_reducible apply CallG.draw1 [2, 3] (c1))); (focus ((try refine And.intro (leAs_of_eq rfl) ?_); (try refine And.intro (leOL_of_eq rfl) ?_); simp (maxSteps := 9999999) (disch := omega) only [go_sem, hr, hu, g1]; first | done | (repeat' (first | rfl | (refine And.intro ?_ ?_))))); (focus (simp (maxSteps := 9999999) (disch := omega) only [go_sem, hr, hu, g1]; rfl))) | ((first | (with_reducible apply CallG.plain1 [3] (c2)) | (with_reducible apply CallG.draw1 [3] (c2))); (focus ((try refine And.intro (leAs_of_eq rfl) ?_); (try refine And.intro (leOL_of_eq rfl) ?_); simp (maxSteps := 9999999) (disch := omega) only [go_sem, hr, hu, g1]; first | done | (repeat' (first | rfl | (refine And.intro ?_ ?_))))); (focus (simp (maxSteps := 9999999) (disch := omega) only [go_sem, hr, hu, g1]; rfl))) | ((first | (with_reducible apply CallG.plain1 [3, 1] (c3)) | (with_reducible apply CallG.draw1 [3, 1] (c3))); (focus ((try refine And.intro (leAs_of_eq rfl) ?_); (try refine And.intro (leOL_of_eq rfl) ?_); simp (maxSteps := 9999999) (disch := omega) only [go_sem, hr, hu, g1]; first | done | (repeat' (first | rfl | (refine And.intro ?_ ?_))))); (focus (simp (maxSteps := 9999999) (disch := omega) only [go_sem, hr, hu, g1]; rfl)))); (try simp (maxSteps := 9999999) (disch := omega) only [go_sem, hr, hu, g1]); (try (refine And.intro ?_ ?_; (focus (first | omega | (simp only [go_sem]; done) | (simp; done) | (simp; omega) | assumption))))) | ((first | refine CondP.split (fun hif => ?_) (fun hif => ?_) | refine Runs.part (fun hif => ?_) (fun hif => ?_)) <;> ((try simp only [hif]); (try simp only [decide_eq_true_eq, decide_eq_false_iff_not, Bool.not_eq_true, Bool.not_eq_false, Bool.not_eq_true', Bool.not_eq_false', beq_iff_eq, bne_iff_ne, bne_eq_false_iff_eq, beq_eq_false_iff_ne, ne_eq, Bool.and_eq_true, Bool.or_eq_true, Bool.or_eq_false_iff] at hif); (try (have h9 : _ = true := hif; simp only [h9])); (try (have h9 : _ = false := hif; simp only [h9])); (try simp (maxSteps := 9999999) (disch := omega) only [go_sem, hr, hu, g1]); (try (refine And.intro ?_ ?_; (focus (first | omega | (simp only [go_sem]; done) | (simp; done) | (simp; omega) | assumption)))); (try (exfalso; omega; done))))))
      (apply Ret.det [0, 1, 2, 3, 2]; (focus (first | exact .inl rfl | exact .inr rfl)); (focus (simp (maxSteps := 9999999) (disch := omega) only [go_sem, hr, hu]; rfl)); (simp (maxSteps := 9999999) (disch := omega) only [go_sem, hr, hu]; (try (repeat' (first | done | trivial | rfl | exact leAs_rfl _ | decide | (refine And.intro ?_ ?_) | (simp; done) | omega | (simp; decide))))))
    · rw [if_neg hx] at hc
      have g1 : (0 ≤ x) = False := eq_false hx
      generalize shortI table site ups = y at *
      by_cases hy : 0 ≤ y
      · rw [if_pos hy] at hc
        have g2 : (0 ≤ y) = True := eq_true hy
        subst hc
        rw [if_neg (by decide), if_neg (by decide)]
        refine ACall.startA c21_ok Try.func21 rfl Try.ntmps21 (by kernel_rfl) res21_ok rfl rfl rfl ?_; simp (maxSteps := 9999999) (disch := omega) only [go_sem]
        (repeat' (first | refine AWpA.seq ?_ | refine AWpA.block ?_ | (with_reducible refine CondP.tt ?_) | (with_reducible refine CondP.ff ?_) | refine AWpA.condv (by simp (maxSteps := 9999999) (disch := omega) only [go_sem, hr, hu, g1, g2]; rfl) ?_ | ((first | (apply AWpA.region; (focus (simp (maxSteps := 9999999) (disch := omega) only [go_sem, hr, hu, g1, g2]; rfl))) | (apply AWpA.draw [] [] follows; (focus (first | rfl | decide)); (focus (simp (maxSteps := 9999999) (disch := omega) only [go_sem, hr, hu, g1, g2]; rfl)); (focus (simp (maxSteps := 9999999) (disch := omega) only [go_sem, hr, hu, g1, g2]; first | done | trivial)); (focus (simp (maxSteps := 9999999) (disch := omega) only [go_sem, hr, hu, g1, g2]; rfl))) | (apply TailK.go; (focus (simp (maxSteps := 9999999) (disch := omega) only [go_sem, hr, hu, g1, g2]; rfl))) | refine AWpA.skip ?_ | refine AWpA.exit ?_ | refine AWpA.ret ?_ | (with_reducible refine ARoundsA.succ ?_) | ((first | refine Runs.kt (by assumption) (fun h9 => ?_) | refine Runs.kf (by assumption) (fun h9 => ?_) | refine Runs.nt (by assumption) (fun h9 => ?_) | refine Runs.nf (by assumption) (fun h9 => ?_) | refine CondP.ht (by assumption) (fun h9 => ?_) | refine CondP.hf (by assumption) (fun h9 => ?_) | refine CondP.nt (by assumption) (fun h9 => ?_) | refine CondP.nf (by assumption) (fun h9 => ?_)); (try simp only [h9]); clear h9) | ((first | (with_reducible apply CallG.plain1 [2, 3] (c1)) | (with_reducible apply CallG.draw1 [2, 3] (c1))); (focus ((try refine And.intro (leAs_of_eq rfl) ?_); (try refine And.intro (leOL_of_eq rfl) ?_); simp (maxSteps := 9999999) (disch := omega) only [go_sem, hr, hu, g1, g2]; first | done | (repeat' (first | rfl | (refine And.intro ?_ ?_))))); (focus (simp (maxSteps := 9999999) (disch := omega) only [go_sem, hr, hu, g1, g2]; rfl))) | ((first | (with_reducible apply CallG.plain1 [3] (c2)) | (with_reducible apply CallG.draw1 [3] (c2))); (focus ((try refine And.intro (leAs_of_eq rfl) ?_); (try refine And.intro (leOL_of_eq rfl) ?_); simp (maxSteps := 9999999) (disch := omega) only [go_sem, hr, hu, g1, g2]; first | done | (repeat' (first | rfl | (refine And.intro ?_ ?_))))); (focus (simp (maxSteps := 9999999) (disch := omega) only [go_sem, hr, hu, g1, g2]; rfl))) | ((first | (with_reducible apply CallG.plain1 [3, 1] (c3)) | (with_reducible apply CallG.draw1 [3, 1] (c3))); (focus ((try refine And.intro (leAs_of_eq rfl) ?_); (try refine And.intro (leOL_of_eq rfl) ?_); simp (maxSteps := 9999999) (disch := omega) only [go_sem, hr, hu, g1, g2]; first | done | (repeat' (first | rfl | (refine And.intro ?_ ?_))))); (focus (simp (maxSteps := 9999999) (disch := omega) only [go_sem, hr, hu, g1, g2]; rfl))) | ((first | (with_reducible apply CallG.plain1 [3, 1] (c4)) | (with_reducible apply CallG.draw1 [3, 1] (c4))); (focus ((try refine And.intro (leAs_of_eq rfl) ?_); (try refine And.intro (leOL_of_eq rfl) ?_); simp (maxSteps := 9999999) (disch := omega) only [go_sem, hr, hu, g1, g2]; first | done | (repeat' (first | rfl | (refine And.intro ?_ ?_))))); (focus (simp (maxSteps := 9999999) (disch := omega) only [go_sem, hr, hu, g1, g2]; rfl)))); (try simp (maxSteps := 9999999) (disch := omega) only [go_sem, hr, hu, g1, g2]); (try (refine And.intro ?_ ?_; (focus (first | omega | (simp only [go_sem]; done) | (simp; done) | (simp; omega) | assumption))))) | ((first | refine CondP.split (fun hif => ?_) (fun hif => ?_) | refine Runs.part (fun hif => ?_) (fun hif => ?_)) <;> ((try simp only [hif]); (try simp only [decide_eq_true_eq, decide_eq_false_iff_not, Bool.not_eq_true, Bool.not_eq_false, Bool.not_eq_true', Bool.not_eq_false', beq_iff_eq, bne_iff_ne, bne_eq_false_iff_eq, beq_eq_false_iff_ne, ne_eq, Bool.and_eq_true, Bool.or_eq_true, Bool.or_eq_false_iff] at hif); (try (have h9 : _ = true := hif; simp only [h9])); (try (have h9 : _ = false := hif; simp only [h9])); (try simp (maxSteps := 9999999) (disch := omega) only [go_sem, hr, hu, g1, g2]); (try (refine And.intro ?_ ?_; (focus (first | omega | (simp only [go_sem]; done) | (simp; done) | (simp; omega) | assumption)))); (try (exfalso; omega; done))))))
        (apply Ret.det [0, 1, 2, 3, 2]; (focus (first | exact .inl rfl | exact .inr rfl)); (focus (simp (maxSteps := 9999999) (disch := omega) only [go_sem, hr, hu]; rfl)); (simp (maxSteps := 9999999) (disch := omega) only [go_sem, hr, hu]; (try (repeat' (first | done | trivial | rfl | exact leAs_rfl _ | decide | (refine And.intro ?_ ?_) | (simp; done) | omega | (simp; decide))))))
      · rw [if_neg hy] at hc
        have g2 : (0 ≤ y) = False := eq_false hy
        by_cases hf : fellI last table = -1
        · rw [if_pos hf] at hc
          obtain rfl := hb.2 hf
          subst hc
          rw [if_pos rfl, if_pos rfl]
          clear hb
          refine ACall.startA c21_ok Try.func21 rfl Try.ntmps21 (by kernel_rfl) res21_ok rfl rfl rfl ?_; simp (maxSteps := 9999999) (disch := omega) only [go_sem]
          (repeat' (first | refine AWpA.seq ?_ | refine AWpA.block ?_ | (with_reducible refine CondP.tt ?_) | (with_reducible refine CondP.ff ?_) | refine AWpA.condv (by simp (maxSteps := 9999999) (disch := omega) only [go_sem, hr, hu, g1, g2]; rfl) ?_ | ((first | (apply AWpA.region; (focus (simp (maxSteps := 9999999) (disch := omega) only [go_sem, hr, hu, g1, g2]; rfl))) | (apply AWpA.draw [] [] follows; (focus (first | rfl | decide)); (focus (simp (maxSteps := 9999999) (disch := omega) only [go_sem, hr, hu, g1, g2]; rfl)); (focus (simp (maxSteps := 9999999) (disch := omega) only [go_sem, hr, hu, g1, g2]; first | done | trivial)); (focus (simp (maxSteps := 9999999) (disch := omega) only [go_sem, hr, hu, g1, g2]; rfl))) | (apply TailK.go; (focus (simp (maxSteps := 9999999) (disch := omega) only [go_sem, hr, hu, g1, g2]; rfl))) | refine AWpA.skip ?_ | refine AWpA.exit ?_ | refine AWpA.ret ?_ | (with_reducible refine ARoundsA.succ ?_) | ((first | refine Runs.kt (by assumption) (fun h9 => ?_) | refine Runs.kf (by assumption) (fun h9 => ?_) | refine Runs.nt (by assumption) (fun h9 => ?_) | refine Runs.nf (by assumption) (fun h9 => ?_) | refine CondP.ht (by assumption) (fun h9 => ?_) | refine CondP.hf (by assumption) (fun h9 => ?_) | refine CondP.nt (by assumption) (fun h9 => ?_) | refine CondP.nf (by assumption) (fun h9 => ?_)); (try simp only [h9]); clear h9) | ((first | (with_reducible apply CallG.plain1 [2, 3] (c1)) | (with_reducible apply CallG.draw1 [2, 3] (c1))); (focus ((try refine And.intro (leAs_of_eq rfl) ?_); (try refine And.intro (leOL_of_eq rfl) ?_); simp (maxSteps := 9999999) (disch := omega) only [go_sem, hr, hu, g1, g2]; first | done | (repeat' (first | rfl | (refine And.intro ?_ ?_))))); (focus (simp (maxSteps := 9999999) (disch := omega) only [go_sem, hr, hu, g1, g2]; rfl))) | ((first | (with_reducible apply CallG.plain1 [3] (c2)) | (with_reducible apply CallG.draw1 [3] (c2))); (focus ((try refine And.intro (leAs_of_eq rfl) ?_); (try refine And.intro (leOL_of_eq rfl) ?_); simp (maxSteps := 9999999) (disch := omega) only [go_sem, hr, hu, g1, g2]; first | done | (repeat' (first | rfl | (refine And.intro ?_ ?_))))); (focus (simp (maxSteps := 9999999) (disch := omega) only [go_sem, hr, hu, g1, g2]; rfl))) | ((first | (with_reducible apply CallG.plain1 [3, 1] (c3)) | (with_reducible apply CallG.draw1 [3, 1] (c3))); (focus ((try refine And.intro (leAs_of_eq rfl) ?_); (try refine And.intro (leOL_of_eq rfl) ?_); simp (maxSteps := 9999999) (disch := omega) only [go_sem, hr, hu, g1, g2]; first | done | (repeat' (first | rfl | (refine And.intro ?_ ?_))))); (focus (simp (maxSteps := 9999999) (disch := omega) only [go_sem, hr, hu, g1, g2]; rfl))) | ((first | (with_reducible apply CallG.plain1 [3, 1] (c4)) | (with_reducible apply CallG.draw1 [3, 1] (c4))); (focus ((try refine And.intro (leAs_of_eq rfl) ?_); (try refine And.intro (leOL_of_eq rfl) ?_); simp (maxSteps := 9999999) (disch := omega) only [go_sem, hr, hu, g1, g2]; first | done | (repeat' (first | rfl | (refine And.intro ?_ ?_))))); (focus (simp (maxSteps := 9999999) (disch := omega) only [go_sem, hr, hu, g1, g2]; rfl))) | ((first | (with_reducible apply CallG.plain1 [3] (c5)) | (with_reducible apply CallG.draw1 [3] (c5))); (focus ((try refine And.intro (leAs_of_eq rfl) ?_); (try refine And.intro (leOL_of_eq rfl) ?_); simp (maxSteps := 9999999) (disch := omega) only [go_sem, hr, hu, g1, g2]; first | done | (repeat' (first | rfl | (refine And.intro ?_ ?_))))); (focus (simp (maxSteps := 9999999) (disch := omega) only [go_sem, hr, hu, g1, g2]; rfl)))); (try simp (maxSteps := 9999999) (disch := omega) only [go_sem, hr, hu, g1, g2]); (try (refine And.intro ?_ ?_; (focus (first | omega | (simp only [go_sem]; done) | (simp; done) | (simp; omega) | assumption))))) | ((first | refine CondP.split (fun hif => ?_) (fun hif => ?_) | refine Runs.part (fun hif => ?_) (fun hif => ?_)) <;> ((try simp only [hif]); (try simp only [decide_eq_true_eq, decide_eq_false_iff_not, Bool.not_eq_true, Bool.not_eq_false, Bool.not_eq_true', Bool.not_eq_false', beq_iff_eq, bne_iff_ne, bne_eq_false_iff_eq, beq_eq_false_iff_ne, ne_eq, Bool.and_eq_true, Bool.or_eq_true, Bool.or_eq_false_iff] at hif); (try (have h9 : _ = true := hif; simp only [h9])); (try (have h9 : _ = false := hif; simp only [h9])); (try simp (maxSteps := 9999999) (disch := omega) only [go_sem, hr, hu, g1, g2]); (try (refine And.intro ?_ ?_; (focus (first | omega | (simp only [go_sem]; done) | (simp; done) | (simp; omega) | assumption)))); (try (exfalso; omega; done))))))
          (apply Ret.det [0, 1, 2, 3, _]; (focus (first | exact .inl rfl | exact .inr rfl)); (focus (simp (maxSteps := 9999999) (disch := omega) only [go_sem, hr, hu]; rfl)); (simp (maxSteps := 9999999) (disch := omega) only [go_sem, hr, hu]; (try (repeat' (first | done | trivial | rfl | exact leAs_rfl _ | decide | (refine And.intro ?_ ?_) | (simp; done) | omega | (simp; decide))))))
        · rw [if_neg hf] at hc
          obtain rfl : b = true := by cases b with
            | true => rfl
            | false => exact absurd (hb.1 rfl) hf
          subst hc
          rw [if_neg (by decide), if_neg (by decide)]
          clear hb
          refine ACall.startA c21_ok Try.func21 rfl Try.ntmps21 (by kernel_rfl) res21_ok rfl rfl rfl ?_; simp (maxSteps := 9999999) (disch := omega) only [go_sem]
          (repeat' (first | refine AWpA.seq ?_ | refine AWpA.block ?_ | (with_reducible refine CondP.tt ?_) | (with_reducible refine CondP.ff ?_) | refine AWpA.condv (by simp (maxSteps := 9999999) (disch := omega) only [go_sem, hr, hu, g1, g2]; rfl) ?_ | ((first | (apply AWpA.region; (focus (simp (maxSteps := 9999999) (disch := omega) only [go_sem, hr, hu, g1, g2]; rfl))) | (apply AWpA.draw [] [] follows; (focus (first | rfl | decide)); (focus (simp (maxSteps := 9999999) (disch := omega) only [go_sem, hr, hu, g1, g2]; rfl)); (focus (simp (maxSteps := 9999999) (disch := omega) only [go_sem, hr, hu, g1, g2]; first | done | trivial)); (focus (simp (maxSteps := 9999999) (disch := omega) only [go_sem, hr, hu, g1, g2]; rfl))) | (apply TailK.go; (focus (simp (maxSteps := 9999999) (disch := omega) only [go_sem, hr, hu, g1, g2]; rfl))) | refine AWpA.skip ?_ | refine AWpA.exit ?_ | refine AWpA.ret ?_ | (with_reducible refine ARoundsA.succ ?_) | ((first | refine Runs.kt (by assumption) (fun h9 => ?_) | refine Runs.kf (by assumption) (fun h9 => ?_) | refine Runs.nt (by assumption) (fun h9 => ?_) | refine Runs.nf (by assumption) (fun h9 => ?_) | refine CondP.ht (by assumption) (fun h9 => ?_) | refine CondP.hf (by assumption) (fun h9 => ?_) | refine CondP.nt (by assumption) (fun h9 => ?_) | refine CondP.nf (by assumption) (fun h9 => ?_)); (try simp only [h9]); clear h9) | ((first | (with_reducible apply CallG.plain1 [2, 3] (c1)) | (with_reducible apply CallG.draw1 [2, 3] (c1))); (focus ((try refine And.intro (leAs_of_eq rfl) ?_); (try refine And.intro (leOL_of_eq rfl) ?_); simp (maxSteps := 9999999) (disch := omega) only [go_sem, hr, hu, g1, g2]; first | done | (repeat' (first | rfl | (refine And.intro ?_ ?_))))); (focus (simp (maxSteps := 9999999) (disch := omega) only [go_sem, hr, hu, g1, g2]; rfl))) | ((first | (with_reducible apply CallG.plain1 [3] (c2)) | (with_reducible apply CallG.draw1 [3] (c2))); (focus ((try refine And.intro (leAs_of_eq rfl) ?_); (try refine And.intro (leOL_of_eq rfl) ?_); simp (maxSteps := 9999999) (disch := omega) only [go_sem, hr, hu, g1, g2]; first | done | (repeat' (first | rfl | (refine And.intro ?_ ?_))))); (focus (simp (maxSteps := 9999999) (disch := omega) only [go_sem, hr, hu, g1, g2]; rfl))) | ((first | (with_reducible apply CallG.plain1 [3, 1] (c3)) | (with_reducible apply CallG.draw1 [3, 1] (c3))); (focus ((try refine And.intro (leAs_of_eq rfl) ?_); (try refine And.intro (leOL_of_eq rfl) ?_); simp (maxSteps := 9999999) (disch := omega) only [go_sem, hr, hu, g1, g2]; first | done | (repeat' (first | rfl | (refine And.intro ?_ ?_))))); (focus (simp (maxSteps := 9999999) (disch := omega) only [go_sem, hr, hu, g1, g2]; rfl))) | ((first | (with_reducible apply CallG.plain1 [3, 1] (c4)) | (with_reducible apply CallG.draw1 [3, 1] (c4))); (focus ((try refine And.intro (leAs_of_eq rfl) ?_); (try refine And.intro (leOL_of_eq rfl) ?_); simp (maxSteps := 9999999) (disch := omega) only [go_sem, hr, hu, g1, g2]; first | done | (repeat' (first | rfl | (refine And.intro ?_ ?_))))); (focus (simp (maxSteps := 9999999) (disch := omega) only [go_sem, hr, hu, g1, g2]; rfl)))); (try simp (maxSteps := 9999999) (disch := omega) only [go_sem, hr, hu, g1, g2]); (try (refine And.intro ?_ ?_; (focus (first | omega | (simp only [go_sem]; done) | (simp; done) | (simp; omega) | assumption))))) | ((first | refine CondP.split (fun hif => ?_) (fun hif => ?_) | refine Runs.part (fun hif => ?_) (fun hif => ?_)) <;> ((try simp only [hif]); (try simp only [decide_eq_true_eq, decide_eq_false_iff_not, Bool.not_eq_true, Bool.not_eq_false, Bool.not_eq_true', Bool.not_eq_false', beq_iff_eq, bne_iff_ne, bne_eq_false_iff_eq, beq_eq_false_iff_ne, ne_eq, Bool.and_eq_true, Bool.or_eq_true, Bool.or_eq_false_iff] at hif); (try (have h9 : _ = true := hif; simp only [h9])); (try (have h9 : _ = false := hif; simp only [h9])); (try simp (maxSteps := 9999999) (disch := omega) only [go_sem, hr, hu, g1, g2]); (try (refine And.intro ?_ ?_; (focus (first | omega | (simp only [go_sem]; done) | (simp; done) | (simp; omega) | assumption)))); (try (exfalso; omega; done))))))
          (apply Ret.det [0, 1, 2, 3, 2]; (focus (first | exact .inl rfl | exact .inr rfl)); (focus (simp (maxSteps := 9999999) (disch := omega) only [go_sem, hr, hu]; rfl)); (simp (maxSteps := 9999999) (disch := omega) only [go_sem, hr, hu]; (try (repeat' (first | done | trivial | rfl | exact leAs_rfl _ | decide | (refine And.intro ?_ ?_) | (simp; done) | omega | (simp; decide))))))
theorem rsee_any (site seen : Int) (hsn : 0 ≤ seen ∧ seen ≤ 1000000) (ups : List Up) (mo to' : Nat) (last table : List En) (hu1 : ups.length ≤ 1099511627776) (hl1 : last.length ≤ 1099511627776) (ht1 : table.length ≤ 1099511627776) : ACall Try.prog 20 [.agg [I site, I seen, .sl 0 0 ups.length 10 none, .sl 1 mo last.length 9 none], .sl 2 to' table.length 9 none] [.cells true (Ru 0 ups), .cells true (Re mo last), .cells true (Re to' table)]
    (Det (.tup [.agg [I site, I (if seeC site ups last table = 0 then seen + 1 else seen), .sl 0 0 ups.length 10 none, if seeC site ups last table = 0 then .sl 2 to' table.length 9 none else .sl 1 mo last.length 9 none], I (seeC site ups last table)]) [.cells true (Ru 0 ups), .cells true (Re mo last), .cells true (Re to' table)]) := by
  have hr := re_ren
  have hu := ru_ren 0
  have c1 := rfell_any mo to' last table hl1 ht1
  have c2 := rrisen_any to' table ht1
  have c3 := rstrange_any to' 0 table ups ht1 hu1
  have c4 := rshort_any to' 0 table site ups ht1 hu1
  obtain ⟨c, hc⟩ : ∃ c, c = seeC site ups last table := ⟨_, rfl⟩
  rw [← hc]
  unfold seeC at hc
  have hfe : ∃ k b, fellR last table = .tup [Str k, Bo b] ∧ (b = false ↔ fellI last table = -1) := by
    by_cases h : fellI last table = -1
    · exact ⟨_, _, fellR_no h, by simp [h]⟩
    · obtain ⟨k, hk⟩ := fellR_yes h
      exact ⟨k, true, hk, by simp [h]⟩
  obtain ⟨k, b, hfr, hb⟩ := hfe
  rw [hfr] at c1
  clear hfr
  cases hrs : risB table with
  | false =>
    rw [if_pos hrs] at hc
    rw [hrs] at c2
    subst hc
    rw [if_neg (by decide), if_neg (by decide)]
    refine ACall.startA c20_ok Try.func20 rfl Try.ntmps20 (by kernel_rfl) res20_ok rfl rfl rfl ?_; simp (maxSteps := 9999999) (disch := omega) only [go_sem]
    (repeat' (first | refine AWpA.seq ?_ | refine AWpA.block ?_ | (with_reducible refine CondP.tt ?_) | (with_reducible refine CondP.ff ?_) | refine AWpA.condv (by simp (maxSteps := 9999999) (disch := omega) only [go_sem, hr, hu]; rfl) ?_ | ((first | (apply AWpA.region; (focus (simp (maxSteps := 9999999) (disch := omega) only [go_sem, hr, hu]; rfl))) | (apply AWpA.draw [] [] follows; (focus (first | rfl | decide)); (focus (simp (maxSteps := 9999999) (disch := omega) only [go_sem, hr, hu]; rfl)); (focus (simp (maxSteps := 9999999) (disch := omega) only [go_sem, hr, hu]; first | done | trivial)); (focus (simp (maxSteps := 9999999) (disch := omega) only [go_sem, hr, hu]; rfl))) | (apply TailK.go; (focus (simp (maxSteps := 9999999) (disch := omega) only [go_sem, hr, hu]; rfl))) | refine AWpA.skip ?_ | refine AWpA.exit ?_ | refine AWpA.ret ?_ | (with_reducible refine ARoundsA.succ ?_) | ((first | refine Runs.kt (by assumption) (fun h9 => ?_) | refine Runs.kf (by assumption) (fun h9 => ?_) | refine Runs.nt (by assumption) (fun h9 => ?_) | refine Runs.nf (by assumption) (fun h9 => ?_) | refine CondP.ht (by assumption) (fun h9 => ?_) | refine CondP.hf (by assumption) (fun h9 => ?_) | refine CondP.nt (by assumption) (fun h9 => ?_) | refine CondP.nf (by assumption) (fun h9 => ?_)); (try simp only [h9]); clear h9) | ((first | (with_reducible apply CallG.plain1 [2] (c2)) | (with_reducible apply CallG.draw1 [2] (c2))); (focus ((try refine And.intro (leAs_of_eq rfl) ?_); (try refine And.intro (leOL_of_eq rfl) ?_); simp (maxSteps := 9999999) (disch := omega) only [go_sem, hr, hu]; first | done | (repeat' (first | rfl | (refine And.intro ?_ ?_))))); (focus (simp (maxSteps := 9999999) (disch := omega) only [go_sem, hr, hu]; rfl)))); (try simp (maxSteps := 9999999) (disch := omega) only [go_sem, hr, hu]); (try (refine And.intro ?_ ?_; (focus (first | omega | (simp only [go_sem]; done) | (simp; done) | (simp; omega) | assumption))))) | ((first | refine CondP.split (fun hif => ?_) (fun hif => ?_) | refine Runs.part (fun hif => ?_) (fun hif => ?_)) <;> ((try simp only [hif]); (try simp only [decide_eq_true_eq, decide_eq_false_iff_not, Bool.not_eq_true, Bool.not_eq_false, Bool.not_eq_true', Bool.not_eq_false', beq_iff_eq, bne_iff_ne, bne_eq_false_iff_eq, beq_eq_false_iff_ne, ne_eq, Bool.and_eq_true, Bool.or_eq_true, Bool.or_eq_false_iff] at hif); (try (have h9 : _ = true := hif; simp only [h9])); (try (have h9 : _ = false := hif; simp only [h9])); (try simp (maxSteps := 9999999) (disch := omega) only [go_sem, hr, hu]); (try (refine And.intro ?_ ?_; (focus (first | omega | (simp only [go_sem]; done) | (simp; done) | (simp; omega) | assumption)))); (try (exfalso; omega; done))))))
    (apply Ret.det [0, 1, 2]; (focus (first | exact .inl rfl | exact .inr rfl)); (focus (simp (maxSteps := 9999999) (disch := omega) only [go_sem, hr, hu]; rfl)); (simp (maxSteps := 9999999) (disch := omega) only [go_sem, hr, hu]; (try (repeat' (first | done | trivial | rfl | exact leAs_rfl _ | decide | (refine And.intro ?_ ?_) | (simp; done) | omega | (simp; decide))))))
  | true =>
    rw [if_neg (by rw [hrs]; decide)] at hc
    rw [hrs] at c2
    generalize strangeI table ups = x at *
    by_cases hx : 0 ≤ x
    · rw [if_pos hx] at hc
      have g1 : (0 ≤ x) = True := eq_true hx
      subst hc
      rw [if_neg (by decide), if_neg (by decide)]
      refine ACall.startA c20_ok Try.func20 rfl Try.ntmps20 (by kernel_rfl) res20_ok rfl rfl rfl ?_; simp (maxSteps := 9999999) (disch := omega) only [go_sem]
      (repeat' (first | refine AWpA.seq ?_ | refine AWpA.block ?_ | (with_reducible refine CondP.tt ?_) | (with_reducible refine CondP.ff ?_) | refine AWpA.condv (by simp (maxSteps := 9999999) (disch := omega) only [go_sem, hr, hu, g1]; rfl) ?_ | ((first | (apply AWpA.region; (focus (simp (maxSteps := 9999999) (disch := omega) only [go_sem, hr, hu, g1]; rfl))) | (apply AWpA.draw [] [] follows; (focus (first | rfl | decide)); (focus (simp (maxSteps := 9999999) (disch := omega) only [go_sem, hr, hu, g1]; rfl)); (focus (simp (maxSteps := 9999999) (disch := omega) only [go_sem, hr, hu, g1]; first | done | trivial)); (focus (simp (maxSteps := 9999999) (disch := omega) only [go_sem, hr, hu, g1]; rfl))) | (apply TailK.go; (focus (simp (maxSteps := 9999999) (disch := omega) only [go_sem, hr, hu, g1]; rfl))) | refine AWpA.skip ?_ | refine AWpA.exit ?_ | refine AWpA.ret ?_ | (with_reducible refine ARoundsA.succ ?_) | ((first | refine Runs.kt (by assumption) (fun h9 => ?_) | refine Runs.kf (by assumption) (fun h9 => ?_) | refine Runs.nt (by assumption) (fun h9 => ?_) | refine Runs.nf (by assumption) (fun h9 => ?_) | refine CondP.ht (by assumption) (fun h9 => ?_) | refine CondP.hf (by assumption) (fun h9 => ?_) | refine CondP.nt (by assumption) (fun h9 => ?_) | refine CondP.nf (by assumption) (fun h9 => ?_)); (try simp only [h9]); clear h9) | ((first | (with_reducible apply CallG.plain1 [2] (c2)) | (with_reducible apply CallG.draw1 [2] (c2))); (focus ((try refine And.intro (leAs_of_eq rfl) ?_); (try refine And.intro (leOL_of_eq rfl) ?_); simp (maxSteps := 9999999) (disch := omega) only [go_sem, hr, hu, g1]; first | done | (repeat' (first | rfl | (refine And.intro ?_ ?_))))); (focus (simp (maxSteps := 9999999) (disch := omega) only [go_sem, hr, hu, g1]; rfl))) | ((first | (with_reducible apply CallG.plain1 [2, 0] (c3)) | (with_reducible apply CallG.draw1 [2, 0] (c3))); (focus ((try refine And.intro (leAs_of_eq rfl) ?_); (try refine And.intro (leOL_of_eq rfl) ?_); simp (maxSteps := 9999999) (disch := omega) only [go_sem, hr, hu, g1]; first | done | (repeat' (first | rfl | (refine And.intro ?_ ?_))))); (focus (simp (maxSteps := 9999999) (disch := omega) only [go_sem, hr, hu, g1]; rfl)))); (try simp (maxSteps := 9999999) (disch := omega) only [go_sem, hr, hu, g1]); (try (refine And.intro ?_ ?_; (focus (first | omega | (simp only [go_sem]; done) | (simp; done) | (simp; omega) | assumption))))) | ((first | refine CondP.split (fun hif => ?_) (fun hif => ?_) | refine Runs.part (fun hif => ?_) (fun hif => ?_)) <;> ((try simp only [hif]); (try simp only [decide_eq_true_eq, decide_eq_false_iff_not, Bool.not_eq_true, Bool.not_eq_false, Bool.not_eq_true', Bool.not_eq_false', beq_iff_eq, bne_iff_ne, bne_eq_false_iff_eq, beq_eq_false_iff_ne, ne_eq, Bool.and_eq_true, Bool.or_eq_true, Bool.or_eq_false_iff] at hif); (try (have h9 : _ = true := hif; simp only [h9])); (try (have h9 : _ = false := hif; simp only [h9])); (try simp (maxSteps := 9999999) (disch := omega) only [go_sem, hr, hu, g1]); (try (refine And.intro ?_ ?_; (focus (first | omega | (simp only [go_sem]; done) | (simp; done) | (simp; omega) | assumption)))); (try (exfalso; omega; done))))))
      (apply Ret.det [0, 1, 2]; (focus (first | exact .inl rfl | exact .inr rfl)); (focus (simp (maxSteps := 9999999) (disch := omega) only [go_sem, hr, hu]; rfl)); (simp (maxSteps := 9999999) (disch := omega) only [go_sem, hr, hu]; (try (repeat' (first | done | trivial | rfl | exact leAs_rfl _ | decide | (refine And.intro ?_ ?_) | (simp; done) | omega | (simp; decide))))))
    · rw [if_neg hx] at hc
      have g1 : (0 ≤ x) = False := eq_false hx
      generalize shortI table site ups = y at *
      by_cases hy : 0 ≤ y
      · rw [if_pos hy] at hc
        have g2 : (0 ≤ y) = True := eq_true hy
        subst hc
        rw [if_neg (by decide), if_neg (by decide)]
        refine ACall.startA c20_ok Try.func20 rfl Try.ntmps20 (by kernel_rfl) res20_ok rfl rfl rfl ?_; simp (maxSteps := 9999999) (disch := omega) only [go_sem]
        (repeat' (first | refine AWpA.seq ?_ | refine AWpA.block ?_ | (with_reducible refine CondP.tt ?_) | (with_reducible refine CondP.ff ?_) | refine AWpA.condv (by simp (maxSteps := 9999999) (disch := omega) only [go_sem, hr, hu, g1, g2]; rfl) ?_ | ((first | (apply AWpA.region; (focus (simp (maxSteps := 9999999) (disch := omega) only [go_sem, hr, hu, g1, g2]; rfl))) | (apply AWpA.draw [] [] follows; (focus (first | rfl | decide)); (focus (simp (maxSteps := 9999999) (disch := omega) only [go_sem, hr, hu, g1, g2]; rfl)); (focus (simp (maxSteps := 9999999) (disch := omega) only [go_sem, hr, hu, g1, g2]; first | done | trivial)); (focus (simp (maxSteps := 9999999) (disch := omega) only [go_sem, hr, hu, g1, g2]; rfl))) | (apply TailK.go; (focus (simp (maxSteps := 9999999) (disch := omega) only [go_sem, hr, hu, g1, g2]; rfl))) | refine AWpA.skip ?_ | refine AWpA.exit ?_ | refine AWpA.ret ?_ | (with_reducible refine ARoundsA.succ ?_) | ((first | refine Runs.kt (by assumption) (fun h9 => ?_) | refine Runs.kf (by assumption) (fun h9 => ?_) | refine Runs.nt (by assumption) (fun h9 => ?_) | refine Runs.nf (by assumption) (fun h9 => ?_) | refine CondP.ht (by assumption) (fun h9 => ?_) | refine CondP.hf (by assumption) (fun h9 => ?_) | refine CondP.nt (by assumption) (fun h9 => ?_) | refine CondP.nf (by assumption) (fun h9 => ?_)); (try simp only [h9]); clear h9) | ((first | (with_reducible apply CallG.plain1 [2] (c2)) | (with_reducible apply CallG.draw1 [2] (c2))); (focus ((try refine And.intro (leAs_of_eq rfl) ?_); (try refine And.intro (leOL_of_eq rfl) ?_); simp (maxSteps := 9999999) (disch := omega) only [go_sem, hr, hu, g1, g2]; first | done | (repeat' (first | rfl | (refine And.intro ?_ ?_))))); (focus (simp (maxSteps := 9999999) (disch := omega) only [go_sem, hr, hu, g1, g2]; rfl))) | ((first | (with_reducible apply CallG.plain1 [2, 0] (c3)) | (with_reducible apply CallG.draw1 [2, 0] (c3))); (focus ((try refine And.intro (leAs_of_eq rfl) ?_); (try refine And.intro (leOL_of_eq rfl) ?_); simp (maxSteps := 9999999) (disch := omega) only [go_sem, hr, hu, g1, g2]; first | done | (repeat' (first | rfl | (refine And.intro ?_ ?_))))); (focus (simp (maxSteps := 9999999) (disch := omega) only [go_sem, hr, hu, g1, g2]; rfl))) | ((first | (with_reducible apply CallG.plain1 [2, 0] (c4)) | (with_reducible apply CallG.draw1 [2, 0] (c4))); (focus ((try refine And.intro (leAs_of_eq rfl) ?_); (try refine And.intro (leOL_of_eq rfl) ?_); simp (maxSteps := 9999999) (disch := omega) only [go_sem, hr, hu, g1, g2]; first | done | (repeat' (first | rfl | (refine And.intro ?_ ?_))))); (focus (simp (maxSteps := 9999999) (disch := omega) only [go_sem, hr, hu, g1, g2]; rfl)))); (try simp (maxSteps := 9999999) (disch := omega) only [go_sem, hr, hu, g1, g2]); (try (refine And.intro ?_ ?_; (focus (first | omega | (simp only [go_sem]; done) | (simp; done) | (simp; omega) | assumption))))) | ((first | refine CondP.split (fun hif => ?_) (fun hif => ?_) | refine Runs.part (fun hif => ?_) (fun hif => ?_)) <;> ((try simp only [hif]); (try simp only [decide_eq_true_eq, decide_eq_false_iff_not, Bool.not_eq_true, Bool.not_eq_false, Bool.not_eq_true', Bool.not_eq_false', beq_iff_eq, bne_iff_ne, bne_eq_false_iff_eq, beq_eq_false_iff_ne, ne_eq, Bool.and_eq_true, Bool.or_eq_true, Bool.or_eq_false_iff] at hif); (try (have h9 : _ = true := hif; simp only [h9])); (try (have h9 : _ = false := hif; simp only [h9])); (try simp (maxSteps := 9999999) (disch := omega) only [go_sem, hr, hu, g1, g2]); (try (refine And.intro ?_ ?_; (focus (first | omega | (simp only [go_sem]; done) | (simp; done) | (simp; omega) | assumption)))); (try (exfalso; omega; done))))))
        (apply Ret.det [0, 1, 2]; (focus (first | exact .inl rfl | exact .inr rfl)); (focus (simp (maxSteps := 9999999) (disch := omega) only [go_sem, hr, hu]; rfl)); (simp (maxSteps := 9999999) (disch := omega) only [go_sem, hr, hu]; (try (repeat' (first | done | trivial | rfl | exact leAs_rfl _ | decide | (refine And.intro ?_ ?_) | (simp; done) | omega | (simp; decide))))))
      · rw [if_neg hy] at hc
        have g2 : (0 ≤ y) = False := eq_false hy
        by_cases hf : fellI last table = -1
        · rw [if_pos hf] at hc
          obtain rfl := hb.2 hf
          subst hc
          rw [if_pos rfl, if_pos rfl]
          clear hb
          refine ACall.startA c20_ok Try.func20 rfl Try.ntmps20 (by kernel_rfl) res20_ok rfl rfl rfl ?_; simp (maxSteps := 9999999) (disch := omega) only [go_sem]
          (repeat' (first | refine AWpA.seq ?_ | refine AWpA.block ?_ | (with_reducible refine CondP.tt ?_) | (with_reducible refine CondP.ff ?_) | refine AWpA.condv (by simp (maxSteps := 9999999) (disch := omega) only [go_sem, hr, hu, g1, g2]; rfl) ?_ | ((first | (apply AWpA.region; (focus (simp (maxSteps := 9999999) (disch := omega) only [go_sem, hr, hu, g1, g2]; rfl))) | (apply AWpA.draw [] [] follows; (focus (first | rfl | decide)); (focus (simp (maxSteps := 9999999) (disch := omega) only [go_sem, hr, hu, g1, g2]; rfl)); (focus (simp (maxSteps := 9999999) (disch := omega) only [go_sem, hr, hu, g1, g2]; first | done | trivial)); (focus (simp (maxSteps := 9999999) (disch := omega) only [go_sem, hr, hu, g1, g2]; rfl))) | (apply TailK.go; (focus (simp (maxSteps := 9999999) (disch := omega) only [go_sem, hr, hu, g1, g2]; rfl))) | refine AWpA.skip ?_ | refine AWpA.exit ?_ | refine AWpA.ret ?_ | (with_reducible refine ARoundsA.succ ?_) | ((first | refine Runs.kt (by assumption) (fun h9 => ?_) | refine Runs.kf (by assumption) (fun h9 => ?_) | refine Runs.nt (by assumption) (fun h9 => ?_) | refine Runs.nf (by assumption) (fun h9 => ?_) | refine CondP.ht (by assumption) (fun h9 => ?_) | refine CondP.hf (by assumption) (fun h9 => ?_) | refine CondP.nt (by assumption) (fun h9 => ?_) | refine CondP.nf (by assumption) (fun h9 => ?_)); (try simp only [h9]); clear h9) | ((first | (with_reducible apply CallG.plain1 [2] (c2)) | (with_reducible apply CallG.draw1 [2] (c2))); (focus ((try refine And.intro (leAs_of_eq rfl) ?_); (try refine And.intro (leOL_of_eq rfl) ?_); simp (maxSteps := 9999999) (disch := omega) only [go_sem, hr, hu, g1, g2]; first | done | (repeat' (first | rfl | (refine And.intro ?_ ?_))))); (focus (simp (maxSteps := 9999999) (disch := omega) only [go_sem, hr, hu, g1, g2]; rfl))) | ((first | (with_reducible apply CallG.plain1 [2, 0] (c3)) | (with_reducible apply CallG.draw1 [2, 0] (c3))); (focus ((try refine And.intro (leAs_of_eq rfl) ?_); (try refine And.intro (leOL_of_eq rfl) ?_); simp (maxSteps := 9999999) (disch := omega) only [go_sem, hr, hu, g1, g2]; first | done | (repeat' (first | rfl | (refine And.intro ?_ ?_))))); (focus (simp (maxSteps := 9999999) (disch := omega) only [go_sem, hr, hu, g1, g2]; rfl))) | ((first | (with_reducible apply CallG.plain1 [2, 0] (c4)) | (with_reducible apply CallG.draw1 [2, 0] (c4))); (focus ((try refine And.intro (leAs_of_eq rfl) ?_); (try refine And.intro (leOL_of_eq rfl) ?_); simp (maxSteps := 9999999) (disch := omega) only [go_sem, hr, hu, g1, g2]; first | done | (repeat' (first | rfl | (refine And.intro ?_ ?_))))); (focus (simp (maxSteps := 9999999) (disch := omega) only [go_sem, hr, hu, g1, g2]; rfl))) | ((first | (with_reducible apply CallG.plain1 [1, 2] (c1)) | (with_reducible apply CallG.draw1 [1, 2] (c1))); (focus ((try refine And.intro (leAs_of_eq rfl) ?_); (try refine And.intro (leOL_of_eq rfl) ?_); simp (maxSteps := 9999999) (disch := omega) only [go_sem, hr, hu, g1, g2]; first | done | (repeat' (first | rfl | (refine And.intro ?_ ?_))))); (focus (simp (maxSteps := 9999999) (disch := omega) only [go_sem, hr, hu, g1, g2]; rfl)))); (try simp (maxSteps := 9999999) (disch := omega) only [go_sem, hr, hu, g1, g2]); (try (refine And.intro ?_ ?_; (focus (first | omega | (simp only [go_sem]; done) | (simp; done) | (simp; omega) | assumption))))) | ((first | refine CondP.split (fun hif => ?_) (fun hif => ?_) | refine Runs.part (fun hif => ?_) (fun hif => ?_)) <;> ((try simp only [hif]); (try simp only [decide_eq_true_eq, decide_eq_false_iff_not, Bool.not_eq_true, Bool.not_eq_false, Bool.not_eq_true', Bool.not_eq_false', beq_iff_eq, bne_iff_ne, bne_eq_false_iff_eq, beq_eq_false_iff_ne, ne_eq, Bool.and_eq_true, Bool.or_eq_true, Bool.or_eq_false_iff] at hif); (try (have h9 : _ = true := hif; simp only [h9])); (try (have h9 : _ = false := hif; simp only [h9])); (try simp (maxSteps := 9999999) (disch := omega) only [go_sem, hr, hu, g1, g2]); (try (refine And.intro ?_ ?_; (focus (first | omega | (simp only [go_sem]; done) | (simp; done) | (simp; omega) | assumption)))); (try (exfalso; omega; done))))))
          (apply Ret.det [0, 1, 2]; (focus (first | exact .inl rfl | exact .inr rfl)); (focus (simp (maxSteps := 9999999) (disch := omega) only [go_sem, hr, hu]; rfl)); (simp (maxSteps := 9999999) (disch := omega) only [go_sem, hr, hu]; (try (repeat' (first | done | trivial | rfl | exact leAs_rfl _ | decide | (refine And.intro ?_ ?_) | (simp; done) | omega | (simp; decide))))))
        · rw [if_neg hf] at hc
          obtain rfl : b = true := by cases b with
            | true => rfl
            | false => exact absurd (hb.1 rfl) hf
          subst hc
          rw [if_neg (by decide), if_neg (by decide)]
          clear hb
          refine ACall.startA c20_ok Try.func20 rfl Try.ntmps20 (by kernel_rfl) res20_ok rfl rfl rfl ?_; simp (maxSteps := 9999999) (disch := omega) only [go_sem]
          (repeat' (first | refine AWpA.seq ?_ | refine AWpA.block ?_ | (with_reducible refine CondP.tt ?_) | (with_reducible refine CondP.ff ?_) | refine AWpA.condv (by simp (maxSteps := 9999999) (disch := omega) only [go_sem, hr, hu, g1, g2]; rfl) ?_ | ((first | (apply AWpA.region; (focus (simp (maxSteps := 9999999) (disch := omega) only [go_sem, hr, hu, g1, g2]; rfl))) | (apply AWpA.draw [] [] follows; (focus (first | rfl | decide)); (focus (simp (maxSteps := 9999999) (disch := omega) only [go_sem, hr, hu, g1, g2]; rfl)); (focus (simp (maxSteps := 9999999) (disch := omega) only [go_sem, hr, hu, g1, g2]; first | done | trivial)); (focus (simp (maxSteps := 9999999) (disch := omega) only [go_sem, hr, hu, g1, g2]; rfl))) | (apply TailK.go; (focus (simp (maxSteps := 9999999) (disch := omega) only [go_sem, hr, hu, g1, g2]; rfl))) | refine AWpA.skip ?_ | refine AWpA.exit ?_ | refine AWpA.ret ?_ | (with_reducible refine ARoundsA.succ ?_) | ((first | refine Runs.kt (by assumption) (fun h9 => ?_) | refine Runs.kf (by assumption) (fun h9 => ?_) | refine Runs.nt (by assumption) (fun h9 => ?_) | refine Runs.nf (by assumption) (fun h9 => ?_) | refine CondP.ht (by assumption) (fun h9 => ?_) | refine CondP.hf (by assumption) (fun h9 => ?_) | refine CondP.nt (by assumption) (fun h9 => ?_) | refine CondP.nf (by assumption) (fun h9 => ?_)); (try simp only [h9]); clear h9) | ((first | (with_reducible apply CallG.plain1 [2] (c2)) | (with_reducible apply CallG.draw1 [2] (c2))); (focus ((try refine And.intro (leAs_of_eq rfl) ?_); (try refine And.intro (leOL_of_eq rfl) ?_); simp (maxSteps := 9999999) (disch := omega) only [go_sem, hr, hu, g1, g2]; first | done | (repeat' (first | rfl | (refine And.intro ?_ ?_))))); (focus (simp (maxSteps := 9999999) (disch := omega) only [go_sem, hr, hu, g1, g2]; rfl))) | ((first | (with_reducible apply CallG.plain1 [2, 0] (c3)) | (with_reducible apply CallG.draw1 [2, 0] (c3))); (focus ((try refine And.intro (leAs_of_eq rfl) ?_); (try refine And.intro (leOL_of_eq rfl) ?_); simp (maxSteps := 9999999) (disch := omega) only [go_sem, hr, hu, g1, g2]; first | done | (repeat' (first | rfl | (refine And.intro ?_ ?_))))); (focus (simp (maxSteps := 9999999) (disch := omega) only [go_sem, hr, hu, g1, g2]; rfl))) | ((first | (with_reducible apply CallG.plain1 [2, 0] (c4)) | (with_reducible apply CallG.draw1 [2, 0] (c4))); (focus ((try refine And.intro (leAs_of_eq rfl) ?_); (try refine And.intro (leOL_of_eq rfl) ?_); simp (maxSteps := 9999999) (disch := omega) only [go_sem, hr, hu, g1, g2]; first | done | (repeat' (first | rfl | (refine And.intro ?_ ?_))))); (focus (simp (maxSteps := 9999999) (disch := omega) only [go_sem, hr, hu, g1, g2]; rfl))) | ((first | (with_reducible apply CallG.plain1 [1, 2] (c1)) | (with_reducible apply CallG.draw1 [1, 2] (c1))); (focus ((try refine And.intro (leAs_of_eq rfl) ?_); (try refine And.intro (leOL_of_eq rfl) ?_); simp (maxSteps := 9999999) (disch := omega) only [go_sem, hr, hu, g1, g2]; first | done | (repeat' (first | rfl | (refine And.intro ?_ ?_))))); (focus (simp (maxSteps := 9999999) (disch := omega) only [go_sem, hr, hu, g1, g2]; rfl)))); (try simp (maxSteps := 9999999) (disch := omega) only [go_sem, hr, hu, g1, g2]); (try (refine And.intro ?_ ?_; (focus (first | omega | (simp only [go_sem]; done) | (simp; done) | (simp; omega) | assumption))))) | ((first | refine CondP.split (fun hif => ?_) (fun hif => ?_) | refine Runs.part (fun hif => ?_) (fun hif => ?_)) <;> ((try simp only [hif]); (try simp only [decide_eq_true_eq, decide_eq_false_iff_not, Bool.not_eq_true, Bool.not_eq_false, Bool.not_eq_true', Bool.not_eq_false', beq_iff_eq, bne_iff_ne, bne_eq_false_iff_eq, beq_eq_false_iff_ne, ne_eq, Bool.and_eq_true, Bool.or_eq_true, Bool.or_eq_false_iff] at hif); (try (have h9 : _ = true := hif; simp only [h9])); (try (have h9 : _ = false := hif; simp only [h9])); (try simp (maxSteps := 9999999) (disch := omega) only [go_sem, hr, hu, g1, g2]); (try (refine And.intro ?_ ?_; (focus (first | omega | (simp only [go_sem]; done) | (simp; done) | (simp; omega) | assumption)))); (try (exfalso; omega; done))))))
          (apply Ret.det [0, 1, 2]; (focus (first | exact .inl rfl | exact .inr rfl)); (focus (simp (maxSteps := 9999999) (disch := omega) only [go_sem, hr, hu]; rfl)); (simp (maxSteps := 9999999) (disch := omega) only [go_sem, hr, hu]; (try (repeat' (first | done | trivial | rfl | exact leAs_rfl _ | decide | (refine And.intro ?_ ?_) | (simp; done) | omega | (simp; decide))))))
end Go.Proofs.Ytbblpmkdhdnkhaa
