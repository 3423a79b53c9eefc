/- Contracts: graves: kept by whom; both of one delete; buried; over an entry. -/
import Derived.Test.YtgjimlgofakbpaaGa4
import Derived.Test.YtgjimlgofakbpaaAc10
import Derived.Test.YtgjimlgofakbpaaBw1
namespace Go.Proofs.Ytgjimlgofakbpaa
set_option linter.unusedSimpArgs false
set_option linter.unusedVariables false
set_option maxHeartbeats 4000000
open Go Go.Am Go.RowKit
set_option maxRecDepth 100000
/- quidnunc/entry.Duty -/
noncomputable def c66_1 : ACode := .region false [⟨some 2, .box 0, [.t 0], none⟩,
  ⟨some 4, .move, [.c (.val (.bool false))], none⟩] [] [] [1, 2] true [] []
noncomputable def c66_3 : ACode := .region false [⟨some 5, .addr 2, [.t 2], none⟩,
  ⟨some 6, .load false 1, [.t 5], none⟩,
  ⟨some 7, .move, [.t 6], none⟩,
  ⟨some 8, .move, [.t 1], some (some 7, true)⟩,
  ⟨some 9, .bin .geq, [.t 8, .c (.val (.int .i64 0))], some (some 7, true)⟩,
  ⟨some 10, .pick, [.t 7, .t 9, .c (.val (.bool false))], none⟩,
  ⟨some 11, .move, [.t 10], none⟩,
  ⟨some 12, .move, [.t 1], some (some 11, true)⟩,
  ⟨some 13, .bin .lss, [.t 12, .c (.val (.int .i64 12))], some (some 11, true)⟩,
  ⟨some 14, .pick, [.t 11, .t 13, .c (.val (.bool false))], none⟩,
  ⟨some 15, .move, [.t 14], none⟩,
  ⟨some 16, .addr 7, [.t 2], some (some 15, true)⟩,
  ⟨some 17, .load false 1, [.t 16], some (some 15, true)⟩,
  ⟨some 18, .move, [.t 1], some (some 15, true)⟩,
  ⟨some 19, .bin .shr, [.t 17, .t 18], some (some 15, true)⟩,
  ⟨some 20, .bin .and, [.t 19, .c (.val (.int .i64 1))], some (some 15, true)⟩,
  ⟨some 21, .bin .eql, [.t 20, .c (.val (.int .i64 1))], some (some 15, true)⟩,
  ⟨some 22, .pick, [.t 15, .t 21, .c (.val (.bool false))], none⟩,
  ⟨some 4, .move, [.t 22], none⟩] [] [] [4] false [] []
noncomputable def c66_2 : ACode := .seq c66_3 .ret
noncomputable def c66_0 : ACode := .seq c66_1 c66_2
noncomputable def code66 : Code := (Try.f66.body).getD .skip
theorem c66_ok : compC Try.prog 23 code66 = some (strip c66_0) := by kernel_rfl
theorem res66_ok : Try.f66.results.toList.mapM (resC Try.prog) = some [(4, none)] := by kernel_rfl
/- quidnunc/quidnuncref05.Duty -/
noncomputable def c39_1 : ACode := .region false [⟨some 2, .box 0, [.t 0], none⟩,
  ⟨some 4, .move, [.c (.val (.bool false))], none⟩] [] [] [1, 2] true [] []
noncomputable def c39_3 : ACode := .region false [⟨some 5, .addr 2, [.t 2], none⟩,
  ⟨some 6, .load false 1, [.t 5], none⟩,
  ⟨some 7, .move, [.t 6], none⟩,
  ⟨some 8, .move, [.t 1], some (some 7, true)⟩,
  ⟨some 9, .call 69, [.t 8], some (some 7, true)⟩,
  ⟨some 10, .pick, [.t 7, .t 9, .c (.val (.bool false))], none⟩,
  ⟨some 11, .move, [.t 10], none⟩,
  ⟨some 12, .addr 7, [.t 2], some (some 11, true)⟩,
  ⟨some 13, .load false 1, [.t 12], some (some 11, true)⟩,
  ⟨some 14, .bin .gtr, [.t 13, .c (.val (.int .i64 0))], some (some 11, true)⟩,
  ⟨some 15, .pick, [.t 11, .t 14, .c (.val (.bool false))], none⟩,
  ⟨some 16, .move, [.t 15], none⟩,
  ⟨some 17, .addr 7, [.t 2], some (some 16, true)⟩,
  ⟨some 18, .load false 1, [.t 17], some (some 16, true)⟩,
  ⟨some 19, .move, [.t 1], some (some 16, true)⟩,
  ⟨some 20, .call 70, [.t 18, .t 19], some (some 16, true)⟩,
  ⟨some 21, .pick, [.t 16, .t 20, .c (.val (.bool false))], none⟩,
  ⟨some 4, .move, [.t 21], none⟩] [] [] [4] true [] []
noncomputable def c39_2 : ACode := .seq c39_3 .ret
noncomputable def c39_0 : ACode := .seq c39_1 c39_2
noncomputable def code39 : Code := (Try.f39.body).getD .skip
theorem c39_ok : compC Try.prog 22 code39 = some (strip c39_0) := by kernel_rfl
theorem res39_ok : Try.f39.results.toList.mapM (resC Try.prog) = some [(4, none)] := by kernel_rfl
/- quidnunc/quidnuncref05.Bit -/
noncomputable def c70_1 : ACode := .region false [⟨some 4, .move, [.c (.val (.bool false))], none⟩] [] [] [0, 1] false [] []
noncomputable def c70_4 : ACode := .region false [⟨some 5, .move, [.c (.val (.int .i64 0))], none⟩] [] [] [0, 1, 5] false [] []
noncomputable def c70_9 : ACode := .region false [⟨some 6, .move, [.t 5], none⟩,
  ⟨some 7, .move, [.t 1], none⟩,
  ⟨some 8, .bin .lss, [.t 6, .t 7], none⟩] [] [] [0, 1, 5, 8] false [] []
noncomputable def c70_10 : ACode := .cond (.t 8) .skip (.exit 0)
noncomputable def c70_8 : ACode := .seq c70_9 c70_10
noncomputable def c70_13 : ACode := .region false [⟨some 11, .move, [.t 0], none⟩,
  ⟨some 12, .bin .quo, [.t 11, .c (.val (.int .i64 2))], none⟩,
  ⟨some 0, .move, [.t 12], none⟩] [] [] [0, 1, 5] false [] []
noncomputable def c70_12 : ACode := .block 1 c70_13
noncomputable def c70_14 : ACode := .region false [⟨some 9, .move, [.t 5], none⟩,
  ⟨some 10, .bin .add, [.t 9, .c (.val (.int .i64 1))], none⟩,
  ⟨some 5, .move, [.t 10], none⟩] [] [] [0, 1, 5] false [] []
noncomputable def c70_11 : ACode := .seq c70_12 c70_14
noncomputable def c70_7 : ACode := .seq c70_8 c70_11
noncomputable def c70_6 : ACode := .loop c70_7
noncomputable def c70_5 : ACode := .block 0 c70_6
noncomputable def c70_3 : ACode := .seq c70_4 c70_5
noncomputable def c70_16 : ACode := .region false [⟨some 13, .move, [.t 0], none⟩,
  ⟨some 14, .bin .rem, [.t 13, .c (.val (.int .i64 2))], none⟩,
  ⟨some 15, .bin .eql, [.t 14, .c (.val (.int .i64 1))], none⟩,
  ⟨some 4, .move, [.t 15], none⟩] [] [] [4] false [] []
noncomputable def c70_15 : ACode := .seq c70_16 .ret
noncomputable def c70_2 : ACode := .seq c70_3 c70_15
noncomputable def c70_0 : ACode := .seq c70_1 c70_2
noncomputable def code70 : Code := (Try.f70.body).getD .skip
theorem c70_ok : compC Try.prog 16 code70 = some (strip c70_0) := by kernel_rfl
theorem res70_ok : Try.f70.results.toList.mapM (resC Try.prog) = some [(4, none)] := by kernel_rfl
/- slices.MaxFunc[[]quidnunc/api.Stamp,quidnunc/api.Stamp] -/
noncomputable def c93_1 : ACode := .region false [⟨some 4, .alloc [(.int .i64 0), (.int .i64 0)], [], none⟩] [] [] [0, 1, 4] true [] []
noncomputable def c93_4 : ACode := .region false [⟨some 7, .move, [.t 0], none⟩,
  ⟨some 8, .len, [.t 7], none⟩,
  ⟨some 9, .bin .lss, [.t 8, .c (.val (.int .i64 1))], none⟩] [] [] [0, 1, 4, 9] false [] []
noncomputable def c93_6 : ACode := .region false [⟨some 10, .other, [], none⟩,
  ⟨none, .other, [], none⟩] [] [] [0, 1, 4] false [] []
noncomputable def c93_5 : ACode := .cond (.t 9) c93_6 .skip
noncomputable def c93_3 : ACode := .seq c93_4 c93_5
noncomputable def c93_8 : ACode := .region false [⟨some 11, .move, [.t 0], none⟩,
  ⟨some 12, .ixS 2, [.t 11, .c (.val (.int .i64 0))], none⟩,
  ⟨some 13, .load true 2, [.t 12], none⟩,
  ⟨some 5, .alloc [(.int .i64 0), (.int .i64 0)], [], none⟩,
  ⟨none, .store 2, [.t 5, .t 13], none⟩] [] [] [0, 1, 4, 5] true [] []
noncomputable def c93_11 : ACode := .region false [⟨some 6, .move, [.c (.val (.int .i64 1))], none⟩] [] [] [0, 1, 4, 5, 6] false [] []
noncomputable def c93_16 : ACode := .region false [⟨some 14, .move, [.t 6], none⟩,
  ⟨some 15, .move, [.t 0], none⟩,
  ⟨some 16, .len, [.t 15], none⟩,
  ⟨some 17, .bin .lss, [.t 14, .t 16], none⟩] [] [] [0, 1, 4, 5, 6, 17] false [] []
noncomputable def c93_17 : ACode := .cond (.t 17) .skip (.exit 0)
noncomputable def c93_15 : ACode := .seq c93_16 c93_17
noncomputable def c93_21 : ACode := .region true [⟨some 20, .move, [.t 1], none⟩,
  ⟨some 21, .move, [.t 0], none⟩,
  ⟨some 22, .move, [.t 6], none⟩,
  ⟨some 23, .ixS 2, [.t 21, .t 22], none⟩,
  ⟨some 24, .load true 2, [.t 23], none⟩,
  ⟨some 25, .load true 2, [.t 5], none⟩,
  ⟨some 26, .callv, [.t 20, .t 24, .t 25], none⟩,
  ⟨some 27, .bin .gtr, [.t 26, .c (.val (.int .i64 0))], none⟩] [] [] [0, 1, 4, 5, 6, 27] true [] []
noncomputable def c93_23 : ACode := .region false [⟨some 28, .move, [.t 0], none⟩,
  ⟨some 29, .move, [.t 6], none⟩,
  ⟨some 30, .ixS 2, [.t 28, .t 29], none⟩,
  ⟨some 31, .load true 2, [.t 30], none⟩,
  ⟨none, .store 2, [.t 5, .t 31], none⟩] [] [] [0, 1, 4, 5, 6] true [] []
noncomputable def c93_22 : ACode := .cond (.t 27) c93_23 .skip
noncomputable def c93_20 : ACode := .seq c93_21 c93_22
noncomputable def c93_19 : ACode := .block 1 c93_20
noncomputable def c93_24 : ACode := .region false [⟨some 18, .move, [.t 6], none⟩,
  ⟨some 19, .bin .add, [.t 18, .c (.val (.int .i64 1))], none⟩,
  ⟨some 6, .move, [.t 19], none⟩] [] [] [0, 1, 4, 5, 6] false [] []
noncomputable def c93_18 : ACode := .seq c93_19 c93_24
noncomputable def c93_14 : ACode := .seq c93_15 c93_18
noncomputable def c93_13 : ACode := .loop c93_14
noncomputable def c93_12 : ACode := .block 0 c93_13
noncomputable def c93_10 : ACode := .seq c93_11 c93_12
noncomputable def c93_26 : ACode := .region false [⟨some 32, .load true 2, [.t 5], none⟩,
  ⟨none, .store 2, [.t 4, .t 32], none⟩] [] [] [4] true [] []
noncomputable def c93_25 : ACode := .seq c93_26 .ret
noncomputable def c93_9 : ACode := .seq c93_10 c93_25
noncomputable def c93_7 : ACode := .seq c93_8 c93_9
noncomputable def c93_2 : ACode := .seq c93_3 c93_7
noncomputable def c93_0 : ACode := .seq c93_1 c93_2
noncomputable def code93 : Code := (Try.f93.body).getD .skip
theorem c93_ok : compC Try.prog 33 code93 = some (strip c93_0) := by kernel_rfl
theorem res93_ok : Try.f93.results.toList.mapM (resC Try.prog) = some [(4, some (true, 2))] := by kernel_rfl
/- quidnunc/stamp.Latest -/
noncomputable def c85_1 : ACode := .region false [⟨some 2, .alloc [(.int .i64 0), (.int .i64 0)], [], none⟩] [] [] [0, 2] true [] []
noncomputable def c85_4 : ACode := .region false [⟨some 3, .move, [.t 0], none⟩,
  ⟨some 4, .len, [.t 3], none⟩,
  ⟨some 5, .bin .eql, [.t 4, .c (.val (.int .i64 0))], none⟩] [] [] [0, 2, 5] false [] []
noncomputable def c85_7 : ACode := .region false [⟨some 6, .build [(.int .i64 0), (.int .i64 0)] [], [], none⟩,
  ⟨none, .store 2, [.t 2, .t 6], none⟩] [] [] [2] true [] []
noncomputable def c85_6 : ACode := .seq c85_7 .ret
noncomputable def c85_5 : ACode := .cond (.t 5) c85_6 .skip
noncomputable def c85_3 : ACode := .seq c85_4 c85_5
noncomputable def c85_9 : ACode := .region false [⟨some 7, .move, [.t 0], none⟩,
  ⟨some 8, .call 93, [.t 7, .c (.fn 54 [] [])], none⟩,
  ⟨none, .store 2, [.t 2, .t 8], none⟩] [] [] [2] true [] []
noncomputable def c85_8 : ACode := .seq c85_9 .ret
noncomputable def c85_2 : ACode := .seq c85_3 c85_8
noncomputable def c85_0 : ACode := .seq c85_1 c85_2
noncomputable def code85 : Code := (Try.f85.body).getD .skip
theorem c85_ok : compC Try.prog 9 code85 = some (strip c85_0) := by kernel_rfl
theorem res85_ok : Try.f85.results.toList.mapM (resC Try.prog) = some [(2, some (true, 2))] := by kernel_rfl
/- quidnunc/graves.both -/
noncomputable def c67_1 : ACode := .region false [⟨some 2, .box 0, [.t 0], none⟩,
  ⟨some 3, .box 0, [.t 1], none⟩,
  ⟨some 4, .alloc [(.string ⟨#[]⟩), (.string ⟨#[]⟩), (.bool false), (.int .i64 0), (.int .i64 0), (.int .i64 0), (.int .i64 0), (.int .i64 0), (.int .i64 0)], [], none⟩] [] [] [2, 3, 4] true [] []
noncomputable def c67_3 : ACode := .region false [⟨some 5, .addr 5, [.t 2], none⟩,
  ⟨some 6, .load true 2, [.t 5], none⟩,
  ⟨some 7, .addr 5, [.t 3], none⟩,
  ⟨some 8, .load true 2, [.t 7], none⟩,
  ⟨some 9, .buildSl 2 2 [(.int .i64 0), (.int .i64 0)] [(0, 2), (2, 2)], [.t 6, .t 8], none⟩,
  ⟨some 10, .call 85, [.t 9], none⟩,
  ⟨some 11, .addr 5, [.t 2], none⟩,
  ⟨none, .store 2, [.t 11, .t 10], none⟩] [] [] [2, 3, 4] true [] []
noncomputable def c67_5 : ACode := .region false [⟨some 12, .addr 8, [.t 2], none⟩,
  ⟨some 13, .load false 1, [.t 12], none⟩,
  ⟨some 14, .addr 8, [.t 3], none⟩,
  ⟨some 15, .load false 1, [.t 14], none⟩,
  ⟨some 16, .min, [.t 13, .t 15], none⟩,
  ⟨some 17, .addr 8, [.t 2], none⟩,
  ⟨none, .store 1, [.t 17, .t 16], none⟩] [] [] [2, 4] true [] []
noncomputable def c67_7 : ACode := .region false [⟨some 18, .load true 9, [.t 2], none⟩,
  ⟨none, .store 9, [.t 4, .t 18], none⟩] [] [] [4] true [] []
noncomputable def c67_6 : ACode := .seq c67_7 .ret
noncomputable def c67_4 : ACode := .seq c67_5 c67_6
noncomputable def c67_2 : ACode := .seq c67_3 c67_4
noncomputable def c67_0 : ACode := .seq c67_1 c67_2
noncomputable def code67 : Code := (Try.f67.body).getD .skip
theorem c67_ok : compC Try.prog 19 code67 = some (strip c67_0) := by kernel_rfl
theorem res67_ok : Try.f67.results.toList.mapM (resC Try.prog) = some [(4, some (true, 9))] := by kernel_rfl
/- quidnunc/graves.New -/
noncomputable def c32_1 : ACode := .region false [⟨some 4, .move, [.c (.val (.pointer none))], none⟩,
  ⟨some 5, .move, [.c (.val (.int .i64 0))], none⟩] [] [] [0, 1] false [] []
noncomputable def c32_5 : ACode := .region false [⟨some 9, .move, [.t 0], none⟩,
  ⟨some 10, .bin .lss, [.t 9, .c (.val (.int .i64 0))], none⟩,
  ⟨some 11, .move, [.t 10], none⟩,
  ⟨some 12, .move, [.t 0], some (some 11, false)⟩,
  ⟨some 13, .bin .geq, [.t 12, .c (.val (.int .i64 12))], some (some 11, false)⟩,
  ⟨some 14, .pick, [.t 11, .c (.val (.bool true)), .t 13], none⟩,
  ⟨some 8, .move, [.t 14], none⟩] [] [] [0, 1, 8] false [] []
noncomputable def c32_8 : ACode := .region false [⟨some 4, .move, [.c (.val (.pointer none))], none⟩,
  ⟨some 5, .move, [.c (.val (.int .i64 1))], none⟩] [] [] [4, 5] false [] []
noncomputable def c32_7 : ACode := .seq c32_8 .ret
noncomputable def c32_10 : ACode := .region false [⟨some 16, .move, [.t 1], none⟩,
  ⟨some 17, .bin .lss, [.t 16, .c (.val (.int .i64 0))], none⟩,
  ⟨some 18, .move, [.t 17], none⟩,
  ⟨some 19, .move, [.t 1], some (some 18, false)⟩,
  ⟨some 20, .bin .gtr, [.t 19, .c (.val (.int .i64 2147483647))], some (some 18, false)⟩,
  ⟨some 21, .pick, [.t 18, .c (.val (.bool true)), .t 20], none⟩,
  ⟨some 15, .move, [.t 21], none⟩] [] [] [0, 1, 15] false [] []
noncomputable def c32_13 : ACode := .region false [⟨some 4, .move, [.c (.val (.pointer none))], none⟩,
  ⟨some 5, .move, [.c (.val (.int .i64 2))], none⟩] [] [] [4, 5] false [] []
noncomputable def c32_12 : ACode := .seq c32_13 .ret
noncomputable def c32_11 : ACode := .cond (.t 15) c32_12 .skip
noncomputable def c32_9 : ACode := .seq c32_10 c32_11
noncomputable def c32_6 : ACode := .cond (.t 8) c32_7 c32_9
noncomputable def c32_4 : ACode := .seq c32_5 c32_6
noncomputable def c32_3 : ACode := .block 0 c32_4
noncomputable def c32_15 : ACode := .region false [⟨some 23, .call 62, [.c (.val (.int .i64 4096))], none⟩,
  ⟨some 22, .move, [.t 23], none⟩,
  ⟨some 24, .ext 0, [.t 22], none⟩,
  ⟨some 25, .ext 1, [.t 22], none⟩,
  ⟨some 6, .move, [.t 24], none⟩,
  ⟨some 7, .move, [.t 25], none⟩] [] [] [0, 1, 6] true [] []
noncomputable def c32_17 : ACode := .region false [⟨some 26, .move, [.t 6], none⟩,
  ⟨some 27, .move, [.t 0], none⟩,
  ⟨some 28, .move, [.t 1], none⟩,
  ⟨some 29, .build [(.pointer none), (.int .i64 0), (.int .i64 0)] [(0, 1), (1, 1), (2, 1)], [.t 26, .t 27, .t 28], none⟩,
  ⟨some 30, .box 0, [.t 29], none⟩,
  ⟨some 4, .move, [.t 30], none⟩,
  ⟨some 5, .move, [.c (.val (.int .i64 0))], none⟩] [] [] [4, 5] true [] []
noncomputable def c32_16 : ACode := .seq c32_17 .ret
noncomputable def c32_14 : ACode := .seq c32_15 c32_16
noncomputable def c32_2 : ACode := .seq c32_3 c32_14
noncomputable def c32_0 : ACode := .seq c32_1 c32_2
noncomputable def code32 : Code := (Try.f32.body).getD .skip
theorem c32_ok : compC Try.prog 31 code32 = some (strip c32_0) := by kernel_rfl
theorem res32_ok : Try.f32.results.toList.mapM (resC Try.prog) = some [(4, none), (5, none)] := by kernel_rfl
/- (*quidnunc/graves.Graves).Bury -/
noncomputable def c34_1 : ACode := .region false [⟨some 3, .box 0, [.t 1], none⟩,
  ⟨some 4, .move, [.c (.val (.bool false))], none⟩] [] [] [0, 3] true [] []
noncomputable def c34_4 : ACode := .region true [⟨some 8, .load true 9, [.t 3], none⟩,
  ⟨some 9, .call 65, [.t 8], none⟩,
  ⟨some 10, .bin .neq, [.t 9, .c (.val (.int .i64 0))], none⟩,
  ⟨some 11, .move, [.t 10], none⟩,
  ⟨some 12, .load true 9, [.t 3], some (some 11, false)⟩,
  ⟨some 13, .move, [.t 0], some (some 11, false)⟩,
  ⟨some 14, .nilChk, [.t 13], some (some 11, false)⟩,
  ⟨some 15, .addr 1, [.t 14], some (some 11, false)⟩,
  ⟨some 16, .load false 1, [.t 15], some (some 11, false)⟩,
  ⟨some 17, .call 66, [.t 12, .t 16], some (some 11, false)⟩,
  ⟨some 18, .un .not, [.t 17], some (some 11, false)⟩,
  ⟨some 19, .pick, [.t 11, .c (.val (.bool true)), .t 18], none⟩,
  ⟨some 20, .move, [.t 19], none⟩,
  ⟨some 21, .addr 8, [.t 3], some (some 20, false)⟩,
  ⟨some 22, .load false 1, [.t 21], some (some 20, false)⟩,
  ⟨some 23, .move, [.t 0], some (some 20, false)⟩,
  ⟨some 24, .nilChk, [.t 23], some (some 20, false)⟩,
  ⟨some 25, .addr 2, [.t 24], some (some 20, false)⟩,
  ⟨some 26, .load false 1, [.t 25], some (some 20, false)⟩,
  ⟨some 27, .bin .geq, [.t 22, .t 26], some (some 20, false)⟩,
  ⟨some 28, .pick, [.t 20, .c (.val (.bool true)), .t 27], none⟩] [] [] [0, 3, 28] true [] []
noncomputable def c34_7 : ACode := .region false [⟨some 4, .move, [.c (.val (.bool false))], none⟩] [] [] [4] false [] []
noncomputable def c34_6 : ACode := .seq c34_7 .ret
noncomputable def c34_5 : ACode := .cond (.t 28) c34_6 .skip
noncomputable def c34_3 : ACode := .seq c34_4 c34_5
noncomputable def c34_9 : ACode := .region true [⟨some 30, .move, [.t 0], none⟩,
  ⟨some 31, .nilChk, [.t 30], none⟩,
  ⟨some 32, .addr 0, [.t 31], none⟩,
  ⟨some 33, .load false 1, [.t 32], none⟩,
  ⟨some 34, .addr 0, [.t 3], none⟩,
  ⟨some 35, .load false 1, [.t 34], none⟩,
  ⟨some 36, .call 36, [.t 33, .t 35], none⟩,
  ⟨some 29, .move, [.t 36], none⟩,
  ⟨some 37, .ext 0, [.t 29], none⟩,
  ⟨some 38, .ext 1, [.t 29], none⟩,
  ⟨some 5, .alloc [(.string ⟨#[]⟩), (.string ⟨#[]⟩), (.bool false), (.int .i64 0), (.int .i64 0), (.int .i64 0), (.int .i64 0), (.int .i64 0), (.int .i64 0)], [], none⟩,
  ⟨none, .store 9, [.t 5, .t 37], none⟩,
  ⟨some 6, .move, [.t 38], none⟩] [] [(6, 10)] [0, 3, 5, 6] true [] []
noncomputable def c34_12 : ACode := .region false [⟨some 39, .move, [.t 6], none⟩] [] [] [0, 3, 5, 6, 39] false [] []
noncomputable def c34_15 : ACode := .region false [⟨some 40, .addr 3, [.t 5], none⟩,
  ⟨some 41, .load true 2, [.t 40], none⟩,
  ⟨some 42, .addr 3, [.t 3], none⟩,
  ⟨some 43, .load true 2, [.t 42], none⟩,
  ⟨some 44, .call 54, [.t 41, .t 43], none⟩,
  ⟨some 7, .move, [.t 44], none⟩] [] [] [0, 3, 5, 6, 7] true [] []
noncomputable def c34_18 : ACode := .region false [⟨some 46, .move, [.t 7], none⟩,
  ⟨some 47, .bin .gtr, [.t 46, .c (.val (.int .i64 0))], none⟩,
  ⟨some 45, .move, [.t 47], none⟩] [] [] [0, 3, 5, 6, 7, 45] false [] []
noncomputable def c34_21 : ACode := .region false [⟨some 4, .move, [.c (.val (.bool false))], none⟩] [] [] [4] false [] []
noncomputable def c34_20 : ACode := .seq c34_21 .ret
noncomputable def c34_23 : ACode := .region false [⟨some 49, .move, [.t 7], none⟩,
  ⟨some 50, .bin .eql, [.t 49, .c (.val (.int .i64 0))], none⟩,
  ⟨some 48, .move, [.t 50], none⟩] [] [] [0, 3, 5, 6, 48] false [] []
noncomputable def c34_25 : ACode := .region false [⟨some 51, .load true 9, [.t 5], none⟩,
  ⟨some 52, .load true 9, [.t 3], none⟩,
  ⟨some 53, .call 67, [.t 51, .t 52], none⟩,
  ⟨none, .store 9, [.t 3, .t 53], none⟩] [] [] [0, 3, 5, 6] true [] []
noncomputable def c34_24 : ACode := .cond (.t 48) c34_25 .skip
noncomputable def c34_22 : ACode := .seq c34_23 c34_24
noncomputable def c34_19 : ACode := .cond (.t 45) c34_20 c34_22
noncomputable def c34_17 : ACode := .seq c34_18 c34_19
noncomputable def c34_16 : ACode := .block 0 c34_17
noncomputable def c34_14 : ACode := .seq c34_15 c34_16
noncomputable def c34_13 : ACode := .cond (.t 39) c34_14 .skip
noncomputable def c34_11 : ACode := .seq c34_12 c34_13
noncomputable def c34_28 : ACode := .region false [⟨some 54, .move, [.t 6], none⟩,
  ⟨some 55, .move, [.t 54], none⟩,
  ⟨some 56, .load true 9, [.t 5], some (some 55, true)⟩,
  ⟨some 57, .load true 9, [.t 3], some (some 55, true)⟩,
  ⟨some 58, .eqA false [(0, 1), (1, 1), (2, 2), (3, 0), (4, 0), (5, 0), (6, 0), (7, 0), (8, 0)], [.t 56, .t 57], some (some 55, true)⟩,
  ⟨some 59, .pick, [.t 55, .t 58, .c (.val (.bool false))], none⟩] [] [] [0, 3, 59] false [] []
noncomputable def c34_31 : ACode := .region false [⟨some 4, .move, [.c (.val (.bool false))], none⟩] [] [] [4] false [] []
noncomputable def c34_30 : ACode := .seq c34_31 .ret
noncomputable def c34_29 : ACode := .cond (.t 59) c34_30 .skip
noncomputable def c34_27 : ACode := .seq c34_28 c34_29
noncomputable def c34_33 : ACode := .region true [⟨some 60, .move, [.t 0], none⟩,
  ⟨some 61, .nilChk, [.t 60], none⟩,
  ⟨some 62, .addr 0, [.t 61], none⟩,
  ⟨some 63, .load false 1, [.t 62], none⟩,
  ⟨some 64, .addr 0, [.t 3], none⟩,
  ⟨some 65, .load false 1, [.t 64], none⟩,
  ⟨some 66, .load true 9, [.t 3], none⟩,
  ⟨some 67, .call 63, [.t 63, .t 65, .t 66], none⟩,
  ⟨some 68, .bin .eql, [.t 67, .c (.val (.int .i64 0))], none⟩,
  ⟨some 4, .move, [.t 68], none⟩] [] [] [4] true [] []
noncomputable def c34_32 : ACode := .seq c34_33 .ret
noncomputable def c34_26 : ACode := .seq c34_27 c34_32
noncomputable def c34_10 : ACode := .seq c34_11 c34_26
noncomputable def c34_8 : ACode := .seq c34_9 c34_10
noncomputable def c34_2 : ACode := .seq c34_3 c34_8
noncomputable def c34_0 : ACode := .seq c34_1 c34_2
noncomputable def code34 : Code := (Try.f34.body).getD .skip
theorem c34_ok : compC Try.prog 69 code34 = some (strip c34_0) := by kernel_rfl
theorem res34_ok : Try.f34.results.toList.mapM (resC Try.prog) = some [(4, none)] := by kernel_rfl
/- (*quidnunc/graves.Graves).Over -/
noncomputable def c50_1 : ACode := .region false [⟨some 3, .box 0, [.t 1], none⟩,
  ⟨some 4, .move, [.c (.val (.bool false))], none⟩] [] [] [0, 3] true [] []
noncomputable def c50_3 : ACode := .region true [⟨some 8, .move, [.t 0], none⟩,
  ⟨some 9, .nilChk, [.t 8], none⟩,
  ⟨some 10, .addr 0, [.t 9], none⟩,
  ⟨some 11, .load false 1, [.t 10], none⟩,
  ⟨some 12, .addr 0, [.t 3], none⟩,
  ⟨some 13, .load false 1, [.t 12], none⟩,
  ⟨some 14, .call 36, [.t 11, .t 13], none⟩,
  ⟨some 7, .move, [.t 14], none⟩,
  ⟨some 15, .ext 0, [.t 7], none⟩,
  ⟨some 16, .ext 1, [.t 7], none⟩,
  ⟨some 5, .alloc [(.string ⟨#[]⟩), (.string ⟨#[]⟩), (.bool false), (.int .i64 0), (.int .i64 0), (.int .i64 0), (.int .i64 0), (.int .i64 0), (.int .i64 0)], [], none⟩,
  ⟨none, .store 9, [.t 5, .t 15], none⟩,
  ⟨some 6, .move, [.t 16], none⟩] [] [(6, 10)] [3, 5, 6] true [] []
noncomputable def c50_5 : ACode := .region false [⟨some 17, .move, [.t 6], none⟩,
  ⟨some 18, .move, [.t 17], none⟩,
  ⟨some 19, .addr 3, [.t 5], some (some 18, true)⟩,
  ⟨some 20, .load true 2, [.t 19], some (some 18, true)⟩,
  ⟨some 21, .addr 3, [.t 3], some (some 18, true)⟩,
  ⟨some 22, .load true 2, [.t 21], some (some 18, true)⟩,
  ⟨some 23, .call 54, [.t 20, .t 22], some (some 18, true)⟩,
  ⟨some 24, .bin .gtr, [.t 23, .c (.val (.int .i64 0))], some (some 18, true)⟩,
  ⟨some 25, .pick, [.t 18, .t 24, .c (.val (.bool false))], none⟩,
  ⟨some 4, .move, [.t 25], none⟩] [] [] [4] true [] []
noncomputable def c50_4 : ACode := .seq c50_5 .ret
noncomputable def c50_2 : ACode := .seq c50_3 c50_4
noncomputable def c50_0 : ACode := .seq c50_1 c50_2
noncomputable def code50 : Code := (Try.f50.body).getD .skip
theorem c50_ok : compC Try.prog 26 code50 = some (strip c50_0) := by kernel_rfl
theorem res50_ok : Try.f50.results.toList.mapM (resC Try.prog) = some [(4, none)] := by kernel_rfl
/- (*quidnunc/graves.Graves).Tick -/
noncomputable def c33_1 : ACode := .region false [⟨some 2, .move, [.c (.val (.slice none 0 0))], none⟩] [] [] [0] false [] []
noncomputable def c33_3 : ACode := .region false [⟨some 3, .move, [.c (.val (.slice none 0 0))], none⟩] [] [] [0, 3] false [] []
noncomputable def c33_6 : ACode := .region false [⟨some 6, .move, [.t 0], none⟩,
  ⟨some 7, .call 44, [.t 6], none⟩,
  ⟨some 8, .len, [.t 7], none⟩,
  ⟨some 9, .move, [.c (.val (.int .i64 0))], none⟩] [] [] [0, 3, 7, 8, 9] true [] []
noncomputable def c33_10 : ACode := .region false [⟨some 10, .bin .lss, [.t 9, .t 8], none⟩] [] [] [0, 3, 7, 8, 9, 10] false [] []
noncomputable def c33_12 : ACode := .cond (.t 10) .skip (.exit 0)
noncomputable def c33_16 : ACode := .region false [⟨some 11, .ixS 9, [.t 7, .t 9], none⟩,
  ⟨some 12, .load true 9, [.t 11], none⟩,
  ⟨some 5, .alloc [(.string ⟨#[]⟩), (.string ⟨#[]⟩), (.bool false), (.int .i64 0), (.int .i64 0), (.int .i64 0), (.int .i64 0), (.int .i64 0), (.int .i64 0)], [], none⟩,
  ⟨none, .store 9, [.t 5, .t 12], none⟩] [] [] [0, 3, 5, 7, 8, 9] true [] []
noncomputable def c33_18 : ACode := .region false [⟨some 13, .addr 8, [.t 5], none⟩,
  ⟨some 14, .load false 1, [.t 13], none⟩,
  ⟨some 15, .bin .add, [.t 14, .c (.val (.int .i64 1))], none⟩,
  ⟨some 16, .addr 8, [.t 5], none⟩,
  ⟨none, .store 1, [.t 16, .t 15], none⟩] [] [] [0, 3, 5, 7, 8, 9] true [] []
noncomputable def c33_21 : ACode := .region true [⟨some 17, .addr 8, [.t 5], none⟩,
  ⟨some 18, .load false 1, [.t 17], none⟩,
  ⟨some 19, .move, [.t 0], none⟩,
  ⟨some 20, .nilChk, [.t 19], none⟩,
  ⟨some 21, .addr 2, [.t 20], none⟩,
  ⟨some 22, .load false 1, [.t 21], none⟩,
  ⟨some 23, .bin .lss, [.t 18, .t 22], none⟩] [] [] [0, 3, 5, 7, 8, 9, 23] false [] []
noncomputable def c33_24 : ACode := .region true [⟨some 24, .move, [.t 0], none⟩,
  ⟨some 25, .nilChk, [.t 24], none⟩,
  ⟨some 26, .addr 0, [.t 25], none⟩,
  ⟨some 27, .load false 1, [.t 26], none⟩,
  ⟨some 28, .addr 0, [.t 5], none⟩,
  ⟨some 29, .load false 1, [.t 28], none⟩,
  ⟨some 30, .load true 9, [.t 5], none⟩,
  ⟨some 31, .call 63, [.t 27, .t 29, .t 30], none⟩] [] [] [0, 3, 7, 8, 9] true [] []
noncomputable def c33_23 : ACode := .seq c33_24 (.exit 1)
noncomputable def c33_22 : ACode := .cond (.t 23) c33_23 .skip
noncomputable def c33_20 : ACode := .seq c33_21 c33_22
noncomputable def c33_26 : ACode := .region true [⟨some 32, .move, [.t 0], none⟩,
  ⟨some 33, .nilChk, [.t 32], none⟩,
  ⟨some 34, .addr 0, [.t 33], none⟩,
  ⟨some 35, .load false 1, [.t 34], none⟩,
  ⟨some 36, .addr 0, [.t 5], none⟩,
  ⟨some 37, .load false 1, [.t 36], none⟩,
  ⟨some 38, .call 64, [.t 35, .t 37], none⟩] [] [] [0, 3, 5, 7, 8, 9] true [] []
noncomputable def c33_27 : ACode := .region false [⟨some 39, .move, [.t 3], none⟩,
  ⟨some 40, .addr 0, [.t 5], none⟩,
  ⟨some 41, .load false 1, [.t 40], none⟩,
  ⟨some 42, .buildSl 1 1 [(.string ⟨#[]⟩)] [(0, 1)], [.t 41], none⟩,
  ⟨some 43, .append 1 16 false, [.t 39, .t 42], none⟩,
  ⟨some 3, .move, [.t 43], none⟩] [] [] [0, 3, 7, 8, 9] true [] []
noncomputable def c33_25 : ACode := .seq c33_26 c33_27
noncomputable def c33_19 : ACode := .seq c33_20 c33_25
noncomputable def c33_17 : ACode := .seq c33_18 c33_19
noncomputable def c33_15 : ACode := .seq c33_16 c33_17
noncomputable def c33_14 : ACode := .block 1 c33_15
noncomputable def c33_28 : ACode := .region false [⟨some 44, .bin .add, [.t 9, .c (.val (.int .i64 1))], none⟩,
  ⟨some 9, .move, [.t 44], none⟩] [] [] [0, 3, 7, 8, 9] false [] []
noncomputable def c33_13 : ACode := .seq c33_14 c33_28
noncomputable def c33_11 : ACode := .seq c33_12 c33_13
noncomputable def c33_9 : ACode := .seq c33_10 c33_11
noncomputable def c33_8 : ACode := .loop c33_9
noncomputable def c33_7 : ACode := .block 0 c33_8
noncomputable def c33_5 : ACode := .seq c33_6 c33_7
noncomputable def c33_30 : ACode := .region false [⟨some 45, .move, [.t 3], none⟩,
  ⟨some 2, .move, [.t 45], none⟩] [] [] [2] false [] []
noncomputable def c33_29 : ACode := .seq c33_30 .ret
noncomputable def c33_4 : ACode := .seq c33_5 c33_29
noncomputable def c33_2 : ACode := .seq c33_3 c33_4
noncomputable def c33_0 : ACode := .seq c33_1 c33_2
noncomputable def code33 : Code := (Try.f33.body).getD .skip
theorem c33_ok : compC Try.prog 46 code33 = some (strip c33_0) := by kernel_rfl
theorem res33_ok : Try.f33.results.toList.mapM (resC Try.prog) = some [(2, none)] := by kernel_rfl
def bitB (k i : Int) : Bool := bits .and .i64 (k.fdiv (2 ^ (Min.min i.toNat 64))) 1 == 1
def dutyB (e : En) (i : Int) : Bool := e.dead && (decide (0 ≤ i) && (decide (i < 12) && bitB e.keep i))
theorem gduty_any (e : En) (i : Int) : ACall Try.prog 66 [EnA e, I i] [] (Det (Bo (dutyB e i)) []) := by
  refine ACall.startA c66_ok Try.func66 rfl Try.ntmps66 (by kernel_rfl) res66_ok rfl rfl rfl ?_; simp (maxSteps := 9999999) (disch := omega) only [go_sem]
  (repeat' (first | refine AWpA.seq ?_ | refine AWpA.block ?_ | (with_reducible refine CondP.tt ?_) | (with_reducible refine CondP.ff ?_) | refine AWpA.condv (by simp (maxSteps := 9999999) (disch := omega) only [go_sem]; rfl) ?_ | ((first | (apply AWpA.region; (focus (simp (maxSteps := 9999999) (disch := omega) only [go_sem]; rfl))) | (apply AWpA.draw [] [] follows; (focus (first | rfl | decide)); (focus (simp (maxSteps := 9999999) (disch := omega) only [go_sem]; rfl)); (focus (simp (maxSteps := 9999999) (disch := omega) only [go_sem]; first | done | trivial)); (focus (simp (maxSteps := 9999999) (disch := omega) only [go_sem]; rfl))) | (apply TailK.go; (focus (simp (maxSteps := 9999999) (disch := omega) only [go_sem]; rfl))) | refine AWpA.skip ?_ | refine AWpA.exit ?_ | refine AWpA.ret ?_ | (with_reducible refine ARoundsA.succ ?_) | ((first | refine Runs.kt (by assumption) (fun h9 => ?_) | refine Runs.kf (by assumption) (fun h9 => ?_) | refine Runs.nt (by assumption) (fun h9 => ?_) | refine Runs.nf (by assumption) (fun h9 => ?_) | refine CondP.ht (by assumption) (fun h9 => ?_) | refine CondP.hf (by assumption) (fun h9 => ?_) | refine CondP.nt (by assumption) (fun h9 => ?_) | refine CondP.nf (by assumption) (fun h9 => ?_)); (try simp only [h9]); clear h9)); (try simp (maxSteps := 9999999) (disch := omega) only [go_sem]); (try (refine And.intro ?_ ?_; (focus (first | omega | (simp only [go_sem]; done) | (simp; done) | (simp; omega) | assumption))))) | ((first | refine CondP.split (fun hif => ?_) (fun hif => ?_) | refine Runs.part (fun hif => ?_) (fun hif => ?_)) <;> ((try simp only [hif]); (try simp only [decide_eq_true_eq, decide_eq_false_iff_not, Bool.not_eq_true, Bool.not_eq_false, Bool.not_eq_true', Bool.not_eq_false', beq_iff_eq, bne_iff_ne, bne_eq_false_iff_eq, beq_eq_false_iff_ne, ne_eq, Bool.and_eq_true, Bool.or_eq_true, Bool.or_eq_false_iff] at hif); (try (have h9 : _ = true := hif; simp only [h9])); (try (have h9 : _ = false := hif; simp only [h9])); (try simp (maxSteps := 9999999) (disch := omega) only [go_sem]); (try (refine And.intro ?_ ?_; (focus (first | omega | (simp only [go_sem]; done) | (simp; done) | (simp; omega) | assumption)))); (try (exfalso; omega; done))))))
  all_goals
    (apply Ret.det []; (focus (first | exact .inl rfl | exact .inr rfl)); (focus (simp (maxSteps := 9999999) (disch := omega) only [go_sem]; rfl)); (simp (maxSteps := 9999999) (disch := omega) only [go_sem]; (try (repeat' (first | done | trivial | rfl | exact leAs_rfl _ | decide | (refine And.intro ?_ ?_) | (simp; done) | omega | (simp; decide))))))
    all_goals (simp [dutyB, bitB, *])
theorem maxf2_any (a b : St) : ACall Try.prog 93 [.sl 0 0 2 2 (some 2), .fn 54 [] []] [.cells true [I a.c, I a.s, I b.c, I b.s]] (Det (StA (if laterB b a = true then b else a)) [.cells true [I a.c, I a.s, I b.c, I b.s]]) := by
  have c1 := compare_any b a
  have hcl := cmpS_gt b a
  cases hb : laterB b a with
  | true =>
    rw [hb] at hcl
    have g2 : (0 < cmpS b a) = True := eq_true (of_decide_eq_true hcl)
    rw [if_pos rfl]
    generalize cmpS b a = cc at *
    clear hcl
    refine ACall.startA c93_ok Try.func93 rfl Try.ntmps93 (by kernel_rfl) res93_ok rfl rfl rfl ?_; simp (maxSteps := 9999999) (disch := omega) only [go_sem]
    (repeat' (first | refine AWpA.seq ?_ | refine AWpA.block ?_ | (with_reducible refine CondP.tt ?_) | (with_reducible refine CondP.ff ?_) | refine AWpA.condv (by simp (maxSteps := 9999999) (disch := omega) only [go_sem, g2]; rfl) ?_ | ((first | (apply AWpA.region; (focus (simp (maxSteps := 9999999) (disch := omega) only [go_sem, g2]; rfl))) | (apply AWpA.draw [] [] follows; (focus (first | rfl | decide)); (focus (simp (maxSteps := 9999999) (disch := omega) only [go_sem, g2]; rfl)); (focus (simp (maxSteps := 9999999) (disch := omega) only [go_sem, g2]; first | done | trivial)); (focus (simp (maxSteps := 9999999) (disch := omega) only [go_sem, g2]; rfl))) | (apply TailK.go; (focus (simp (maxSteps := 9999999) (disch := omega) only [go_sem, g2]; rfl))) | refine AWpA.skip ?_ | refine AWpA.exit ?_ | refine AWpA.ret ?_ | (with_reducible refine ARoundsA.succ ?_) | ((first | refine Runs.kt (by assumption) (fun h9 => ?_) | refine Runs.kf (by assumption) (fun h9 => ?_) | refine Runs.nt (by assumption) (fun h9 => ?_) | refine Runs.nf (by assumption) (fun h9 => ?_) | refine CondP.ht (by assumption) (fun h9 => ?_) | refine CondP.hf (by assumption) (fun h9 => ?_) | refine CondP.nt (by assumption) (fun h9 => ?_) | refine CondP.nf (by assumption) (fun h9 => ?_)); (try simp only [h9]); clear h9)); (try simp (maxSteps := 9999999) (disch := omega) only [go_sem, g2]); (try (refine And.intro ?_ ?_; (focus (first | omega | (simp only [go_sem]; done) | (simp; done) | (simp; omega) | assumption))))) | ((first | refine CondP.split (fun hif => ?_) (fun hif => ?_) | refine Runs.part (fun hif => ?_) (fun hif => ?_)) <;> ((try simp only [hif]); (try simp only [decide_eq_true_eq, decide_eq_false_iff_not, Bool.not_eq_true, Bool.not_eq_false, Bool.not_eq_true', Bool.not_eq_false', beq_iff_eq, bne_iff_ne, bne_eq_false_iff_eq, beq_eq_false_iff_ne, ne_eq, Bool.and_eq_true, Bool.or_eq_true, Bool.or_eq_false_iff] at hif); (try (have h9 : _ = true := hif; simp only [h9])); (try (have h9 : _ = false := hif; simp only [h9])); (try simp (maxSteps := 9999999) (disch := omega) only [go_sem, g2]); (try (refine And.intro ?_ ?_; (focus (first | omega | (simp only [go_sem]; done) | (simp; done) | (simp; omega) | assumption)))); (try (exfalso; omega; done))))))
    refine AWpA.rounds 2 ?_
    (repeat' (first | refine AWpA.seq ?_ | refine AWpA.block ?_ | (with_reducible refine CondP.tt ?_) | (with_reducible refine CondP.ff ?_) | refine AWpA.condv (by simp (maxSteps := 9999999) (disch := omega) only [go_sem, g2]; rfl) ?_ | ((first | (apply AWpA.region; (focus (simp (maxSteps := 9999999) (disch := omega) only [go_sem, g2]; rfl))) | (apply AWpA.draw [] [] follows; (focus (first | rfl | decide)); (focus (simp (maxSteps := 9999999) (disch := omega) only [go_sem, g2]; rfl)); (focus (simp (maxSteps := 9999999) (disch := omega) only [go_sem, g2]; first | done | trivial)); (focus (simp (maxSteps := 9999999) (disch := omega) only [go_sem, g2]; rfl))) | (apply TailK.go; (focus (simp (maxSteps := 9999999) (disch := omega) only [go_sem, g2]; rfl))) | refine AWpA.skip ?_ | refine AWpA.exit ?_ | refine AWpA.ret ?_ | (with_reducible refine ARoundsA.succ ?_) | ((first | refine Runs.kt (by assumption) (fun h9 => ?_) | refine Runs.kf (by assumption) (fun h9 => ?_) | refine Runs.nt (by assumption) (fun h9 => ?_) | refine Runs.nf (by assumption) (fun h9 => ?_) | refine CondP.ht (by assumption) (fun h9 => ?_) | refine CondP.hf (by assumption) (fun h9 => ?_) | refine CondP.nt (by assumption) (fun h9 => ?_) | refine CondP.nf (by assumption) (fun h9 => ?_)); (try simp only [h9]); clear h9) | ((first | (with_reducible apply CallG.plain1 [] (c1)) | (with_reducible apply CallG.draw1 [] (c1))); (focus ((try refine And.intro (leAs_of_eq rfl) ?_); (try refine And.intro (leOL_of_eq rfl) ?_); simp (maxSteps := 9999999) (disch := omega) only [go_sem, g2]; first | done | (repeat' (first | rfl | (refine And.intro ?_ ?_))))); (focus (simp (maxSteps := 9999999) (disch := omega) only [go_sem, g2]; rfl)))); (try simp (maxSteps := 9999999) (disch := omega) only [go_sem, g2]); (try (refine And.intro ?_ ?_; (focus (first | omega | (simp only [go_sem]; done) | (simp; done) | (simp; omega) | assumption))))) | ((first | refine CondP.split (fun hif => ?_) (fun hif => ?_) | refine Runs.part (fun hif => ?_) (fun hif => ?_)) <;> ((try simp only [hif]); (try simp only [decide_eq_true_eq, decide_eq_false_iff_not, Bool.not_eq_true, Bool.not_eq_false, Bool.not_eq_true', Bool.not_eq_false', beq_iff_eq, bne_iff_ne, bne_eq_false_iff_eq, beq_eq_false_iff_ne, ne_eq, Bool.and_eq_true, Bool.or_eq_true, Bool.or_eq_false_iff] at hif); (try (have h9 : _ = true := hif; simp only [h9])); (try (have h9 : _ = false := hif; simp only [h9])); (try simp (maxSteps := 9999999) (disch := omega) only [go_sem, g2]); (try (refine And.intro ?_ ?_; (focus (first | omega | (simp only [go_sem]; done) | (simp; done) | (simp; omega) | assumption)))); (try (exfalso; omega; done))))))
    (apply Ret.det [0]; (focus (first | exact .inl rfl | exact .inr rfl)); (focus (simp (maxSteps := 9999999) (disch := omega) only [go_sem]; rfl)); (simp (maxSteps := 9999999) (disch := omega) only [go_sem]; (try (repeat' (first | done | trivial | rfl | exact leAs_rfl _ | decide | (refine And.intro ?_ ?_) | (simp; done) | omega | (simp; decide))))))
  | false =>
    rw [hb] at hcl
    have g2 : (0 < cmpS b a) = False := eq_false (of_decide_eq_false hcl)
    rw [if_neg (by decide)]
    generalize cmpS b a = cc at *
    clear hcl
    refine ACall.startA c93_ok Try.func93 rfl Try.ntmps93 (by kernel_rfl) res93_ok rfl rfl rfl ?_; simp (maxSteps := 9999999) (disch := omega) only [go_sem]
    (repeat' (first | refine AWpA.seq ?_ | refine AWpA.block ?_ | (with_reducible refine CondP.tt ?_) | (with_reducible refine CondP.ff ?_) | refine AWpA.condv (by simp (maxSteps := 9999999) (disch := omega) only [go_sem, g2]; rfl) ?_ | ((first | (apply AWpA.region; (focus (simp (maxSteps := 9999999) (disch := omega) only [go_sem, g2]; rfl))) | (apply AWpA.draw [] [] follows; (focus (first | rfl | decide)); (focus (simp (maxSteps := 9999999) (disch := omega) only [go_sem, g2]; rfl)); (focus (simp (maxSteps := 9999999) (disch := omega) only [go_sem, g2]; first | done | trivial)); (focus (simp (maxSteps := 9999999) (disch := omega) only [go_sem, g2]; rfl))) | (apply TailK.go; (focus (simp (maxSteps := 9999999) (disch := omega) only [go_sem, g2]; rfl))) | refine AWpA.skip ?_ | refine AWpA.exit ?_ | refine AWpA.ret ?_ | (with_reducible refine ARoundsA.succ ?_) | ((first | refine Runs.kt (by assumption) (fun h9 => ?_) | refine Runs.kf (by assumption) (fun h9 => ?_) | refine Runs.nt (by assumption) (fun h9 => ?_) | refine Runs.nf (by assumption) (fun h9 => ?_) | refine CondP.ht (by assumption) (fun h9 => ?_) | refine CondP.hf (by assumption) (fun h9 => ?_) | refine CondP.nt (by assumption) (fun h9 => ?_) | refine CondP.nf (by assumption) (fun h9 => ?_)); (try simp only [h9]); clear h9)); (try simp (maxSteps := 9999999) (disch := omega) only [go_sem, g2]); (try (refine And.intro ?_ ?_; (focus (first | omega | (simp only [go_sem]; done) | (simp; done) | (simp; omega) | assumption))))) | ((first | refine CondP.split (fun hif => ?_) (fun hif => ?_) | refine Runs.part (fun hif => ?_) (fun hif => ?_)) <;> ((try simp only [hif]); (try simp only [decide_eq_true_eq, decide_eq_false_iff_not, Bool.not_eq_true, Bool.not_eq_false, Bool.not_eq_true', Bool.not_eq_false', beq_iff_eq, bne_iff_ne, bne_eq_false_iff_eq, beq_eq_false_iff_ne, ne_eq, Bool.and_eq_true, Bool.or_eq_true, Bool.or_eq_false_iff] at hif); (try (have h9 : _ = true := hif; simp only [h9])); (try (have h9 : _ = false := hif; simp only [h9])); (try simp (maxSteps := 9999999) (disch := omega) only [go_sem, g2]); (try (refine And.intro ?_ ?_; (focus (first | omega | (simp only [go_sem]; done) | (simp; done) | (simp; omega) | assumption)))); (try (exfalso; omega; done))))))
    refine AWpA.rounds 2 ?_
    (repeat' (first | refine AWpA.seq ?_ | refine AWpA.block ?_ | (with_reducible refine CondP.tt ?_) | (with_reducible refine CondP.ff ?_) | refine AWpA.condv (by simp (maxSteps := 9999999) (disch := omega) only [go_sem, g2]; rfl) ?_ | ((first | (apply AWpA.region; (focus (simp (maxSteps := 9999999) (disch := omega) only [go_sem, g2]; rfl))) | (apply AWpA.draw [] [] follows; (focus (first | rfl | decide)); (focus (simp (maxSteps := 9999999) (disch := omega) only [go_sem, g2]; rfl)); (focus (simp (maxSteps := 9999999) (disch := omega) only [go_sem, g2]; first | done | trivial)); (focus (simp (maxSteps := 9999999) (disch := omega) only [go_sem, g2]; rfl))) | (apply TailK.go; (focus (simp (maxSteps := 9999999) (disch := omega) only [go_sem, g2]; rfl))) | refine AWpA.skip ?_ | refine AWpA.exit ?_ | refine AWpA.ret ?_ | (with_reducible refine ARoundsA.succ ?_) | ((first | refine Runs.kt (by assumption) (fun h9 => ?_) | refine Runs.kf (by assumption) (fun h9 => ?_) | refine Runs.nt (by assumption) (fun h9 => ?_) | refine Runs.nf (by assumption) (fun h9 => ?_) | refine CondP.ht (by assumption) (fun h9 => ?_) | refine CondP.hf (by assumption) (fun h9 => ?_) | refine CondP.nt (by assumption) (fun h9 => ?_) | refine CondP.nf (by assumption) (fun h9 => ?_)); (try simp only [h9]); clear h9) | ((first | (with_reducible apply CallG.plain1 [] (c1)) | (with_reducible apply CallG.draw1 [] (c1))); (focus ((try refine And.intro (leAs_of_eq rfl) ?_); (try refine And.intro (leOL_of_eq rfl) ?_); simp (maxSteps := 9999999) (disch := omega) only [go_sem, g2]; first | done | (repeat' (first | rfl | (refine And.intro ?_ ?_))))); (focus (simp (maxSteps := 9999999) (disch := omega) only [go_sem, g2]; rfl)))); (try simp (maxSteps := 9999999) (disch := omega) only [go_sem, g2]); (try (refine And.intro ?_ ?_; (focus (first | omega | (simp only [go_sem]; done) | (simp; done) | (simp; omega) | assumption))))) | ((first | refine CondP.split (fun hif => ?_) (fun hif => ?_) | refine Runs.part (fun hif => ?_) (fun hif => ?_)) <;> ((try simp only [hif]); (try simp only [decide_eq_true_eq, decide_eq_false_iff_not, Bool.not_eq_true, Bool.not_eq_false, Bool.not_eq_true', Bool.not_eq_false', beq_iff_eq, bne_iff_ne, bne_eq_false_iff_eq, beq_eq_false_iff_ne, ne_eq, Bool.and_eq_true, Bool.or_eq_true, Bool.or_eq_false_iff] at hif); (try (have h9 : _ = true := hif; simp only [h9])); (try (have h9 : _ = false := hif; simp only [h9])); (try simp (maxSteps := 9999999) (disch := omega) only [go_sem, g2]); (try (refine And.intro ?_ ?_; (focus (first | omega | (simp only [go_sem]; done) | (simp; done) | (simp; omega) | assumption)))); (try (exfalso; omega; done))))))
    (apply Ret.det [0]; (focus (first | exact .inl rfl | exact .inr rfl)); (focus (simp (maxSteps := 9999999) (disch := omega) only [go_sem]; rfl)); (simp (maxSteps := 9999999) (disch := omega) only [go_sem]; (try (repeat' (first | done | trivial | rfl | exact leAs_rfl _ | decide | (refine And.intro ?_ ?_) | (simp; done) | omega | (simp; decide))))))
theorem latest2_any (a b : St) : ACall Try.prog 85 [.sl 0 0 2 2 (some 2)] [.cells true [I a.c, I a.s, I b.c, I b.s]] (Det (StA (if laterB b a = true then b else a)) [.cells true [I a.c, I a.s, I b.c, I b.s]]) := by
  have c1 := maxf2_any a b
  generalize (if laterB b a = true then b else a) = x at *
  refine ACall.startA c85_ok Try.func85 rfl Try.ntmps85 (by kernel_rfl) res85_ok rfl rfl rfl ?_; simp (maxSteps := 9999999) (disch := omega) only [go_sem]
  (repeat' (first | refine AWpA.seq ?_ | refine AWpA.block ?_ | (with_reducible refine CondP.tt ?_) | (with_reducible refine CondP.ff ?_) | refine AWpA.condv (by simp (maxSteps := 9999999) (disch := omega) only [go_sem]; rfl) ?_ | ((first | (apply AWpA.region; (focus (simp (maxSteps := 9999999) (disch := omega) only [go_sem]; rfl))) | (apply AWpA.draw [] [] follows; (focus (first | rfl | decide)); (focus (simp (maxSteps := 9999999) (disch := omega) only [go_sem]; rfl)); (focus (simp (maxSteps := 9999999) (disch := omega) only [go_sem]; first | done | trivial)); (focus (simp (maxSteps := 9999999) (disch := omega) only [go_sem]; rfl))) | (apply TailK.go; (focus (simp (maxSteps := 9999999) (disch := omega) only [go_sem]; rfl))) | refine AWpA.skip ?_ | refine AWpA.exit ?_ | refine AWpA.ret ?_ | (with_reducible refine ARoundsA.succ ?_) | ((first | refine Runs.kt (by assumption) (fun h9 => ?_) | refine Runs.kf (by assumption) (fun h9 => ?_) | refine Runs.nt (by assumption) (fun h9 => ?_) | refine Runs.nf (by assumption) (fun h9 => ?_) | refine CondP.ht (by assumption) (fun h9 => ?_) | refine CondP.hf (by assumption) (fun h9 => ?_) | refine CondP.nt (by assumption) (fun h9 => ?_) | refine CondP.nf (by assumption) (fun h9 => ?_)); (try simp only [h9]); clear h9) | ((first | (with_reducible apply CallG.plain1 [0] (c1)) | (with_reducible apply CallG.draw1 [0] (c1))); (focus ((try refine And.intro (leAs_of_eq rfl) ?_); (try refine And.intro (leOL_of_eq rfl) ?_); simp (maxSteps := 9999999) (disch := omega) only [go_sem]; first | done | (repeat' (first | rfl | (refine And.intro ?_ ?_))))); (focus (simp (maxSteps := 9999999) (disch := omega) only [go_sem]; rfl)))); (try simp (maxSteps := 9999999) (disch := omega) only [go_sem]); (try (refine And.intro ?_ ?_; (focus (first | omega | (simp only [go_sem]; done) | (simp; done) | (simp; omega) | assumption))))) | ((first | refine CondP.split (fun hif => ?_) (fun hif => ?_) | refine Runs.part (fun hif => ?_) (fun hif => ?_)) <;> ((try simp only [hif]); (try simp only [decide_eq_true_eq, decide_eq_false_iff_not, Bool.not_eq_true, Bool.not_eq_false, Bool.not_eq_true', Bool.not_eq_false', beq_iff_eq, bne_iff_ne, bne_eq_false_iff_eq, beq_eq_false_iff_ne, ne_eq, Bool.and_eq_true, Bool.or_eq_true, Bool.or_eq_false_iff] at hif); (try (have h9 : _ = true := hif; simp only [h9])); (try (have h9 : _ = false := hif; simp only [h9])); (try simp (maxSteps := 9999999) (disch := omega) only [go_sem]); (try (refine And.intro ?_ ?_; (focus (first | omega | (simp only [go_sem]; done) | (simp; done) | (simp; omega) | assumption)))); (try (exfalso; omega; done))))))
  (apply Ret.det [0]; (focus (first | exact .inl rfl | exact .inr rfl)); (focus (simp (maxSteps := 9999999) (disch := omega) only [go_sem]; rfl)); (simp (maxSteps := 9999999) (disch := omega) only [go_sem]; (try (repeat' (first | done | trivial | rfl | exact leAs_rfl _ | decide | (refine And.intro ?_ ?_) | (simp; done) | omega | (simp; decide))))))
/-- A grave of two certificates of one delete. -/
def bothE (was e : En) : En := { was with act := if laterB e.act was.act = true then e.act else was.act, age := if e.age < was.age then e.age else was.age }
theorem both_any (was e : En) : ACall Try.prog 67 [EnA was, EnA e] [] (Det (EnA (bothE was e)) []) := by
  have c1 := latest2_any was.act e.act
  unfold bothE
  generalize (if laterB e.act was.act = true then e.act else was.act) = x at *
  refine ACall.startA c67_ok Try.func67 rfl Try.ntmps67 (by kernel_rfl) res67_ok rfl rfl rfl ?_; simp (maxSteps := 9999999) (disch := omega) only [go_sem]
  (repeat' (first | refine AWpA.seq ?_ | refine AWpA.block ?_ | (with_reducible refine CondP.tt ?_) | (with_reducible refine CondP.ff ?_) | refine AWpA.condv (by simp (maxSteps := 9999999) (disch := omega) only [go_sem]; rfl) ?_ | ((first | (apply AWpA.region; (focus (simp (maxSteps := 9999999) (disch := omega) only [go_sem]; rfl))) | (apply AWpA.draw [] [] follows; (focus (first | rfl | decide)); (focus (simp (maxSteps := 9999999) (disch := omega) only [go_sem]; rfl)); (focus (simp (maxSteps := 9999999) (disch := omega) only [go_sem]; first | done | trivial)); (focus (simp (maxSteps := 9999999) (disch := omega) only [go_sem]; rfl))) | (apply TailK.go; (focus (simp (maxSteps := 9999999) (disch := omega) only [go_sem]; rfl))) | refine AWpA.skip ?_ | refine AWpA.exit ?_ | refine AWpA.ret ?_ | (with_reducible refine ARoundsA.succ ?_) | ((first | refine Runs.kt (by assumption) (fun h9 => ?_) | refine Runs.kf (by assumption) (fun h9 => ?_) | refine Runs.nt (by assumption) (fun h9 => ?_) | refine Runs.nf (by assumption) (fun h9 => ?_) | refine CondP.ht (by assumption) (fun h9 => ?_) | refine CondP.hf (by assumption) (fun h9 => ?_) | refine CondP.nt (by assumption) (fun h9 => ?_) | refine CondP.nf (by assumption) (fun h9 => ?_)); (try simp only [h9]); clear h9) | ((first | (with_reducible apply CallG.plain1 [_] (c1)) | (with_reducible apply CallG.draw1 [_] (c1))); (focus ((try refine And.intro (leAs_of_eq rfl) ?_); (try refine And.intro (leOL_of_eq rfl) ?_); simp (maxSteps := 9999999) (disch := omega) only [go_sem]; first | done | (repeat' (first | rfl | (refine And.intro ?_ ?_))))); (focus (simp (maxSteps := 9999999) (disch := omega) only [go_sem]; rfl)))); (try simp (maxSteps := 9999999) (disch := omega) only [go_sem]); (try (refine And.intro ?_ ?_; (focus (first | omega | (simp only [go_sem]; done) | (simp; done) | (simp; omega) | assumption))))) | ((first | refine CondP.split (fun hif => ?_) (fun hif => ?_) | refine Runs.part (fun hif => ?_) (fun hif => ?_)) <;> ((try simp only [hif]); (try simp only [decide_eq_true_eq, decide_eq_false_iff_not, Bool.not_eq_true, Bool.not_eq_false, Bool.not_eq_true', Bool.not_eq_false', beq_iff_eq, bne_iff_ne, bne_eq_false_iff_eq, beq_eq_false_iff_ne, ne_eq, Bool.and_eq_true, Bool.or_eq_true, Bool.or_eq_false_iff] at hif); (try (have h9 : _ = true := hif; simp only [h9])); (try (have h9 : _ = false := hif; simp only [h9])); (try simp (maxSteps := 9999999) (disch := omega) only [go_sem]); (try (refine And.intro ?_ ?_; (focus (first | omega | (simp only [go_sem]; done) | (simp; done) | (simp; omega) | assumption)))); (try (exfalso; omega; done))))))
  all_goals (apply Ret.det []; (focus (first | exact .inl rfl | exact .inr rfl)); (focus (simp (maxSteps := 9999999) (disch := omega) only [go_sem]; rfl)); (simp (maxSteps := 9999999) (disch := omega) only [go_sem]; (try (repeat' (first | done | trivial | rfl | exact leAs_rfl _ | decide | (refine And.intro ?_ ?_) | (simp; done) | omega | (simp; decide))))))
theorem gnew_any (site t2 : Int) (h1 : 0 ≤ site ∧ site < 12) (h2 : 0 ≤ t2 ∧ t2 ≤ 2147483647) : ACall Try.prog 32 [I site, I t2] [] (Det (.tup [.ptr 0 0, I 0]) [GrO 1 site t2, .cells false [I 4096, .val (.slice none 0 0)]]) := by
  have g1 : (site < 0) = False := eq_false (by omega)
  have g2 : (12 ≤ site) = False := eq_false (by omega)
  have g3 : (t2 < 0) = False := eq_false (by omega)
  have g4 : (2147483647 < t2) = False := eq_false (by omega)
  have c := Ue.tnew_ok 4096 (by decide)
  refine ACall.startA c32_ok Try.func32 rfl Try.ntmps32 (by kernel_rfl) res32_ok rfl rfl rfl ?_; simp (maxSteps := 9999999) (disch := omega) only [go_sem]
  (repeat' (first | refine AWpA.seq ?_ | refine AWpA.block ?_ | (with_reducible refine CondP.tt ?_) | (with_reducible refine CondP.ff ?_) | refine AWpA.condv (by simp (maxSteps := 9999999) (disch := omega) only [go_sem, g1, g2, g3, g4]; rfl) ?_ | ((first | (apply AWpA.region; (focus (simp (maxSteps := 9999999) (disch := omega) only [go_sem, g1, g2, g3, g4]; rfl))) | (apply AWpA.draw [] [] follows; (focus (first | rfl | decide)); (focus (simp (maxSteps := 9999999) (disch := omega) only [go_sem, g1, g2, g3, g4]; rfl)); (focus (simp (maxSteps := 9999999) (disch := omega) only [go_sem, g1, g2, g3, g4]; first | done | trivial)); (focus (simp (maxSteps := 9999999) (disch := omega) only [go_sem, g1, g2, g3, g4]; rfl))) | (apply TailK.go; (focus (simp (maxSteps := 9999999) (disch := omega) only [go_sem, g1, g2, g3, g4]; rfl))) | refine AWpA.skip ?_ | refine AWpA.exit ?_ | refine AWpA.ret ?_ | (with_reducible refine ARoundsA.succ ?_) | ((first | refine Runs.kt (by assumption) (fun h9 => ?_) | refine Runs.kf (by assumption) (fun h9 => ?_) | refine Runs.nt (by assumption) (fun h9 => ?_) | refine Runs.nf (by assumption) (fun h9 => ?_) | refine CondP.ht (by assumption) (fun h9 => ?_) | refine CondP.hf (by assumption) (fun h9 => ?_) | refine CondP.nt (by assumption) (fun h9 => ?_) | refine CondP.nf (by assumption) (fun h9 => ?_)); (try simp only [h9]); clear h9) | ((first | (with_reducible apply CallG.plain1 [] (c)) | (with_reducible apply CallG.draw1 [] (c))); (focus ((try refine And.intro (leAs_of_eq rfl) ?_); (try refine And.intro (leOL_of_eq rfl) ?_); simp (maxSteps := 9999999) (disch := omega) only [go_sem, g1, g2, g3, g4]; first | done | (repeat' (first | rfl | (refine And.intro ?_ ?_))))); (focus (simp (maxSteps := 9999999) (disch := omega) only [go_sem, g1, g2, g3, g4]; rfl)))); (try simp (maxSteps := 9999999) (disch := omega) only [go_sem, g1, g2, g3, g4]); (try (refine And.intro ?_ ?_; (focus (first | omega | (simp only [go_sem]; done) | (simp; done) | (simp; omega) | assumption))))) | ((first | refine CondP.split (fun hif => ?_) (fun hif => ?_) | refine Runs.part (fun hif => ?_) (fun hif => ?_)) <;> ((try simp only [hif]); (try simp only [decide_eq_true_eq, decide_eq_false_iff_not, Bool.not_eq_true, Bool.not_eq_false, Bool.not_eq_true', Bool.not_eq_false', beq_iff_eq, bne_iff_ne, bne_eq_false_iff_eq, beq_eq_false_iff_ne, ne_eq, Bool.and_eq_true, Bool.or_eq_true, Bool.or_eq_false_iff] at hif); (try (have h9 : _ = true := hif; simp only [h9])); (try (have h9 : _ = false := hif; simp only [h9])); (try simp (maxSteps := 9999999) (disch := omega) only [go_sem, g1, g2, g3, g4]); (try (refine And.intro ?_ ?_; (focus (first | omega | (simp only [go_sem]; done) | (simp; done) | (simp; omega) | assumption)))); (try (exfalso; omega; done))))))
  (apply Ret.det [_, _]; (focus (first | exact .inl rfl | exact .inr rfl)); (focus (simp (maxSteps := 9999999) (disch := omega) only [go_sem]; rfl)); (simp (maxSteps := 9999999) (disch := omega) only [go_sem]; (try (repeat' (first | done | trivial | rfl | exact leAs_rfl _ | decide | (refine And.intro ?_ ?_) | (simp; done) | omega | (simp; decide))))))
theorem gnew_bad (site t2 : Int) (h1 : site < 0 ∨ 12 ≤ site) : ACall Try.prog 32 [I site, I t2] [] (Det (.tup [nilP, I 1]) []) := by
  by_cases h : site < 0
  · have g1 : (site < 0) = True := eq_true h
    refine ACall.startA c32_ok Try.func32 rfl Try.ntmps32 (by kernel_rfl) res32_ok rfl rfl rfl ?_; simp (maxSteps := 9999999) (disch := omega) only [go_sem]
    (repeat' (first | refine AWpA.seq ?_ | refine AWpA.block ?_ | (with_reducible refine CondP.tt ?_) | (with_reducible refine CondP.ff ?_) | refine AWpA.condv (by simp (maxSteps := 9999999) (disch := omega) only [go_sem, g1]; rfl) ?_ | ((first | (apply AWpA.region; (focus (simp (maxSteps := 9999999) (disch := omega) only [go_sem, g1]; rfl))) | (apply AWpA.draw [] [] follows; (focus (first | rfl | decide)); (focus (simp (maxSteps := 9999999) (disch := omega) only [go_sem, g1]; rfl)); (focus (simp (maxSteps := 9999999) (disch := omega) only [go_sem, g1]; first | done | trivial)); (focus (simp (maxSteps := 9999999) (disch := omega) only [go_sem, g1]; rfl))) | (apply TailK.go; (focus (simp (maxSteps := 9999999) (disch := omega) only [go_sem, g1]; rfl))) | refine AWpA.skip ?_ | refine AWpA.exit ?_ | refine AWpA.ret ?_ | (with_reducible refine ARoundsA.succ ?_) | ((first | refine Runs.kt (by assumption) (fun h9 => ?_) | refine Runs.kf (by assumption) (fun h9 => ?_) | refine Runs.nt (by assumption) (fun h9 => ?_) | refine Runs.nf (by assumption) (fun h9 => ?_) | refine CondP.ht (by assumption) (fun h9 => ?_) | refine CondP.hf (by assumption) (fun h9 => ?_) | refine CondP.nt (by assumption) (fun h9 => ?_) | refine CondP.nf (by assumption) (fun h9 => ?_)); (try simp only [h9]); clear h9)); (try simp (maxSteps := 9999999) (disch := omega) only [go_sem, g1]); (try (refine And.intro ?_ ?_; (focus (first | omega | (simp only [go_sem]; done) | (simp; done) | (simp; omega) | assumption))))) | ((first | refine CondP.split (fun hif => ?_) (fun hif => ?_) | refine Runs.part (fun hif => ?_) (fun hif => ?_)) <;> ((try simp only [hif]); (try simp only [decide_eq_true_eq, decide_eq_false_iff_not, Bool.not_eq_true, Bool.not_eq_false, Bool.not_eq_true', Bool.not_eq_false', beq_iff_eq, bne_iff_ne, bne_eq_false_iff_eq, beq_eq_false_iff_ne, ne_eq, Bool.and_eq_true, Bool.or_eq_true, Bool.or_eq_false_iff] at hif); (try (have h9 : _ = true := hif; simp only [h9])); (try (have h9 : _ = false := hif; simp only [h9])); (try simp (maxSteps := 9999999) (disch := omega) only [go_sem, g1]); (try (refine And.intro ?_ ?_; (focus (first | omega | (simp only [go_sem]; done) | (simp; done) | (simp; omega) | assumption)))); (try (exfalso; omega; done))))))
    (apply Ret.det []; (focus (first | exact .inl rfl | exact .inr rfl)); (focus (simp (maxSteps := 9999999) (disch := omega) only [go_sem]; rfl)); (simp (maxSteps := 9999999) (disch := omega) only [go_sem]; (try (repeat' (first | done | trivial | rfl | exact leAs_rfl _ | decide | (refine And.intro ?_ ?_) | (simp; done) | omega | (simp; decide))))))
  · have g1 : (site < 0) = False := eq_false h
    have g2 : (12 ≤ site) = True := eq_true (by omega)
    refine ACall.startA c32_ok Try.func32 rfl Try.ntmps32 (by kernel_rfl) res32_ok rfl rfl rfl ?_; simp (maxSteps := 9999999) (disch := omega) only [go_sem]
    (repeat' (first | refine AWpA.seq ?_ | refine AWpA.block ?_ | (with_reducible refine CondP.tt ?_) | (with_reducible refine CondP.ff ?_) | refine AWpA.condv (by simp (maxSteps := 9999999) (disch := omega) only [go_sem, g1, g2]; rfl) ?_ | ((first | (apply AWpA.region; (focus (simp (maxSteps := 9999999) (disch := omega) only [go_sem, g1, g2]; rfl))) | (apply AWpA.draw [] [] follows; (focus (first | rfl | decide)); (focus (simp (maxSteps := 9999999) (disch := omega) only [go_sem, g1, g2]; rfl)); (focus (simp (maxSteps := 9999999) (disch := omega) only [go_sem, g1, g2]; first | done | trivial)); (focus (simp (maxSteps := 9999999) (disch := omega) only [go_sem, g1, g2]; rfl))) | (apply TailK.go; (focus (simp (maxSteps := 9999999) (disch := omega) only [go_sem, g1, g2]; rfl))) | refine AWpA.skip ?_ | refine AWpA.exit ?_ | refine AWpA.ret ?_ | (with_reducible refine ARoundsA.succ ?_) | ((first | refine Runs.kt (by assumption) (fun h9 => ?_) | refine Runs.kf (by assumption) (fun h9 => ?_) | refine Runs.nt (by assumption) (fun h9 => ?_) | refine Runs.nf (by assumption) (fun h9 => ?_) | refine CondP.ht (by assumption) (fun h9 => ?_) | refine CondP.hf (by assumption) (fun h9 => ?_) | refine CondP.nt (by assumption) (fun h9 => ?_) | refine CondP.nf (by assumption) (fun h9 => ?_)); (try simp only [h9]); clear h9)); (try simp (maxSteps := 9999999) (disch := omega) only [go_sem, g1, g2]); (try (refine And.intro ?_ ?_; (focus (first | omega | (simp only [go_sem]; done) | (simp; done) | (simp; omega) | assumption))))) | ((first | refine CondP.split (fun hif => ?_) (fun hif => ?_) | refine Runs.part (fun hif => ?_) (fun hif => ?_)) <;> ((try simp only [hif]); (try simp only [decide_eq_true_eq, decide_eq_false_iff_not, Bool.not_eq_true, Bool.not_eq_false, Bool.not_eq_true', Bool.not_eq_false', beq_iff_eq, bne_iff_ne, bne_eq_false_iff_eq, beq_eq_false_iff_ne, ne_eq, Bool.and_eq_true, Bool.or_eq_true, Bool.or_eq_false_iff] at hif); (try (have h9 : _ = true := hif; simp only [h9])); (try (have h9 : _ = false := hif; simp only [h9])); (try simp (maxSteps := 9999999) (disch := omega) only [go_sem, g1, g2]); (try (refine And.intro ?_ ?_; (focus (first | omega | (simp only [go_sem]; done) | (simp; done) | (simp; omega) | assumption)))); (try (exfalso; omega; done))))))
    (apply Ret.det []; (focus (first | exact .inl rfl | exact .inr rfl)); (focus (simp (maxSteps := 9999999) (disch := omega) only [go_sem]; rfl)); (simp (maxSteps := 9999999) (disch := omega) only [go_sem]; (try (repeat' (first | done | trivial | rfl | exact leAs_rfl _ | decide | (refine And.intro ?_ ?_) | (simp; done) | omega | (simp; decide))))))
theorem gnew_bad2 (site t2 : Int) (h1 : 0 ≤ site ∧ site < 12) (h2 : t2 < 0 ∨ 2147483647 < t2) : ACall Try.prog 32 [I site, I t2] [] (Det (.tup [nilP, I 2]) []) := by
  have g1 : (site < 0) = False := eq_false (by omega)
  have g2 : (12 ≤ site) = False := eq_false (by omega)
  by_cases h : t2 < 0
  · have g3 : (t2 < 0) = True := eq_true h
    refine ACall.startA c32_ok Try.func32 rfl Try.ntmps32 (by kernel_rfl) res32_ok rfl rfl rfl ?_; simp (maxSteps := 9999999) (disch := omega) only [go_sem]
    (repeat' (first | refine AWpA.seq ?_ | refine AWpA.block ?_ | (with_reducible refine CondP.tt ?_) | (with_reducible refine CondP.ff ?_) | refine AWpA.condv (by simp (maxSteps := 9999999) (disch := omega) only [go_sem, g1, g2, g3]; rfl) ?_ | ((first | (apply AWpA.region; (focus (simp (maxSteps := 9999999) (disch := omega) only [go_sem, g1, g2, g3]; rfl))) | (apply AWpA.draw [] [] follows; (focus (first | rfl | decide)); (focus (simp (maxSteps := 9999999) (disch := omega) only [go_sem, g1, g2, g3]; rfl)); (focus (simp (maxSteps := 9999999) (disch := omega) only [go_sem, g1, g2, g3]; first | done | trivial)); (focus (simp (maxSteps := 9999999) (disch := omega) only [go_sem, g1, g2, g3]; rfl))) | (apply TailK.go; (focus (simp (maxSteps := 9999999) (disch := omega) only [go_sem, g1, g2, g3]; rfl))) | refine AWpA.skip ?_ | refine AWpA.exit ?_ | refine AWpA.ret ?_ | (with_reducible refine ARoundsA.succ ?_) | ((first | refine Runs.kt (by assumption) (fun h9 => ?_) | refine Runs.kf (by assumption) (fun h9 => ?_) | refine Runs.nt (by assumption) (fun h9 => ?_) | refine Runs.nf (by assumption) (fun h9 => ?_) | refine CondP.ht (by assumption) (fun h9 => ?_) | refine CondP.hf (by assumption) (fun h9 => ?_) | refine CondP.nt (by assumption) (fun h9 => ?_) | refine CondP.nf (by assumption) (fun h9 => ?_)); (try simp only [h9]); clear h9)); (try simp (maxSteps := 9999999) (disch := omega) only [go_sem, g1, g2, g3]); (try (refine And.intro ?_ ?_; (focus (first | omega | (simp only [go_sem]; done) | (simp; done) | (simp; omega) | assumption))))) | ((first | refine CondP.split (fun hif => ?_) (fun hif => ?_) | refine Runs.part (fun hif => ?_) (fun hif => ?_)) <;> ((try simp only [hif]); (try simp only [decide_eq_true_eq, decide_eq_false_iff_not, Bool.not_eq_true, Bool.not_eq_false, Bool.not_eq_true', Bool.not_eq_false', beq_iff_eq, bne_iff_ne, bne_eq_false_iff_eq, beq_eq_false_iff_ne, ne_eq, Bool.and_eq_true, Bool.or_eq_true, Bool.or_eq_false_iff] at hif); (try (have h9 : _ = true := hif; simp only [h9])); (try (have h9 : _ = false := hif; simp only [h9])); (try simp (maxSteps := 9999999) (disch := omega) only [go_sem, g1, g2, g3]); (try (refine And.intro ?_ ?_; (focus (first | omega | (simp only [go_sem]; done) | (simp; done) | (simp; omega) | assumption)))); (try (exfalso; omega; done))))))
    (apply Ret.det []; (focus (first | exact .inl rfl | exact .inr rfl)); (focus (simp (maxSteps := 9999999) (disch := omega) only [go_sem]; rfl)); (simp (maxSteps := 9999999) (disch := omega) only [go_sem]; (try (repeat' (first | done | trivial | rfl | exact leAs_rfl _ | decide | (refine And.intro ?_ ?_) | (simp; done) | omega | (simp; decide))))))
  · have g3 : (t2 < 0) = False := eq_false h
    have g4 : (2147483647 < t2) = True := eq_true (by omega)
    refine ACall.startA c32_ok Try.func32 rfl Try.ntmps32 (by kernel_rfl) res32_ok rfl rfl rfl ?_; simp (maxSteps := 9999999) (disch := omega) only [go_sem]
    (repeat' (first | refine AWpA.seq ?_ | refine AWpA.block ?_ | (with_reducible refine CondP.tt ?_) | (with_reducible refine CondP.ff ?_) | refine AWpA.condv (by simp (maxSteps := 9999999) (disch := omega) only [go_sem, g1, g2, g3, g4]; rfl) ?_ | ((first | (apply AWpA.region; (focus (simp (maxSteps := 9999999) (disch := omega) only [go_sem, g1, g2, g3, g4]; rfl))) | (apply AWpA.draw [] [] follows; (focus (first | rfl | decide)); (focus (simp (maxSteps := 9999999) (disch := omega) only [go_sem, g1, g2, g3, g4]; rfl)); (focus (simp (maxSteps := 9999999) (disch := omega) only [go_sem, g1, g2, g3, g4]; first | done | trivial)); (focus (simp (maxSteps := 9999999) (disch := omega) only [go_sem, g1, g2, g3, g4]; rfl))) | (apply TailK.go; (focus (simp (maxSteps := 9999999) (disch := omega) only [go_sem, g1, g2, g3, g4]; rfl))) | refine AWpA.skip ?_ | refine AWpA.exit ?_ | refine AWpA.ret ?_ | (with_reducible refine ARoundsA.succ ?_) | ((first | refine Runs.kt (by assumption) (fun h9 => ?_) | refine Runs.kf (by assumption) (fun h9 => ?_) | refine Runs.nt (by assumption) (fun h9 => ?_) | refine Runs.nf (by assumption) (fun h9 => ?_) | refine CondP.ht (by assumption) (fun h9 => ?_) | refine CondP.hf (by assumption) (fun h9 => ?_) | refine CondP.nt (by assumption) (fun h9 => ?_) | refine CondP.nf (by assumption) (fun h9 => ?_)); (try simp only [h9]); clear h9)); (try simp (maxSteps := 9999999) (disch := omega) only [go_sem, g1, g2, g3, g4]); (try (refine And.intro ?_ ?_; (focus (first | omega | (simp only [go_sem]; done) | (simp; done) | (simp; omega) | assumption))))) | ((first | refine CondP.split (fun hif => ?_) (fun hif => ?_) | refine Runs.part (fun hif => ?_) (fun hif => ?_)) <;> ((try simp only [hif]); (try simp only [decide_eq_true_eq, decide_eq_false_iff_not, Bool.not_eq_true, Bool.not_eq_false, Bool.not_eq_true', Bool.not_eq_false', beq_iff_eq, bne_iff_ne, bne_eq_false_iff_eq, beq_eq_false_iff_ne, ne_eq, Bool.and_eq_true, Bool.or_eq_true, Bool.or_eq_false_iff] at hif); (try (have h9 : _ = true := hif; simp only [h9])); (try (have h9 : _ = false := hif; simp only [h9])); (try simp (maxSteps := 9999999) (disch := omega) only [go_sem, g1, g2, g3, g4]); (try (refine And.intro ?_ ?_; (focus (first | omega | (simp only [go_sem]; done) | (simp; done) | (simp; omega) | assumption)))); (try (exfalso; omega; done))))))
    (apply Ret.det []; (focus (first | exact .inl rfl | exact .inr rfl)); (focus (simp (maxSteps := 9999999) (disch := omega) only [go_sem]; rfl)); (simp (maxSteps := 9999999) (disch := omega) only [go_sem]; (try (repeat' (first | done | trivial | rfl | exact leAs_rfl _ | decide | (refine And.intro ?_ ?_) | (simp; done) | omega | (simp; decide))))))
/-- Is an entry none that this site keeps? -/
def refused (site t2 : Int) (e : En) : Bool := !(checkI e == 0) || (!dutyB e site || decide (t2 ≤ e.age))
def buryV (l : List PE) (e : En) : En := if Ue.hasP' l e.key = true ∧ eqSt (Ue.getP l e.key).st e.st = true then bothE (Ue.getP l e.key) e else e
def buryB (site t2 : Int) (l : List PE) (e : En) : Bool := !refused site t2 e && (if Ue.hasP' l e.key = true then (!laterB (Ue.getP l e.key).st e.st && !decide (Ue.getP l e.key = buryV l e)) else true)
def buryL (site t2 : Int) (l : List PE) (e : En) : List PE := if buryB site t2 l e = true then Ue.putP l e.key (buryV l e) else l
theorem bury_any (site t2 : Int) (t : Ue.Tb) (e : En) (ht : t.ok) (hroom : (t.l.length : Int) < t.room) (hkeys : Ue.hasP' t.l e.key = true → (Ue.getP t.l e.key).key = e.key) : ACall Try.prog 34 [.ptr 0 0, EnA e] [GrR 1 site t2, Ue.TbO 2 t, .cells false (Ue.Rp 0 t.l)]
    (Det (Bo (buryB site t2 t.l e)) [GrR 1 site t2, Ue.TbO 3 ⟨t.room, buryL site t2 t.l e⟩, .gone, .cells false (Ue.Rp 0 (buryL site t2 t.l e))]) := by
  have hr := Ue.rp_ren 0
  have k1 := check_any e
  have k2 := gduty_any e site
  by_cases hck : checkI e = 0
  · rw [hck] at k1
    cases hdu : dutyB e site with
    | false =>
      have e1 : buryB site t2 t.l e = false := by simp [buryB, refused, hdu]
      have e2 : buryL site t2 t.l e = t.l := by simp [buryL, e1]
      rw [e1, e2]
      rw [hdu] at k2
      clear e1 e2
      refine ACall.startA c34_ok Try.func34 rfl Try.ntmps34 (by kernel_rfl) res34_ok rfl rfl rfl ?_; simp (maxSteps := 9999999) (disch := omega) only [go_sem]
      (repeat' (first | refine AWpA.seq ?_ | refine AWpA.block ?_ | (with_reducible refine CondP.tt ?_) | (with_reducible refine CondP.ff ?_) | refine AWpA.condv (by simp (maxSteps := 9999999) (disch := omega) only [go_sem, hr]; rfl) ?_ | ((first | (apply AWpA.region; (focus (simp (maxSteps := 9999999) (disch := omega) only [go_sem, hr]; rfl))) | (apply AWpA.draw [] [] follows; (focus (first | rfl | decide)); (focus (simp (maxSteps := 9999999) (disch := omega) only [go_sem, hr]; rfl)); (focus (simp (maxSteps := 9999999) (disch := omega) only [go_sem, hr]; first | done | trivial)); (focus (simp (maxSteps := 9999999) (disch := omega) only [go_sem, hr]; rfl))) | (apply TailK.go; (focus (simp (maxSteps := 9999999) (disch := omega) only [go_sem, hr]; rfl))) | refine AWpA.skip ?_ | refine AWpA.exit ?_ | refine AWpA.ret ?_ | (with_reducible refine ARoundsA.succ ?_) | ((first | refine Runs.kt (by assumption) (fun h9 => ?_) | refine Runs.kf (by assumption) (fun h9 => ?_) | refine Runs.nt (by assumption) (fun h9 => ?_) | refine Runs.nf (by assumption) (fun h9 => ?_) | refine CondP.ht (by assumption) (fun h9 => ?_) | refine CondP.hf (by assumption) (fun h9 => ?_) | refine CondP.nt (by assumption) (fun h9 => ?_) | refine CondP.nf (by assumption) (fun h9 => ?_)); (try simp only [h9]); clear h9) | ((first | (with_reducible apply CallG.plain1 [] (k1)) | (with_reducible apply CallG.draw1 [] (k1))); (focus ((try refine And.intro (leAs_of_eq rfl) ?_); (try refine And.intro (leOL_of_eq rfl) ?_); simp (maxSteps := 9999999) (disch := omega) only [go_sem, hr]; first | done | (repeat' (first | rfl | (refine And.intro ?_ ?_))))); (focus (simp (maxSteps := 9999999) (disch := omega) only [go_sem, hr]; rfl))) | ((first | (with_reducible apply CallG.plain1 [] (k2)) | (with_reducible apply CallG.draw1 [] (k2))); (focus ((try refine And.intro (leAs_of_eq rfl) ?_); (try refine And.intro (leOL_of_eq rfl) ?_); simp (maxSteps := 9999999) (disch := omega) only [go_sem, hr]; first | done | (repeat' (first | rfl | (refine And.intro ?_ ?_))))); (focus (simp (maxSteps := 9999999) (disch := omega) only [go_sem, hr]; rfl)))); (try simp (maxSteps := 9999999) (disch := omega) only [go_sem, hr]); (try (refine And.intro ?_ ?_; (focus (first | omega | (simp only [go_sem]; done) | (simp; done) | (simp; omega) | assumption))))) | ((first | refine CondP.split (fun hif => ?_) (fun hif => ?_) | refine Runs.part (fun hif => ?_) (fun hif => ?_)) <;> ((try simp only [hif]); (try simp only [decide_eq_true_eq, decide_eq_false_iff_not, Bool.not_eq_true, Bool.not_eq_false, Bool.not_eq_true', Bool.not_eq_false', beq_iff_eq, bne_iff_ne, bne_eq_false_iff_eq, beq_eq_false_iff_ne, ne_eq, Bool.and_eq_true, Bool.or_eq_true, Bool.or_eq_false_iff] at hif); (try (have h9 : _ = true := hif; simp only [h9])); (try (have h9 : _ = false := hif; simp only [h9])); (try simp (maxSteps := 9999999) (disch := omega) only [go_sem, hr]); (try (refine And.intro ?_ ?_; (focus (first | omega | (simp only [go_sem]; done) | (simp; done) | (simp; omega) | assumption)))); (try (exfalso; omega; done))))))
      (apply Ret.det [0, 1, 2, 2]; (focus (first | exact .inl rfl | exact .inr rfl)); (focus (simp (maxSteps := 9999999) (disch := omega) only [go_sem, hr]; rfl)); (simp (maxSteps := 9999999) (disch := omega) only [go_sem, hr]; (try (repeat' (first | done | trivial | rfl | exact leAs_rfl _ | decide | (refine And.intro ?_ ?_) | (simp; done) | omega | (simp; decide))))))
    | true =>
      rw [hdu] at k2
      by_cases hag : t2 ≤ e.age
      · have e1 : buryB site t2 t.l e = false := by simp [buryB, refused, hag]
        have e2 : buryL site t2 t.l e = t.l := by simp [buryL, e1]
        have g1 : (t2 ≤ e.age) = True := eq_true hag
        rw [e1, e2]
        clear e1 e2
        refine ACall.startA c34_ok Try.func34 rfl Try.ntmps34 (by kernel_rfl) res34_ok rfl rfl rfl ?_; simp (maxSteps := 9999999) (disch := omega) only [go_sem]
        (repeat' (first | refine AWpA.seq ?_ | refine AWpA.block ?_ | (with_reducible refine CondP.tt ?_) | (with_reducible refine CondP.ff ?_) | refine AWpA.condv (by simp (maxSteps := 9999999) (disch := omega) only [go_sem, hr, g1]; rfl) ?_ | ((first | (apply AWpA.region; (focus (simp (maxSteps := 9999999) (disch := omega) only [go_sem, hr, g1]; rfl))) | (apply AWpA.draw [] [] follows; (focus (first | rfl | decide)); (focus (simp (maxSteps := 9999999) (disch := omega) only [go_sem, hr, g1]; rfl)); (focus (simp (maxSteps := 9999999) (disch := omega) only [go_sem, hr, g1]; first | done | trivial)); (focus (simp (maxSteps := 9999999) (disch := omega) only [go_sem, hr, g1]; rfl))) | (apply TailK.go; (focus (simp (maxSteps := 9999999) (disch := omega) only [go_sem, hr, g1]; rfl))) | refine AWpA.skip ?_ | refine AWpA.exit ?_ | refine AWpA.ret ?_ | (with_reducible refine ARoundsA.succ ?_) | ((first | refine Runs.kt (by assumption) (fun h9 => ?_) | refine Runs.kf (by assumption) (fun h9 => ?_) | refine Runs.nt (by assumption) (fun h9 => ?_) | refine Runs.nf (by assumption) (fun h9 => ?_) | refine CondP.ht (by assumption) (fun h9 => ?_) | refine CondP.hf (by assumption) (fun h9 => ?_) | refine CondP.nt (by assumption) (fun h9 => ?_) | refine CondP.nf (by assumption) (fun h9 => ?_)); (try simp only [h9]); clear h9) | ((first | (with_reducible apply CallG.plain1 [] (k1)) | (with_reducible apply CallG.draw1 [] (k1))); (focus ((try refine And.intro (leAs_of_eq rfl) ?_); (try refine And.intro (leOL_of_eq rfl) ?_); simp (maxSteps := 9999999) (disch := omega) only [go_sem, hr, g1]; first | done | (repeat' (first | rfl | (refine And.intro ?_ ?_))))); (focus (simp (maxSteps := 9999999) (disch := omega) only [go_sem, hr, g1]; rfl))) | ((first | (with_reducible apply CallG.plain1 [] (k2)) | (with_reducible apply CallG.draw1 [] (k2))); (focus ((try refine And.intro (leAs_of_eq rfl) ?_); (try refine And.intro (leOL_of_eq rfl) ?_); simp (maxSteps := 9999999) (disch := omega) only [go_sem, hr, g1]; first | done | (repeat' (first | rfl | (refine And.intro ?_ ?_))))); (focus (simp (maxSteps := 9999999) (disch := omega) only [go_sem, hr, g1]; rfl)))); (try simp (maxSteps := 9999999) (disch := omega) only [go_sem, hr, g1]); (try (refine And.intro ?_ ?_; (focus (first | omega | (simp only [go_sem]; done) | (simp; done) | (simp; omega) | assumption))))) | ((first | refine CondP.split (fun hif => ?_) (fun hif => ?_) | refine Runs.part (fun hif => ?_) (fun hif => ?_)) <;> ((try simp only [hif]); (try simp only [decide_eq_true_eq, decide_eq_false_iff_not, Bool.not_eq_true, Bool.not_eq_false, Bool.not_eq_true', Bool.not_eq_false', beq_iff_eq, bne_iff_ne, bne_eq_false_iff_eq, beq_eq_false_iff_ne, ne_eq, Bool.and_eq_true, Bool.or_eq_true, Bool.or_eq_false_iff] at hif); (try (have h9 : _ = true := hif; simp only [h9])); (try (have h9 : _ = false := hif; simp only [h9])); (try simp (maxSteps := 9999999) (disch := omega) only [go_sem, hr, g1]); (try (refine And.intro ?_ ?_; (focus (first | omega | (simp only [go_sem]; done) | (simp; done) | (simp; omega) | assumption)))); (try (exfalso; omega; done))))))
        (apply Ret.det [0, 1, 2, 2]; (focus (first | exact .inl rfl | exact .inr rfl)); (focus (simp (maxSteps := 9999999) (disch := omega) only [go_sem, hr]; rfl)); (simp (maxSteps := 9999999) (disch := omega) only [go_sem, hr]; (try (repeat' (first | done | trivial | rfl | exact leAs_rfl _ | decide | (refine And.intro ?_ ?_) | (simp; done) | omega | (simp; decide))))))
      · have g1 : (t2 ≤ e.age) = False := eq_false hag
        have hrf : refused site t2 e = false := by simp [refused, hck, hdu, hag]
        have k3 := Ue.tget_any t e.key ht
        cases hh : Ue.hasP' t.l e.key with
        | false =>
          have e1 : buryB site t2 t.l e = true := by simp [buryB, hrf, hh]
          have ev : buryV t.l e = e := by simp [buryV, hh]
          have e2 : buryL site t2 t.l e = Ue.putP t.l e.key e := by simp [buryL, e1, ev]
          have k4 := Ue.tput_any t e.key e ht
          have e3 : Ue.putE t e.key = 0 := by unfold Ue.putE; rw [hh, decide_eq_false (by omega)]; rfl
          have e4 : Ue.putT t e.key e = ⟨t.room, Ue.putP t.l e.key e⟩ := by unfold Ue.putT; rw [hh, decide_eq_false (by omega)]; rfl
          rw [e3, e4] at k4
          rw [hh] at k3
          rw [e1, e2]
          clear e1 e2 e3 e4 ev hrf hh
          generalize Ue.putP t.l e.key e = l' at *
          generalize Ue.getP t.l e.key = was at *
          refine ACall.startA c34_ok Try.func34 rfl Try.ntmps34 (by kernel_rfl) res34_ok rfl rfl rfl ?_; simp (maxSteps := 9999999) (disch := omega) only [go_sem]
          (repeat' (first | refine AWpA.seq ?_ | refine AWpA.block ?_ | (with_reducible refine CondP.tt ?_) | (with_reducible refine CondP.ff ?_) | refine AWpA.condv (by simp (maxSteps := 9999999) (disch := omega) only [go_sem, hr, g1]; rfl) ?_ | ((first | (apply AWpA.region; (focus (simp (maxSteps := 9999999) (disch := omega) only [go_sem, hr, g1]; rfl))) | (apply AWpA.draw [1, 2] [] follows; (focus (first | rfl | decide)); (focus (simp (maxSteps := 9999999) (disch := omega) only [go_sem, hr, g1]; rfl)); (focus (simp (maxSteps := 9999999) (disch := omega) only [go_sem, hr, g1]; first | done | trivial)); (focus (simp (maxSteps := 9999999) (disch := omega) only [go_sem, hr, g1]; rfl))) | (apply TailK.go; (focus (simp (maxSteps := 9999999) (disch := omega) only [go_sem, hr, g1]; rfl))) | refine AWpA.skip ?_ | refine AWpA.exit ?_ | refine AWpA.ret ?_ | (with_reducible refine ARoundsA.succ ?_) | ((first | refine Runs.kt (by assumption) (fun h9 => ?_) | refine Runs.kf (by assumption) (fun h9 => ?_) | refine Runs.nt (by assumption) (fun h9 => ?_) | refine Runs.nf (by assumption) (fun h9 => ?_) | refine CondP.ht (by assumption) (fun h9 => ?_) | refine CondP.hf (by assumption) (fun h9 => ?_) | refine CondP.nt (by assumption) (fun h9 => ?_) | refine CondP.nf (by assumption) (fun h9 => ?_)); (try simp only [h9]); clear h9) | ((first | (with_reducible apply CallG.plain1 [] (k1)) | (with_reducible apply CallG.draw1 [] (k1))); (focus ((try refine And.intro (leAs_of_eq rfl) ?_); (try refine And.intro (leOL_of_eq rfl) ?_); simp (maxSteps := 9999999) (disch := omega) only [go_sem, hr, g1]; first | done | (repeat' (first | rfl | (refine And.intro ?_ ?_))))); (focus (simp (maxSteps := 9999999) (disch := omega) only [go_sem, hr, g1]; rfl))) | ((first | (with_reducible apply CallG.plain1 [] (k2)) | (with_reducible apply CallG.draw1 [] (k2))); (focus ((try refine And.intro (leAs_of_eq rfl) ?_); (try refine And.intro (leOL_of_eq rfl) ?_); simp (maxSteps := 9999999) (disch := omega) only [go_sem, hr, g1]; first | done | (repeat' (first | rfl | (refine And.intro ?_ ?_))))); (focus (simp (maxSteps := 9999999) (disch := omega) only [go_sem, hr, g1]; rfl))) | ((first | (with_reducible apply CallG.plain1 [1, 2] (k3)) | (with_reducible apply CallG.draw1 [1, 2] (k3))); (focus ((try refine And.intro (leAs_of_eq rfl) ?_); (try refine And.intro (leOL_of_eq rfl) ?_); simp (maxSteps := 9999999) (disch := omega) only [go_sem, hr, g1]; first | done | (repeat' (first | rfl | (refine And.intro ?_ ?_))))); (focus (simp (maxSteps := 9999999) (disch := omega) only [go_sem, hr, g1]; rfl))) | ((first | (with_reducible apply CallG.plain1 [1, 2] (k4)) | (with_reducible apply CallG.draw1 [1, 2] (k4))); (focus ((try refine And.intro (leAs_of_eq rfl) ?_); (try refine And.intro (leOL_of_eq rfl) ?_); simp (maxSteps := 9999999) (disch := omega) only [go_sem, hr, g1]; first | done | (repeat' (first | rfl | (refine And.intro ?_ ?_))))); (focus (simp (maxSteps := 9999999) (disch := omega) only [go_sem, hr, g1]; rfl)))); (try simp (maxSteps := 9999999) (disch := omega) only [go_sem, hr, g1]); (try (refine And.intro ?_ ?_; (focus (first | omega | (simp only [go_sem]; done) | (simp; done) | (simp; omega) | assumption))))) | ((first | refine CondP.split (fun hif => ?_) (fun hif => ?_) | refine Runs.part (fun hif => ?_) (fun hif => ?_)) <;> ((try simp only [hif]); (try simp only [decide_eq_true_eq, decide_eq_false_iff_not, Bool.not_eq_true, Bool.not_eq_false, Bool.not_eq_true', Bool.not_eq_false', beq_iff_eq, bne_iff_ne, bne_eq_false_iff_eq, beq_eq_false_iff_ne, ne_eq, Bool.and_eq_true, Bool.or_eq_true, Bool.or_eq_false_iff] at hif); (try (have h9 : _ = true := hif; simp only [h9])); (try (have h9 : _ = false := hif; simp only [h9])); (try simp (maxSteps := 9999999) (disch := omega) only [go_sem, hr, g1]); (try (refine And.intro ?_ ?_; (focus (first | omega | (simp only [go_sem]; done) | (simp; done) | (simp; omega) | assumption)))); (try (exfalso; omega; done))))))
          (apply Ret.det [0, 1, 2, 803]; (focus (first | exact .inl rfl | exact .inr rfl)); (focus (simp (maxSteps := 9999999) (disch := omega) only [go_sem, hr]; rfl)); (simp (maxSteps := 9999999) (disch := omega) only [go_sem, hr]; (try (repeat' (first | done | trivial | rfl | exact leAs_rfl _ | decide | (refine And.intro ?_ ?_) | (simp; done) | omega | (simp; decide))))))
        | true =>
          have hwk := hkeys hh
          rw [hh] at k3
          have k5 := compare_any (Ue.getP t.l e.key).st e.st
          have kgt := cmpS_gt (Ue.getP t.l e.key).st e.st
          have keq := cmpS_eq (Ue.getP t.l e.key).st e.st
          have k6 := both_any (Ue.getP t.l e.key) e
          have e3 : Ue.putE t e.key = 0 := by unfold Ue.putE; rw [hh]; rfl
          have e4 : ∀ v, Ue.putT t e.key v = ⟨t.room, Ue.putP t.l e.key v⟩ := fun v => by unfold Ue.putT; rw [hh]; rfl
          by_cases hlt : laterB (Ue.getP t.l e.key).st e.st = true
          · have e1 : buryB site t2 t.l e = false := by simp [buryB, hh, hlt]
            have e2 : buryL site t2 t.l e = t.l := by simp [buryL, e1]
            rw [hlt] at kgt
            have g2 : (0 < cmpS (Ue.getP t.l e.key).st e.st) = True := eq_true (of_decide_eq_true kgt)
            rw [e1, e2]
            clear e1 e2 e3 e4 hrf hh hwk keq kgt hlt
            generalize Ue.getP t.l e.key = was at *
            generalize cmpS was.st e.st = cc at *
            refine ACall.startA c34_ok Try.func34 rfl Try.ntmps34 (by kernel_rfl) res34_ok rfl rfl rfl ?_; simp (maxSteps := 9999999) (disch := omega) only [go_sem]
            (repeat' (first | refine AWpA.seq ?_ | refine AWpA.block ?_ | (with_reducible refine CondP.tt ?_) | (with_reducible refine CondP.ff ?_) | refine AWpA.condv (by simp (maxSteps := 9999999) (disch := omega) only [go_sem, hr, g1, g2]; rfl) ?_ | ((first | (apply AWpA.region; (focus (simp (maxSteps := 9999999) (disch := omega) only [go_sem, hr, g1, g2]; rfl))) | (apply AWpA.draw [] [] follows; (focus (first | rfl | decide)); (focus (simp (maxSteps := 9999999) (disch := omega) only [go_sem, hr, g1, g2]; rfl)); (focus (simp (maxSteps := 9999999) (disch := omega) only [go_sem, hr, g1, g2]; first | done | trivial)); (focus (simp (maxSteps := 9999999) (disch := omega) only [go_sem, hr, g1, g2]; rfl))) | (apply TailK.go; (focus (simp (maxSteps := 9999999) (disch := omega) only [go_sem, hr, g1, g2]; rfl))) | refine AWpA.skip ?_ | refine AWpA.exit ?_ | refine AWpA.ret ?_ | (with_reducible refine ARoundsA.succ ?_) | ((first | refine Runs.kt (by assumption) (fun h9 => ?_) | refine Runs.kf (by assumption) (fun h9 => ?_) | refine Runs.nt (by assumption) (fun h9 => ?_) | refine Runs.nf (by assumption) (fun h9 => ?_) | refine CondP.ht (by assumption) (fun h9 => ?_) | refine CondP.hf (by assumption) (fun h9 => ?_) | refine CondP.nt (by assumption) (fun h9 => ?_) | refine CondP.nf (by assumption) (fun h9 => ?_)); (try simp only [h9]); clear h9) | ((first | (with_reducible apply CallG.plain1 [] (k1)) | (with_reducible apply CallG.draw1 [] (k1))); (focus ((try refine And.intro (leAs_of_eq rfl) ?_); (try refine And.intro (leOL_of_eq rfl) ?_); simp (maxSteps := 9999999) (disch := omega) only [go_sem, hr, g1, g2]; first | done | (repeat' (first | rfl | (refine And.intro ?_ ?_))))); (focus (simp (maxSteps := 9999999) (disch := omega) only [go_sem, hr, g1, g2]; rfl))) | ((first | (with_reducible apply CallG.plain1 [] (k2)) | (with_reducible apply CallG.draw1 [] (k2))); (focus ((try refine And.intro (leAs_of_eq rfl) ?_); (try refine And.intro (leOL_of_eq rfl) ?_); simp (maxSteps := 9999999) (disch := omega) only [go_sem, hr, g1, g2]; first | done | (repeat' (first | rfl | (refine And.intro ?_ ?_))))); (focus (simp (maxSteps := 9999999) (disch := omega) only [go_sem, hr, g1, g2]; rfl))) | ((first | (with_reducible apply CallG.plain1 [1, 2] (k3)) | (with_reducible apply CallG.draw1 [1, 2] (k3))); (focus ((try refine And.intro (leAs_of_eq rfl) ?_); (try refine And.intro (leOL_of_eq rfl) ?_); simp (maxSteps := 9999999) (disch := omega) only [go_sem, hr, g1, g2]; first | done | (repeat' (first | rfl | (refine And.intro ?_ ?_))))); (focus (simp (maxSteps := 9999999) (disch := omega) only [go_sem, hr, g1, g2]; rfl))) | ((first | (with_reducible apply CallG.plain1 [] (k5)) | (with_reducible apply CallG.draw1 [] (k5))); (focus ((try refine And.intro (leAs_of_eq rfl) ?_); (try refine And.intro (leOL_of_eq rfl) ?_); simp (maxSteps := 9999999) (disch := omega) only [go_sem, hr, g1, g2]; first | done | (repeat' (first | rfl | (refine And.intro ?_ ?_))))); (focus (simp (maxSteps := 9999999) (disch := omega) only [go_sem, hr, g1, g2]; rfl)))); (try simp (maxSteps := 9999999) (disch := omega) only [go_sem, hr, g1, g2]); (try (refine And.intro ?_ ?_; (focus (first | omega | (simp only [go_sem]; done) | (simp; done) | (simp; omega) | assumption))))) | ((first | refine CondP.split (fun hif => ?_) (fun hif => ?_) | refine Runs.part (fun hif => ?_) (fun hif => ?_)) <;> ((try simp only [hif]); (try simp only [decide_eq_true_eq, decide_eq_false_iff_not, Bool.not_eq_true, Bool.not_eq_false, Bool.not_eq_true', Bool.not_eq_false', beq_iff_eq, bne_iff_ne, bne_eq_false_iff_eq, beq_eq_false_iff_ne, ne_eq, Bool.and_eq_true, Bool.or_eq_true, Bool.or_eq_false_iff] at hif); (try (have h9 : _ = true := hif; simp only [h9])); (try (have h9 : _ = false := hif; simp only [h9])); (try simp (maxSteps := 9999999) (disch := omega) only [go_sem, hr, g1, g2]); (try (refine And.intro ?_ ?_; (focus (first | omega | (simp only [go_sem]; done) | (simp; done) | (simp; omega) | assumption)))); (try (exfalso; omega; done))))))
            (apply Ret.det [0, 1, 2, 2]; (focus (first | exact .inl rfl | exact .inr rfl)); (focus (simp (maxSteps := 9999999) (disch := omega) only [go_sem, hr]; rfl)); (simp (maxSteps := 9999999) (disch := omega) only [go_sem, hr]; (try (repeat' (first | done | trivial | rfl | exact leAs_rfl _ | decide | (refine And.intro ?_ ?_) | (simp; done) | omega | (simp; decide))))))
          · have hlf : laterB (Ue.getP t.l e.key).st e.st = false := by simpa using hlt
            rw [hlf] at kgt
            have g2 : (0 < cmpS (Ue.getP t.l e.key).st e.st) = False := eq_false (of_decide_eq_false kgt)
            obtain ⟨v, hv⟩ : ∃ v, v = buryV t.l e := ⟨_, rfl⟩
            have hvk : v.key = e.key := by
              rw [hv]; unfold buryV; split
              · exact hwk
              · rfl
            have k4 := Ue.tput_any t e.key v ht
            rw [e3, e4] at k4
            have heqv := eqE_dec (Ue.getP t.l e.key) v
            have hbB : buryB site t2 t.l e = !decide (Ue.getP t.l e.key = v) := by rw [hv]; simp [buryB, hrf, hh, hlf]
            have hbL : buryL site t2 t.l e = if buryB site t2 t.l e = true then Ue.putP t.l e.key v else t.l := by rw [hv]; rfl
            have hvv : v = if eqSt (Ue.getP t.l e.key).st e.st = true then bothE (Ue.getP t.l e.key) e else e := by rw [hv]; simp [buryV, hh]
            clear e3 e4 hrf hh hwk hlt hlf kgt hv
            generalize Ue.getP t.l e.key = was at *
            generalize Ue.putP t.l e.key v = l' at *
            cases hes : eqSt was.st e.st with
            | true =>
              rw [hes] at keq hvv
              rw [if_pos rfl] at hvv
              have g3 : (cmpS was.st e.st = 0) = True := eq_true (by simpa using keq)
              have g3' : (cmpS was.st e.st == 0) = true := keq
              rw [← hvv] at k6
              clear hvv keq
              generalize cmpS was.st e.st = cc at *
              by_cases hw : was = v
              · rw [decide_eq_true hw] at heqv hbB
                rw [hbL, hbB, if_neg (by decide)]
                clear hbB hbL hw k4
                refine ACall.startA c34_ok Try.func34 rfl Try.ntmps34 (by kernel_rfl) res34_ok rfl rfl rfl ?_; simp (maxSteps := 9999999) (disch := omega) only [go_sem]
                (repeat' (first | refine AWpA.seq ?_ | refine AWpA.block ?_ | (with_reducible refine CondP.tt ?_) | (with_reducible refine CondP.ff ?_) | refine AWpA.condv (by simp (maxSteps := 9999999) (disch := omega) only [go_sem, hr, g1, g2, g3, g3', heqv]; rfl) ?_ | ((first | (apply AWpA.region; (focus (simp (maxSteps := 9999999) (disch := omega) only [go_sem, hr, g1, g2, g3, g3', heqv]; rfl))) | (apply AWpA.draw [] [] follows; (focus (first | rfl | decide)); (focus (simp (maxSteps := 9999999) (disch := omega) only [go_sem, hr, g1, g2, g3, g3', heqv]; rfl)); (focus (simp (maxSteps := 9999999) (disch := omega) only [go_sem, hr, g1, g2, g3, g3', heqv]; first | done | trivial)); (focus (simp (maxSteps := 9999999) (disch := omega) only [go_sem, hr, g1, g2, g3, g3', heqv]; rfl))) | (apply TailK.go; (focus (simp (maxSteps := 9999999) (disch := omega) only [go_sem, hr, g1, g2, g3, g3', heqv]; rfl))) | refine AWpA.skip ?_ | refine AWpA.exit ?_ | refine AWpA.ret ?_ | (with_reducible refine ARoundsA.succ ?_) | ((first | refine Runs.kt (by assumption) (fun h9 => ?_) | refine Runs.kf (by assumption) (fun h9 => ?_) | refine Runs.nt (by assumption) (fun h9 => ?_) | refine Runs.nf (by assumption) (fun h9 => ?_) | refine CondP.ht (by assumption) (fun h9 => ?_) | refine CondP.hf (by assumption) (fun h9 => ?_) | refine CondP.nt (by assumption) (fun h9 => ?_) | refine CondP.nf (by assumption) (fun h9 => ?_)); (try simp only [h9]); clear h9) | ((first | (with_reducible apply CallG.plain1 [] (k1)) | (with_reducible apply CallG.draw1 [] (k1))); (focus ((try refine And.intro (leAs_of_eq rfl) ?_); (try refine And.intro (leOL_of_eq rfl) ?_); simp (maxSteps := 9999999) (disch := omega) only [go_sem, hr, g1, g2, g3, g3', heqv]; first | done | (repeat' (first | rfl | (refine And.intro ?_ ?_))))); (focus (simp (maxSteps := 9999999) (disch := omega) only [go_sem, hr, g1, g2, g3, g3', heqv]; rfl))) | ((first | (with_reducible apply CallG.plain1 [] (k2)) | (with_reducible apply CallG.draw1 [] (k2))); (focus ((try refine And.intro (leAs_of_eq rfl) ?_); (try refine And.intro (leOL_of_eq rfl) ?_); simp (maxSteps := 9999999) (disch := omega) only [go_sem, hr, g1, g2, g3, g3', heqv]; first | done | (repeat' (first | rfl | (refine And.intro ?_ ?_))))); (focus (simp (maxSteps := 9999999) (disch := omega) only [go_sem, hr, g1, g2, g3, g3', heqv]; rfl))) | ((first | (with_reducible apply CallG.plain1 [1, 2] (k3)) | (with_reducible apply CallG.draw1 [1, 2] (k3))); (focus ((try refine And.intro (leAs_of_eq rfl) ?_); (try refine And.intro (leOL_of_eq rfl) ?_); simp (maxSteps := 9999999) (disch := omega) only [go_sem, hr, g1, g2, g3, g3', heqv]; first | done | (repeat' (first | rfl | (refine And.intro ?_ ?_))))); (focus (simp (maxSteps := 9999999) (disch := omega) only [go_sem, hr, g1, g2, g3, g3', heqv]; rfl))) | ((first | (with_reducible apply CallG.plain1 [] (k5)) | (with_reducible apply CallG.draw1 [] (k5))); (focus ((try refine And.intro (leAs_of_eq rfl) ?_); (try refine And.intro (leOL_of_eq rfl) ?_); simp (maxSteps := 9999999) (disch := omega) only [go_sem, hr, g1, g2, g3, g3', heqv]; first | done | (repeat' (first | rfl | (refine And.intro ?_ ?_))))); (focus (simp (maxSteps := 9999999) (disch := omega) only [go_sem, hr, g1, g2, g3, g3', heqv]; rfl))) | ((first | (with_reducible apply CallG.plain1 [] (k6)) | (with_reducible apply CallG.draw1 [] (k6))); (focus ((try refine And.intro (leAs_of_eq rfl) ?_); (try refine And.intro (leOL_of_eq rfl) ?_); simp (maxSteps := 9999999) (disch := omega) only [go_sem, hr, g1, g2, g3, g3', heqv]; first | done | (repeat' (first | rfl | (refine And.intro ?_ ?_))))); (focus (simp (maxSteps := 9999999) (disch := omega) only [go_sem, hr, g1, g2, g3, g3', heqv]; rfl)))); (try simp (maxSteps := 9999999) (disch := omega) only [go_sem, hr, g1, g2, g3, g3', heqv]); (try (refine And.intro ?_ ?_; (focus (first | omega | (simp only [go_sem]; done) | (simp; done) | (simp; omega) | assumption))))) | ((first | refine CondP.split (fun hif => ?_) (fun hif => ?_) | refine Runs.part (fun hif => ?_) (fun hif => ?_)) <;> ((try simp only [hif]); (try simp only [decide_eq_true_eq, decide_eq_false_iff_not, Bool.not_eq_true, Bool.not_eq_false, Bool.not_eq_true', Bool.not_eq_false', beq_iff_eq, bne_iff_ne, bne_eq_false_iff_eq, beq_eq_false_iff_ne, ne_eq, Bool.and_eq_true, Bool.or_eq_true, Bool.or_eq_false_iff] at hif); (try (have h9 : _ = true := hif; simp only [h9])); (try (have h9 : _ = false := hif; simp only [h9])); (try simp (maxSteps := 9999999) (disch := omega) only [go_sem, hr, g1, g2, g3, g3', heqv]); (try (refine And.intro ?_ ?_; (focus (first | omega | (simp only [go_sem]; done) | (simp; done) | (simp; omega) | assumption)))); (try (exfalso; omega; done))))))
                (apply Ret.det [0, 1, 2, 2]; (focus (first | exact .inl rfl | exact .inr rfl)); (focus (simp (maxSteps := 9999999) (disch := omega) only [go_sem, hr]; rfl)); (simp (maxSteps := 9999999) (disch := omega) only [go_sem, hr]; (try (repeat' (first | done | trivial | rfl | exact leAs_rfl _ | decide | (refine And.intro ?_ ?_) | (simp; done) | omega | (simp; decide))))))
              · rw [decide_eq_false hw] at heqv hbB
                rw [hbL, hbB, if_pos (by decide)]
                rw [← hvk] at k4
                clear hbB hbL hw hvk
                refine ACall.startA c34_ok Try.func34 rfl Try.ntmps34 (by kernel_rfl) res34_ok rfl rfl rfl ?_; simp (maxSteps := 9999999) (disch := omega) only [go_sem]
                (repeat' (first | refine AWpA.seq ?_ | refine AWpA.block ?_ | (with_reducible refine CondP.tt ?_) | (with_reducible refine CondP.ff ?_) | refine AWpA.condv (by simp (maxSteps := 9999999) (disch := omega) only [go_sem, hr, g1, g2, g3, g3', heqv]; rfl) ?_ | ((first | (apply AWpA.region; (focus (simp (maxSteps := 9999999) (disch := omega) only [go_sem, hr, g1, g2, g3, g3', heqv]; rfl))) | (apply AWpA.draw [1, 2] [] follows; (focus (first | rfl | decide)); (focus (simp (maxSteps := 9999999) (disch := omega) only [go_sem, hr, g1, g2, g3, g3', heqv]; rfl)); (focus (simp (maxSteps := 9999999) (disch := omega) only [go_sem, hr, g1, g2, g3, g3', heqv]; first | done | trivial)); (focus (simp (maxSteps := 9999999) (disch := omega) only [go_sem, hr, g1, g2, g3, g3', heqv]; rfl))) | (apply TailK.go; (focus (simp (maxSteps := 9999999) (disch := omega) only [go_sem, hr, g1, g2, g3, g3', heqv]; rfl))) | refine AWpA.skip ?_ | refine AWpA.exit ?_ | refine AWpA.ret ?_ | (with_reducible refine ARoundsA.succ ?_) | ((first | refine Runs.kt (by assumption) (fun h9 => ?_) | refine Runs.kf (by assumption) (fun h9 => ?_) | refine Runs.nt (by assumption) (fun h9 => ?_) | refine Runs.nf (by assumption) (fun h9 => ?_) | refine CondP.ht (by assumption) (fun h9 => ?_) | refine CondP.hf (by assumption) (fun h9 => ?_) | refine CondP.nt (by assumption) (fun h9 => ?_) | refine CondP.nf (by assumption) (fun h9 => ?_)); (try simp only [h9]); clear h9) | ((first | (with_reducible apply CallG.plain1 [] (k1)) | (with_reducible apply CallG.draw1 [] (k1))); (focus ((try refine And.intro (leAs_of_eq rfl) ?_); (try refine And.intro (leOL_of_eq rfl) ?_); simp (maxSteps := 9999999) (disch := omega) only [go_sem, hr, g1, g2, g3, g3', heqv]; first | done | (repeat' (first | rfl | (refine And.intro ?_ ?_))))); (focus (simp (maxSteps := 9999999) (disch := omega) only [go_sem, hr, g1, g2, g3, g3', heqv]; rfl))) | ((first | (with_reducible apply CallG.plain1 [] (k2)) | (with_reducible apply CallG.draw1 [] (k2))); (focus ((try refine And.intro (leAs_of_eq rfl) ?_); (try refine And.intro (leOL_of_eq rfl) ?_); simp (maxSteps := 9999999) (disch := omega) only [go_sem, hr, g1, g2, g3, g3', heqv]; first | done | (repeat' (first | rfl | (refine And.intro ?_ ?_))))); (focus (simp (maxSteps := 9999999) (disch := omega) only [go_sem, hr, g1, g2, g3, g3', heqv]; rfl))) | ((first | (with_reducible apply CallG.plain1 [1, 2] (k3)) | (with_reducible apply CallG.draw1 [1, 2] (k3))); (focus ((try refine And.intro (leAs_of_eq rfl) ?_); (try refine And.intro (leOL_of_eq rfl) ?_); simp (maxSteps := 9999999) (disch := omega) only [go_sem, hr, g1, g2, g3, g3', heqv]; first | done | (repeat' (first | rfl | (refine And.intro ?_ ?_))))); (focus (simp (maxSteps := 9999999) (disch := omega) only [go_sem, hr, g1, g2, g3, g3', heqv]; rfl))) | ((first | (with_reducible apply CallG.plain1 [] (k5)) | (with_reducible apply CallG.draw1 [] (k5))); (focus ((try refine And.intro (leAs_of_eq rfl) ?_); (try refine And.intro (leOL_of_eq rfl) ?_); simp (maxSteps := 9999999) (disch := omega) only [go_sem, hr, g1, g2, g3, g3', heqv]; first | done | (repeat' (first | rfl | (refine And.intro ?_ ?_))))); (focus (simp (maxSteps := 9999999) (disch := omega) only [go_sem, hr, g1, g2, g3, g3', heqv]; rfl))) | ((first | (with_reducible apply CallG.plain1 [] (k6)) | (with_reducible apply CallG.draw1 [] (k6))); (focus ((try refine And.intro (leAs_of_eq rfl) ?_); (try refine And.intro (leOL_of_eq rfl) ?_); simp (maxSteps := 9999999) (disch := omega) only [go_sem, hr, g1, g2, g3, g3', heqv]; first | done | (repeat' (first | rfl | (refine And.intro ?_ ?_))))); (focus (simp (maxSteps := 9999999) (disch := omega) only [go_sem, hr, g1, g2, g3, g3', heqv]; rfl))) | ((first | (with_reducible apply CallG.plain1 [1, 2] (k4)) | (with_reducible apply CallG.draw1 [1, 2] (k4))); (focus ((try refine And.intro (leAs_of_eq rfl) ?_); (try refine And.intro (leOL_of_eq rfl) ?_); simp (maxSteps := 9999999) (disch := omega) only [go_sem, hr, g1, g2, g3, g3', heqv]; first | done | (repeat' (first | rfl | (refine And.intro ?_ ?_))))); (focus (simp (maxSteps := 9999999) (disch := omega) only [go_sem, hr, g1, g2, g3, g3', heqv]; rfl)))); (try simp (maxSteps := 9999999) (disch := omega) only [go_sem, hr, g1, g2, g3, g3', heqv]); (try (refine And.intro ?_ ?_; (focus (first | omega | (simp only [go_sem]; done) | (simp; done) | (simp; omega) | assumption))))) | ((first | refine CondP.split (fun hif => ?_) (fun hif => ?_) | refine Runs.part (fun hif => ?_) (fun hif => ?_)) <;> ((try simp only [hif]); (try simp only [decide_eq_true_eq, decide_eq_false_iff_not, Bool.not_eq_true, Bool.not_eq_false, Bool.not_eq_true', Bool.not_eq_false', beq_iff_eq, bne_iff_ne, bne_eq_false_iff_eq, beq_eq_false_iff_ne, ne_eq, Bool.and_eq_true, Bool.or_eq_true, Bool.or_eq_false_iff] at hif); (try (have h9 : _ = true := hif; simp only [h9])); (try (have h9 : _ = false := hif; simp only [h9])); (try simp (maxSteps := 9999999) (disch := omega) only [go_sem, hr, g1, g2, g3, g3', heqv]); (try (refine And.intro ?_ ?_; (focus (first | omega | (simp only [go_sem]; done) | (simp; done) | (simp; omega) | assumption)))); (try (exfalso; omega; done))))))
                (apply Ret.det [0, 1, 2, _]; (focus (first | exact .inl rfl | exact .inr rfl)); (focus (simp (maxSteps := 9999999) (disch := omega) only [go_sem, hr]; rfl)); (simp (maxSteps := 9999999) (disch := omega) only [go_sem, hr]; (try (repeat' (first | done | trivial | rfl | exact leAs_rfl _ | decide | (refine And.intro ?_ ?_) | (simp; done) | omega | (simp; decide))))))
            | false =>
              rw [hes] at keq hvv
              rw [if_neg (by decide)] at hvv
              subst hvv
              have g3 : (cmpS was.st v.st = 0) = False := eq_false (by simpa using keq)
              have g3' : (cmpS was.st v.st == 0) = false := keq
              clear keq k6
              generalize cmpS was.st v.st = cc at *
              by_cases hw : was = v
              · rw [decide_eq_true hw] at heqv hbB
                rw [hbL, hbB, if_neg (by decide)]
                clear hbB hbL hw k4
                refine ACall.startA c34_ok Try.func34 rfl Try.ntmps34 (by kernel_rfl) res34_ok rfl rfl rfl ?_; simp (maxSteps := 9999999) (disch := omega) only [go_sem]
                (repeat' (first | refine AWpA.seq ?_ | refine AWpA.block ?_ | (with_reducible refine CondP.tt ?_) | (with_reducible refine CondP.ff ?_) | refine AWpA.condv (by simp (maxSteps := 9999999) (disch := omega) only [go_sem, hr, g1, g2, g3, g3', heqv]; rfl) ?_ | ((first | (apply AWpA.region; (focus (simp (maxSteps := 9999999) (disch := omega) only [go_sem, hr, g1, g2, g3, g3', heqv]; rfl))) | (apply AWpA.draw [] [] follows; (focus (first | rfl | decide)); (focus (simp (maxSteps := 9999999) (disch := omega) only [go_sem, hr, g1, g2, g3, g3', heqv]; rfl)); (focus (simp (maxSteps := 9999999) (disch := omega) only [go_sem, hr, g1, g2, g3, g3', heqv]; first | done | trivial)); (focus (simp (maxSteps := 9999999) (disch := omega) only [go_sem, hr, g1, g2, g3, g3', heqv]; rfl))) | (apply TailK.go; (focus (simp (maxSteps := 9999999) (disch := omega) only [go_sem, hr, g1, g2, g3, g3', heqv]; rfl))) | refine AWpA.skip ?_ | refine AWpA.exit ?_ | refine AWpA.ret ?_ | (with_reducible refine ARoundsA.succ ?_) | ((first | refine Runs.kt (by assumption) (fun h9 => ?_) | refine Runs.kf (by assumption) (fun h9 => ?_) | refine Runs.nt (by assumption) (fun h9 => ?_) | refine Runs.nf (by assumption) (fun h9 => ?_) | refine CondP.ht (by assumption) (fun h9 => ?_) | refine CondP.hf (by assumption) (fun h9 => ?_) | refine CondP.nt (by assumption) (fun h9 => ?_) | refine CondP.nf (by assumption) (fun h9 => ?_)); (try simp only [h9]); clear h9) | ((first | (with_reducible apply CallG.plain1 [] (k1)) | (with_reducible apply CallG.draw1 [] (k1))); (focus ((try refine And.intro (leAs_of_eq rfl) ?_); (try refine And.intro (leOL_of_eq rfl) ?_); simp (maxSteps := 9999999) (disch := omega) only [go_sem, hr, g1, g2, g3, g3', heqv]; first | done | (repeat' (first | rfl | (refine And.intro ?_ ?_))))); (focus (simp (maxSteps := 9999999) (disch := omega) only [go_sem, hr, g1, g2, g3, g3', heqv]; rfl))) | ((first | (with_reducible apply CallG.plain1 [] (k2)) | (with_reducible apply CallG.draw1 [] (k2))); (focus ((try refine And.intro (leAs_of_eq rfl) ?_); (try refine And.intro (leOL_of_eq rfl) ?_); simp (maxSteps := 9999999) (disch := omega) only [go_sem, hr, g1, g2, g3, g3', heqv]; first | done | (repeat' (first | rfl | (refine And.intro ?_ ?_))))); (focus (simp (maxSteps := 9999999) (disch := omega) only [go_sem, hr, g1, g2, g3, g3', heqv]; rfl))) | ((first | (with_reducible apply CallG.plain1 [1, 2] (k3)) | (with_reducible apply CallG.draw1 [1, 2] (k3))); (focus ((try refine And.intro (leAs_of_eq rfl) ?_); (try refine And.intro (leOL_of_eq rfl) ?_); simp (maxSteps := 9999999) (disch := omega) only [go_sem, hr, g1, g2, g3, g3', heqv]; first | done | (repeat' (first | rfl | (refine And.intro ?_ ?_))))); (focus (simp (maxSteps := 9999999) (disch := omega) only [go_sem, hr, g1, g2, g3, g3', heqv]; rfl))) | ((first | (with_reducible apply CallG.plain1 [] (k5)) | (with_reducible apply CallG.draw1 [] (k5))); (focus ((try refine And.intro (leAs_of_eq rfl) ?_); (try refine And.intro (leOL_of_eq rfl) ?_); simp (maxSteps := 9999999) (disch := omega) only [go_sem, hr, g1, g2, g3, g3', heqv]; first | done | (repeat' (first | rfl | (refine And.intro ?_ ?_))))); (focus (simp (maxSteps := 9999999) (disch := omega) only [go_sem, hr, g1, g2, g3, g3', heqv]; rfl)))); (try simp (maxSteps := 9999999) (disch := omega) only [go_sem, hr, g1, g2, g3, g3', heqv]); (try (refine And.intro ?_ ?_; (focus (first | omega | (simp only [go_sem]; done) | (simp; done) | (simp; omega) | assumption))))) | ((first | refine CondP.split (fun hif => ?_) (fun hif => ?_) | refine Runs.part (fun hif => ?_) (fun hif => ?_)) <;> ((try simp only [hif]); (try simp only [decide_eq_true_eq, decide_eq_false_iff_not, Bool.not_eq_true, Bool.not_eq_false, Bool.not_eq_true', Bool.not_eq_false', beq_iff_eq, bne_iff_ne, bne_eq_false_iff_eq, beq_eq_false_iff_ne, ne_eq, Bool.and_eq_true, Bool.or_eq_true, Bool.or_eq_false_iff] at hif); (try (have h9 : _ = true := hif; simp only [h9])); (try (have h9 : _ = false := hif; simp only [h9])); (try simp (maxSteps := 9999999) (disch := omega) only [go_sem, hr, g1, g2, g3, g3', heqv]); (try (refine And.intro ?_ ?_; (focus (first | omega | (simp only [go_sem]; done) | (simp; done) | (simp; omega) | assumption)))); (try (exfalso; omega; done))))))
                (apply Ret.det [0, 1, 2, 2]; (focus (first | exact .inl rfl | exact .inr rfl)); (focus (simp (maxSteps := 9999999) (disch := omega) only [go_sem, hr]; rfl)); (simp (maxSteps := 9999999) (disch := omega) only [go_sem, hr]; (try (repeat' (first | done | trivial | rfl | exact leAs_rfl _ | decide | (refine And.intro ?_ ?_) | (simp; done) | omega | (simp; decide))))))
              · rw [decide_eq_false hw] at heqv hbB
                rw [hbL, hbB, if_pos (by decide)]
                clear hbB hbL hw
                refine ACall.startA c34_ok Try.func34 rfl Try.ntmps34 (by kernel_rfl) res34_ok rfl rfl rfl ?_; simp (maxSteps := 9999999) (disch := omega) only [go_sem]
                (repeat' (first | refine AWpA.seq ?_ | refine AWpA.block ?_ | (with_reducible refine CondP.tt ?_) | (with_reducible refine CondP.ff ?_) | refine AWpA.condv (by simp (maxSteps := 9999999) (disch := omega) only [go_sem, hr, g1, g2, g3, g3', heqv]; rfl) ?_ | ((first | (apply AWpA.region; (focus (simp (maxSteps := 9999999) (disch := omega) only [go_sem, hr, g1, g2, g3, g3', heqv]; rfl))) | (apply AWpA.draw [1, 2] [] follows; (focus (first | rfl | decide)); (focus (simp (maxSteps := 9999999) (disch := omega) only [go_sem, hr, g1, g2, g3, g3', heqv]; rfl)); (focus (simp (maxSteps := 9999999) (disch := omega) only [go_sem, hr, g1, g2, g3, g3', heqv]; first | done | trivial)); (focus (simp (maxSteps := 9999999) (disch := omega) only [go_sem, hr, g1, g2, g3, g3', heqv]; rfl))) | (apply TailK.go; (focus (simp (maxSteps := 9999999) (disch := omega) only [go_sem, hr, g1, g2, g3, g3', heqv]; rfl))) | refine AWpA.skip ?_ | refine AWpA.exit ?_ | refine AWpA.ret ?_ | (with_reducible refine ARoundsA.succ ?_) | ((first | refine Runs.kt (by assumption) (fun h9 => ?_) | refine Runs.kf (by assumption) (fun h9 => ?_) | refine Runs.nt (by assumption) (fun h9 => ?_) | refine Runs.nf (by assumption) (fun h9 => ?_) | refine CondP.ht (by assumption) (fun h9 => ?_) | refine CondP.hf (by assumption) (fun h9 => ?_) | refine CondP.nt (by assumption) (fun h9 => ?_) | refine CondP.nf (by assumption) (fun h9 => ?_)); (try simp only [h9]); clear h9) | ((first | (with_reducible apply CallG.plain1 [] (k1)) | (with_reducible apply CallG.draw1 [] (k1))); (focus ((try refine And.intro (leAs_of_eq rfl) ?_); (try refine And.intro (leOL_of_eq rfl) ?_); simp (maxSteps := 9999999) (disch := omega) only [go_sem, hr, g1, g2, g3, g3', heqv]; first | done | (repeat' (first | rfl | (refine And.intro ?_ ?_))))); (focus (simp (maxSteps := 9999999) (disch := omega) only [go_sem, hr, g1, g2, g3, g3', heqv]; rfl))) | ((first | (with_reducible apply CallG.plain1 [] (k2)) | (with_reducible apply CallG.draw1 [] (k2))); (focus ((try refine And.intro (leAs_of_eq rfl) ?_); (try refine And.intro (leOL_of_eq rfl) ?_); simp (maxSteps := 9999999) (disch := omega) only [go_sem, hr, g1, g2, g3, g3', heqv]; first | done | (repeat' (first | rfl | (refine And.intro ?_ ?_))))); (focus (simp (maxSteps := 9999999) (disch := omega) only [go_sem, hr, g1, g2, g3, g3', heqv]; rfl))) | ((first | (with_reducible apply CallG.plain1 [1, 2] (k3)) | (with_reducible apply CallG.draw1 [1, 2] (k3))); (focus ((try refine And.intro (leAs_of_eq rfl) ?_); (try refine And.intro (leOL_of_eq rfl) ?_); simp (maxSteps := 9999999) (disch := omega) only [go_sem, hr, g1, g2, g3, g3', heqv]; first | done | (repeat' (first | rfl | (refine And.intro ?_ ?_))))); (focus (simp (maxSteps := 9999999) (disch := omega) only [go_sem, hr, g1, g2, g3, g3', heqv]; rfl))) | ((first | (with_reducible apply CallG.plain1 [] (k5)) | (with_reducible apply CallG.draw1 [] (k5))); (focus ((try refine And.intro (leAs_of_eq rfl) ?_); (try refine And.intro (leOL_of_eq rfl) ?_); simp (maxSteps := 9999999) (disch := omega) only [go_sem, hr, g1, g2, g3, g3', heqv]; first | done | (repeat' (first | rfl | (refine And.intro ?_ ?_))))); (focus (simp (maxSteps := 9999999) (disch := omega) only [go_sem, hr, g1, g2, g3, g3', heqv]; rfl))) | ((first | (with_reducible apply CallG.plain1 [1, 2] (k4)) | (with_reducible apply CallG.draw1 [1, 2] (k4))); (focus ((try refine And.intro (leAs_of_eq rfl) ?_); (try refine And.intro (leOL_of_eq rfl) ?_); simp (maxSteps := 9999999) (disch := omega) only [go_sem, hr, g1, g2, g3, g3', heqv]; first | done | (repeat' (first | rfl | (refine And.intro ?_ ?_))))); (focus (simp (maxSteps := 9999999) (disch := omega) only [go_sem, hr, g1, g2, g3, g3', heqv]; rfl)))); (try simp (maxSteps := 9999999) (disch := omega) only [go_sem, hr, g1, g2, g3, g3', heqv]); (try (refine And.intro ?_ ?_; (focus (first | omega | (simp only [go_sem]; done) | (simp; done) | (simp; omega) | assumption))))) | ((first | refine CondP.split (fun hif => ?_) (fun hif => ?_) | refine Runs.part (fun hif => ?_) (fun hif => ?_)) <;> ((try simp only [hif]); (try simp only [decide_eq_true_eq, decide_eq_false_iff_not, Bool.not_eq_true, Bool.not_eq_false, Bool.not_eq_true', Bool.not_eq_false', beq_iff_eq, bne_iff_ne, bne_eq_false_iff_eq, beq_eq_false_iff_ne, ne_eq, Bool.and_eq_true, Bool.or_eq_true, Bool.or_eq_false_iff] at hif); (try (have h9 : _ = true := hif; simp only [h9])); (try (have h9 : _ = false := hif; simp only [h9])); (try simp (maxSteps := 9999999) (disch := omega) only [go_sem, hr, g1, g2, g3, g3', heqv]); (try (refine And.intro ?_ ?_; (focus (first | omega | (simp only [go_sem]; done) | (simp; done) | (simp; omega) | assumption)))); (try (exfalso; omega; done))))))
                (apply Ret.det [0, 1, 2, _]; (focus (first | exact .inl rfl | exact .inr rfl)); (focus (simp (maxSteps := 9999999) (disch := omega) only [go_sem, hr]; rfl)); (simp (maxSteps := 9999999) (disch := omega) only [go_sem, hr]; (try (repeat' (first | done | trivial | rfl | exact leAs_rfl _ | decide | (refine And.intro ?_ ?_) | (simp; done) | omega | (simp; decide))))))
  · have e1 : buryB site t2 t.l e = false := by simp [buryB, refused, hck]
    have e2 : buryL site t2 t.l e = t.l := by simp [buryL, e1]
    have g1 : (checkI e = 0) = False := eq_false hck
    rw [e1, e2]
    clear e1 e2
    refine ACall.startA c34_ok Try.func34 rfl Try.ntmps34 (by kernel_rfl) res34_ok rfl rfl rfl ?_; simp (maxSteps := 9999999) (disch := omega) only [go_sem]
    (repeat' (first | refine AWpA.seq ?_ | refine AWpA.block ?_ | (with_reducible refine CondP.tt ?_) | (with_reducible refine CondP.ff ?_) | refine AWpA.condv (by simp (maxSteps := 9999999) (disch := omega) only [go_sem, hr, g1]; rfl) ?_ | ((first | (apply AWpA.region; (focus (simp (maxSteps := 9999999) (disch := omega) only [go_sem, hr, g1]; rfl))) | (apply AWpA.draw [] [] follows; (focus (first | rfl | decide)); (focus (simp (maxSteps := 9999999) (disch := omega) only [go_sem, hr, g1]; rfl)); (focus (simp (maxSteps := 9999999) (disch := omega) only [go_sem, hr, g1]; first | done | trivial)); (focus (simp (maxSteps := 9999999) (disch := omega) only [go_sem, hr, g1]; rfl))) | (apply TailK.go; (focus (simp (maxSteps := 9999999) (disch := omega) only [go_sem, hr, g1]; rfl))) | refine AWpA.skip ?_ | refine AWpA.exit ?_ | refine AWpA.ret ?_ | (with_reducible refine ARoundsA.succ ?_) | ((first | refine Runs.kt (by assumption) (fun h9 => ?_) | refine Runs.kf (by assumption) (fun h9 => ?_) | refine Runs.nt (by assumption) (fun h9 => ?_) | refine Runs.nf (by assumption) (fun h9 => ?_) | refine CondP.ht (by assumption) (fun h9 => ?_) | refine CondP.hf (by assumption) (fun h9 => ?_) | refine CondP.nt (by assumption) (fun h9 => ?_) | refine CondP.nf (by assumption) (fun h9 => ?_)); (try simp only [h9]); clear h9) | ((first | (with_reducible apply CallG.plain1 [] (k1)) | (with_reducible apply CallG.draw1 [] (k1))); (focus ((try refine And.intro (leAs_of_eq rfl) ?_); (try refine And.intro (leOL_of_eq rfl) ?_); simp (maxSteps := 9999999) (disch := omega) only [go_sem, hr, g1]; first | done | (repeat' (first | rfl | (refine And.intro ?_ ?_))))); (focus (simp (maxSteps := 9999999) (disch := omega) only [go_sem, hr, g1]; rfl)))); (try simp (maxSteps := 9999999) (disch := omega) only [go_sem, hr, g1]); (try (refine And.intro ?_ ?_; (focus (first | omega | (simp only [go_sem]; done) | (simp; done) | (simp; omega) | assumption))))) | ((first | refine CondP.split (fun hif => ?_) (fun hif => ?_) | refine Runs.part (fun hif => ?_) (fun hif => ?_)) <;> ((try simp only [hif]); (try simp only [decide_eq_true_eq, decide_eq_false_iff_not, Bool.not_eq_true, Bool.not_eq_false, Bool.not_eq_true', Bool.not_eq_false', beq_iff_eq, bne_iff_ne, bne_eq_false_iff_eq, beq_eq_false_iff_ne, ne_eq, Bool.and_eq_true, Bool.or_eq_true, Bool.or_eq_false_iff] at hif); (try (have h9 : _ = true := hif; simp only [h9])); (try (have h9 : _ = false := hif; simp only [h9])); (try simp (maxSteps := 9999999) (disch := omega) only [go_sem, hr, g1]); (try (refine And.intro ?_ ?_; (focus (first | omega | (simp only [go_sem]; done) | (simp; done) | (simp; omega) | assumption)))); (try (exfalso; omega; done))))))
    (apply Ret.det [0, 1, 2, 2]; (focus (first | exact .inl rfl | exact .inr rfl)); (focus (simp (maxSteps := 9999999) (disch := omega) only [go_sem, hr]; rfl)); (simp (maxSteps := 9999999) (disch := omega) only [go_sem, hr]; (try (repeat' (first | done | trivial | rfl | exact leAs_rfl _ | decide | (refine And.intro ?_ ?_) | (simp; done) | omega | (simp; decide))))))
end Go.Proofs.Ytgjimlgofakbpaa
