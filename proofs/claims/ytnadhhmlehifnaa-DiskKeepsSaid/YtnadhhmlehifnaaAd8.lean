/- Contracts: the document's disk. -/
import Derived.Test.YtnadhhmlehifnaaAd3
namespace Go.Proofs.Ytnadhhmlehifnaa
set_option linter.unusedSimpArgs false
set_option linter.unusedVariables false
set_option maxHeartbeats 4000000
open Go Go.Am Go.RowKit
set_option maxRecDepth 100000
/-- A disk as the document has it. -/
abbrev Dg (i : Nat) (d : Dk) : AV := .agg [.sl i 0 d.l.length 1 none, I (d.s : Int), Bo d.off, I d.left]
/- quidnunc/quidnuncref06.New -/
noncomputable def c23_1 : ACode := .region false [⟨some 0, .alloc [(.slice none 0 0), (.int .i64 0), (.bool false), (.int .i64 0)], [], none⟩] [] [] [0] true [] []
noncomputable def c23_3 : ACode := .region false [⟨some 1, .build [(.slice none 0 0), (.int .i64 0), (.bool false), (.int .i64 0)] [(3, 1)], [.c (.val (.int .i64 (-1)))], none⟩,
  ⟨none, .store 4, [.t 0, .t 1], none⟩] [] [] [0] true [] []
noncomputable def c23_2 : ACode := .seq c23_3 .ret
noncomputable def c23_0 : ACode := .seq c23_1 c23_2
noncomputable def code23 : Code := (Try.f23.body).getD .skip
theorem c23_ok : compC Try.prog 2 code23 = some (strip c23_0) := by kernel_rfl
theorem res23_ok : Try.f23.results.toList.mapM (resC Try.prog) = some [(0, some (true, 4))] := by kernel_rfl
/- quidnunc/quidnuncref06.use -/
noncomputable def c61_1 : ACode := .region false [⟨some 1, .box 0, [.t 0], none⟩,
  ⟨some 2, .alloc [(.slice none 0 0), (.int .i64 0), (.bool false), (.int .i64 0)], [], none⟩,
  ⟨some 3, .move, [.c (.val (.bool false))], none⟩] [] [] [1, 2] true [] []
noncomputable def c61_4 : ACode := .region false [⟨some 4, .addr 3, [.t 1], none⟩,
  ⟨some 5, .load false 1, [.t 4], none⟩,
  ⟨some 6, .bin .eql, [.t 5, .c (.val (.int .i64 0))], none⟩] [] [] [1, 2, 6] false [] []
noncomputable def c61_7 : ACode := .region false [⟨some 7, .addr 2, [.t 1], none⟩,
  ⟨none, .store 1, [.t 7, .c (.val (.bool true))], none⟩] [] [] [1, 2] true [] []
noncomputable def c61_9 : ACode := .region false [⟨some 8, .load true 4, [.t 1], none⟩,
  ⟨none, .store 4, [.t 2, .t 8], none⟩,
  ⟨some 3, .move, [.c (.val (.bool false))], none⟩] [] [] [2, 3] true [] []
noncomputable def c61_8 : ACode := .seq c61_9 .ret
noncomputable def c61_6 : ACode := .seq c61_7 c61_8
noncomputable def c61_5 : ACode := .cond (.t 6) c61_6 .skip
noncomputable def c61_3 : ACode := .seq c61_4 c61_5
noncomputable def c61_12 : ACode := .region false [⟨some 9, .addr 3, [.t 1], none⟩,
  ⟨some 10, .load false 1, [.t 9], none⟩,
  ⟨some 11, .bin .gtr, [.t 10, .c (.val (.int .i64 0))], none⟩] [] [] [1, 2, 11] false [] []
noncomputable def c61_14 : ACode := .region false [⟨some 12, .addr 3, [.t 1], none⟩,
  ⟨some 13, .load false 1, [.t 12], none⟩,
  ⟨some 14, .bin .sub, [.t 13, .c (.val (.int .i64 1))], none⟩,
  ⟨some 15, .addr 3, [.t 1], none⟩,
  ⟨none, .store 1, [.t 15, .t 14], none⟩] [] [] [1, 2] true [] []
noncomputable def c61_13 : ACode := .cond (.t 11) c61_14 .skip
noncomputable def c61_11 : ACode := .seq c61_12 c61_13
noncomputable def c61_16 : ACode := .region false [⟨some 16, .load true 4, [.t 1], none⟩,
  ⟨none, .store 4, [.t 2, .t 16], none⟩,
  ⟨some 3, .move, [.c (.val (.bool true))], none⟩] [] [] [2, 3] true [] []
noncomputable def c61_15 : ACode := .seq c61_16 .ret
noncomputable def c61_10 : ACode := .seq c61_11 c61_15
noncomputable def c61_2 : ACode := .seq c61_3 c61_10
noncomputable def c61_0 : ACode := .seq c61_1 c61_2
noncomputable def code61 : Code := (Try.f61.body).getD .skip
theorem c61_ok : compC Try.prog 17 code61 = some (strip c61_0) := by kernel_rfl
theorem res61_ok : Try.f61.results.toList.mapM (resC Try.prog) = some [(2, some (true, 4)), (3, none)] := by kernel_rfl
/- quidnunc/quidnuncref06.Append -/
noncomputable def c46_1 : ACode := .region false [⟨some 2, .box 0, [.t 0], none⟩,
  ⟨some 4, .alloc [(.slice none 0 0), (.int .i64 0), (.bool false), (.int .i64 0)], [], none⟩,
  ⟨some 5, .move, [.c (.val (.int .i64 0))], none⟩] [] [] [1, 2, 4] true [] []
noncomputable def c46_4 : ACode := .region false [⟨some 7, .addr 2, [.t 2], none⟩,
  ⟨some 8, .load false 1, [.t 7], none⟩] [] [] [1, 2, 4, 8] false [] []
noncomputable def c46_7 : ACode := .region false [⟨some 9, .load true 4, [.t 2], none⟩,
  ⟨none, .store 4, [.t 4, .t 9], none⟩,
  ⟨some 5, .move, [.c (.val (.int .i64 11))], none⟩] [] [] [4, 5] true [] []
noncomputable def c46_6 : ACode := .seq c46_7 .ret
noncomputable def c46_5 : ACode := .cond (.t 8) c46_6 .skip
noncomputable def c46_3 : ACode := .seq c46_4 c46_5
noncomputable def c46_10 : ACode := .region false [⟨some 10, .move, [.t 1], none⟩,
  ⟨some 11, .len, [.t 10], none⟩,
  ⟨some 12, .addr 0, [.t 2], none⟩,
  ⟨some 13, .load false 1, [.t 12], none⟩,
  ⟨some 14, .len, [.t 13], none⟩,
  ⟨some 15, .bin .sub, [.c (.val (.int .i64 1048576)), .t 14], none⟩,
  ⟨some 16, .bin .gtr, [.t 11, .t 15], none⟩] [] [] [1, 2, 4, 16] false [] []
noncomputable def c46_13 : ACode := .region false [⟨some 17, .load true 4, [.t 2], none⟩,
  ⟨none, .store 4, [.t 4, .t 17], none⟩,
  ⟨some 5, .move, [.c (.val (.int .i64 7))], none⟩] [] [] [4, 5] true [] []
noncomputable def c46_12 : ACode := .seq c46_13 .ret
noncomputable def c46_11 : ACode := .cond (.t 16) c46_12 .skip
noncomputable def c46_9 : ACode := .seq c46_10 c46_11
noncomputable def c46_15 : ACode := .region false [⟨some 19, .load true 4, [.t 2], none⟩,
  ⟨some 20, .call 61, [.t 19], none⟩,
  ⟨some 18, .move, [.t 20], none⟩,
  ⟨some 21, .ext 0, [.t 18], none⟩,
  ⟨some 22, .ext 1, [.t 18], none⟩,
  ⟨none, .store 4, [.t 2, .t 21], none⟩,
  ⟨some 6, .move, [.t 22], none⟩] [] [] [1, 2, 4, 6] true [] []
noncomputable def c46_18 : ACode := .region false [⟨some 23, .move, [.t 6], none⟩,
  ⟨some 24, .un .not, [.t 23], none⟩] [] [] [1, 2, 4, 24] false [] []
noncomputable def c46_21 : ACode := .region false [⟨some 25, .load true 4, [.t 2], none⟩,
  ⟨none, .store 4, [.t 4, .t 25], none⟩,
  ⟨some 5, .move, [.c (.val (.int .i64 11))], none⟩] [] [] [4, 5] true [] []
noncomputable def c46_20 : ACode := .seq c46_21 .ret
noncomputable def c46_19 : ACode := .cond (.t 24) c46_20 .skip
noncomputable def c46_17 : ACode := .seq c46_18 c46_19
noncomputable def c46_23 : ACode := .region false [⟨some 26, .buildSl 1 0 [(.int .u8 0)] [], [], none⟩,
  ⟨some 27, .addr 0, [.t 2], none⟩,
  ⟨some 28, .load false 1, [.t 27], none⟩,
  ⟨some 29, .append 1 1 false, [.t 26, .t 28], none⟩,
  ⟨some 30, .move, [.t 1], none⟩,
  ⟨some 31, .append 1 1 false, [.t 29, .t 30], none⟩,
  ⟨some 32, .addr 0, [.t 2], none⟩,
  ⟨none, .store 1, [.t 32, .t 31], none⟩] [] [] [2, 4] true [] []
noncomputable def c46_25 : ACode := .region false [⟨some 33, .load true 4, [.t 2], none⟩,
  ⟨none, .store 4, [.t 4, .t 33], none⟩,
  ⟨some 5, .move, [.c (.val (.int .i64 0))], none⟩] [] [] [4, 5] true [] []
noncomputable def c46_24 : ACode := .seq c46_25 .ret
noncomputable def c46_22 : ACode := .seq c46_23 c46_24
noncomputable def c46_16 : ACode := .seq c46_17 c46_22
noncomputable def c46_14 : ACode := .seq c46_15 c46_16
noncomputable def c46_8 : ACode := .seq c46_9 c46_14
noncomputable def c46_2 : ACode := .seq c46_3 c46_8
noncomputable def c46_0 : ACode := .seq c46_1 c46_2
noncomputable def code46 : Code := (Try.f46.body).getD .skip
theorem c46_ok : compC Try.prog 34 code46 = some (strip c46_0) := by kernel_rfl
theorem res46_ok : Try.f46.results.toList.mapM (resC Try.prog) = some [(4, some (true, 4)), (5, none)] := by kernel_rfl
/- quidnunc/quidnuncref06.Sync -/
noncomputable def c47_1 : ACode := .region false [⟨some 1, .box 0, [.t 0], none⟩,
  ⟨some 2, .alloc [(.slice none 0 0), (.int .i64 0), (.bool false), (.int .i64 0)], [], none⟩,
  ⟨some 3, .move, [.c (.val (.int .i64 0))], none⟩] [] [] [1, 2] true [] []
noncomputable def c47_4 : ACode := .region false [⟨some 5, .addr 2, [.t 1], none⟩,
  ⟨some 6, .load false 1, [.t 5], none⟩] [] [] [1, 2, 6] false [] []
noncomputable def c47_7 : ACode := .region false [⟨some 7, .load true 4, [.t 1], none⟩,
  ⟨none, .store 4, [.t 2, .t 7], none⟩,
  ⟨some 3, .move, [.c (.val (.int .i64 11))], none⟩] [] [] [2, 3] true [] []
noncomputable def c47_6 : ACode := .seq c47_7 .ret
noncomputable def c47_5 : ACode := .cond (.t 6) c47_6 .skip
noncomputable def c47_3 : ACode := .seq c47_4 c47_5
noncomputable def c47_9 : ACode := .region false [⟨some 9, .load true 4, [.t 1], none⟩,
  ⟨some 10, .call 61, [.t 9], none⟩,
  ⟨some 8, .move, [.t 10], none⟩,
  ⟨some 11, .ext 0, [.t 8], none⟩,
  ⟨some 12, .ext 1, [.t 8], none⟩,
  ⟨none, .store 4, [.t 1, .t 11], none⟩,
  ⟨some 4, .move, [.t 12], none⟩] [] [] [1, 2, 4] true [] []
noncomputable def c47_12 : ACode := .region false [⟨some 13, .move, [.t 4], none⟩,
  ⟨some 14, .un .not, [.t 13], none⟩] [] [] [1, 2, 14] false [] []
noncomputable def c47_15 : ACode := .region false [⟨some 15, .load true 4, [.t 1], none⟩,
  ⟨none, .store 4, [.t 2, .t 15], none⟩,
  ⟨some 3, .move, [.c (.val (.int .i64 11))], none⟩] [] [] [2, 3] true [] []
noncomputable def c47_14 : ACode := .seq c47_15 .ret
noncomputable def c47_13 : ACode := .cond (.t 14) c47_14 .skip
noncomputable def c47_11 : ACode := .seq c47_12 c47_13
noncomputable def c47_17 : ACode := .region false [⟨some 16, .addr 0, [.t 1], none⟩,
  ⟨some 17, .load false 1, [.t 16], none⟩,
  ⟨some 18, .len, [.t 17], none⟩,
  ⟨some 19, .addr 1, [.t 1], none⟩,
  ⟨none, .store 1, [.t 19, .t 18], none⟩] [] [] [1, 2] true [] []
noncomputable def c47_19 : ACode := .region false [⟨some 20, .load true 4, [.t 1], none⟩,
  ⟨none, .store 4, [.t 2, .t 20], none⟩,
  ⟨some 3, .move, [.c (.val (.int .i64 0))], none⟩] [] [] [2, 3] true [] []
noncomputable def c47_18 : ACode := .seq c47_19 .ret
noncomputable def c47_16 : ACode := .seq c47_17 c47_18
noncomputable def c47_10 : ACode := .seq c47_11 c47_16
noncomputable def c47_8 : ACode := .seq c47_9 c47_10
noncomputable def c47_2 : ACode := .seq c47_3 c47_8
noncomputable def c47_0 : ACode := .seq c47_1 c47_2
noncomputable def code47 : Code := (Try.f47.body).getD .skip
theorem c47_ok : compC Try.prog 21 code47 = some (strip c47_0) := by kernel_rfl
theorem res47_ok : Try.f47.results.toList.mapM (resC Try.prog) = some [(2, some (true, 4)), (3, none)] := by kernel_rfl
/- quidnunc/quidnuncref06.Trim -/
noncomputable def c48_1 : ACode := .region false [⟨some 2, .box 0, [.t 0], none⟩,
  ⟨some 4, .alloc [(.slice none 0 0), (.int .i64 0), (.bool false), (.int .i64 0)], [], none⟩,
  ⟨some 5, .move, [.c (.val (.int .i64 0))], none⟩] [] [] [1, 2, 4] true [] []
noncomputable def c48_4 : ACode := .region false [⟨some 7, .addr 2, [.t 2], none⟩,
  ⟨some 8, .load false 1, [.t 7], none⟩] [] [] [1, 2, 4, 8] false [] []
noncomputable def c48_7 : ACode := .region false [⟨some 9, .load true 4, [.t 2], none⟩,
  ⟨none, .store 4, [.t 4, .t 9], none⟩,
  ⟨some 5, .move, [.c (.val (.int .i64 11))], none⟩] [] [] [4, 5] true [] []
noncomputable def c48_6 : ACode := .seq c48_7 .ret
noncomputable def c48_5 : ACode := .cond (.t 8) c48_6 .skip
noncomputable def c48_3 : ACode := .seq c48_4 c48_5
noncomputable def c48_10 : ACode := .region false [⟨some 10, .move, [.t 1], none⟩,
  ⟨some 11, .bin .lss, [.t 10, .c (.val (.int .i64 0))], none⟩,
  ⟨some 12, .move, [.t 11], none⟩,
  ⟨some 13, .move, [.t 1], some (some 12, false)⟩,
  ⟨some 14, .addr 0, [.t 2], some (some 12, false)⟩,
  ⟨some 15, .load false 1, [.t 14], some (some 12, false)⟩,
  ⟨some 16, .len, [.t 15], some (some 12, false)⟩,
  ⟨some 17, .bin .gtr, [.t 13, .t 16], some (some 12, false)⟩,
  ⟨some 18, .pick, [.t 12, .c (.val (.bool true)), .t 17], none⟩] [] [] [1, 2, 4, 18] false [] []
noncomputable def c48_13 : ACode := .region false [⟨some 19, .load true 4, [.t 2], none⟩,
  ⟨none, .store 4, [.t 4, .t 19], none⟩,
  ⟨some 5, .move, [.c (.val (.int .i64 2))], none⟩] [] [] [4, 5] true [] []
noncomputable def c48_12 : ACode := .seq c48_13 .ret
noncomputable def c48_11 : ACode := .cond (.t 18) c48_12 .skip
noncomputable def c48_9 : ACode := .seq c48_10 c48_11
noncomputable def c48_15 : ACode := .region false [⟨some 21, .load true 4, [.t 2], none⟩,
  ⟨some 22, .call 61, [.t 21], none⟩,
  ⟨some 20, .move, [.t 22], none⟩,
  ⟨some 23, .ext 0, [.t 20], none⟩,
  ⟨some 24, .ext 1, [.t 20], none⟩,
  ⟨none, .store 4, [.t 2, .t 23], none⟩,
  ⟨some 6, .move, [.t 24], none⟩] [] [] [1, 2, 4, 6] true [] []
noncomputable def c48_18 : ACode := .region false [⟨some 25, .move, [.t 6], none⟩,
  ⟨some 26, .un .not, [.t 25], none⟩] [] [] [1, 2, 4, 26] false [] []
noncomputable def c48_21 : ACode := .region false [⟨some 27, .load true 4, [.t 2], none⟩,
  ⟨none, .store 4, [.t 4, .t 27], none⟩,
  ⟨some 5, .move, [.c (.val (.int .i64 11))], none⟩] [] [] [4, 5] true [] []
noncomputable def c48_20 : ACode := .seq c48_21 .ret
noncomputable def c48_19 : ACode := .cond (.t 26) c48_20 .skip
noncomputable def c48_17 : ACode := .seq c48_18 c48_19
noncomputable def c48_23 : ACode := .region false [⟨some 28, .addr 0, [.t 2], none⟩,
  ⟨some 29, .load false 1, [.t 28], none⟩,
  ⟨some 30, .move, [.t 1], none⟩,
  ⟨some 31, .slS 1 false true false, [.t 29, .t 30], none⟩,
  ⟨some 32, .addr 0, [.t 2], none⟩,
  ⟨none, .store 1, [.t 32, .t 31], none⟩] [] [] [1, 2, 4] true [] []
noncomputable def c48_26 : ACode := .region false [⟨some 33, .addr 1, [.t 2], none⟩,
  ⟨some 34, .load false 1, [.t 33], none⟩,
  ⟨some 35, .move, [.t 1], none⟩,
  ⟨some 36, .bin .gtr, [.t 34, .t 35], none⟩] [] [] [1, 2, 4, 36] false [] []
noncomputable def c48_28 : ACode := .region false [⟨some 37, .move, [.t 1], none⟩,
  ⟨some 38, .addr 1, [.t 2], none⟩,
  ⟨none, .store 1, [.t 38, .t 37], none⟩] [] [] [2, 4] true [] []
noncomputable def c48_27 : ACode := .cond (.t 36) c48_28 .skip
noncomputable def c48_25 : ACode := .seq c48_26 c48_27
noncomputable def c48_30 : ACode := .region false [⟨some 39, .load true 4, [.t 2], none⟩,
  ⟨none, .store 4, [.t 4, .t 39], none⟩,
  ⟨some 5, .move, [.c (.val (.int .i64 0))], none⟩] [] [] [4, 5] true [] []
noncomputable def c48_29 : ACode := .seq c48_30 .ret
noncomputable def c48_24 : ACode := .seq c48_25 c48_29
noncomputable def c48_22 : ACode := .seq c48_23 c48_24
noncomputable def c48_16 : ACode := .seq c48_17 c48_22
noncomputable def c48_14 : ACode := .seq c48_15 c48_16
noncomputable def c48_8 : ACode := .seq c48_9 c48_14
noncomputable def c48_2 : ACode := .seq c48_3 c48_8
noncomputable def c48_0 : ACode := .seq c48_1 c48_2
noncomputable def code48 : Code := (Try.f48.body).getD .skip
theorem c48_ok : compC Try.prog 40 code48 = some (strip c48_0) := by kernel_rfl
theorem res48_ok : Try.f48.results.toList.mapM (resC Try.prog) = some [(4, some (true, 4)), (5, none)] := by kernel_rfl
/- quidnunc/quidnuncref06.Crash -/
noncomputable def c49_1 : ACode := .region false [⟨some 2, .box 0, [.t 0], none⟩,
  ⟨some 4, .alloc [(.slice none 0 0), (.int .i64 0), (.bool false), (.int .i64 0)], [], none⟩,
  ⟨some 5, .move, [.c (.val (.int .i64 0))], none⟩] [] [] [1, 2, 4] true [] []
noncomputable def c49_3 : ACode := .region false [⟨some 7, .addr 0, [.t 2], none⟩,
  ⟨some 8, .load false 1, [.t 7], none⟩,
  ⟨some 9, .len, [.t 8], none⟩,
  ⟨some 10, .addr 1, [.t 2], none⟩,
  ⟨some 11, .load false 1, [.t 10], none⟩,
  ⟨some 12, .bin .sub, [.t 9, .t 11], none⟩,
  ⟨some 6, .move, [.t 12], none⟩] [] [] [1, 2, 4, 6] false [] []
noncomputable def c49_6 : ACode := .region false [⟨some 13, .move, [.t 1], none⟩,
  ⟨some 14, .move, [.t 6], none⟩,
  ⟨some 15, .bin .lss, [.t 13, .t 14], none⟩] [] [] [1, 2, 4, 6, 15] false [] []
noncomputable def c49_8 : ACode := .region false [⟨some 16, .move, [.t 1], none⟩,
  ⟨some 6, .move, [.t 16], none⟩] [] [] [2, 4, 6] false [] []
noncomputable def c49_7 : ACode := .cond (.t 15) c49_8 .skip
noncomputable def c49_5 : ACode := .seq c49_6 c49_7
noncomputable def c49_11 : ACode := .region false [⟨some 17, .move, [.t 6], none⟩,
  ⟨some 18, .bin .lss, [.t 17, .c (.val (.int .i64 0))], none⟩] [] [] [2, 4, 6, 18] false [] []
noncomputable def c49_13 : ACode := .region false [⟨some 6, .move, [.c (.val (.int .i64 0))], none⟩] [] [] [2, 4, 6] false [] []
noncomputable def c49_12 : ACode := .cond (.t 18) c49_13 .skip
noncomputable def c49_10 : ACode := .seq c49_11 c49_12
noncomputable def c49_15 : ACode := .region true [⟨some 19, .addr 0, [.t 2], none⟩,
  ⟨some 20, .load false 1, [.t 19], none⟩,
  ⟨some 21, .addr 1, [.t 2], none⟩,
  ⟨some 22, .load false 1, [.t 21], none⟩,
  ⟨some 23, .move, [.t 6], none⟩,
  ⟨some 24, .bin .add, [.t 22, .t 23], none⟩,
  ⟨some 25, .slS 1 false true false, [.t 20, .t 24], none⟩,
  ⟨some 26, .addr 1, [.t 2], none⟩,
  ⟨some 27, .load false 1, [.t 26], none⟩,
  ⟨some 28, .move, [.t 6], none⟩,
  ⟨some 29, .bin .add, [.t 27, .t 28], none⟩,
  ⟨some 30, .build [(.slice none 0 0), (.int .i64 0), (.bool false), (.int .i64 0)] [(0, 1), (1, 1), (3, 1)], [.t 25, .t 29, .c (.val (.int .i64 (-1)))], none⟩,
  ⟨some 31, .move, [.t 6], none⟩,
  ⟨none, .store 4, [.t 4, .t 30], none⟩,
  ⟨some 5, .move, [.t 31], none⟩] [] [] [4, 5] true [4] []
noncomputable def c49_14 : ACode := .seq c49_15 .ret
noncomputable def c49_9 : ACode := .seq c49_10 c49_14
noncomputable def c49_4 : ACode := .seq c49_5 c49_9
noncomputable def c49_2 : ACode := .seq c49_3 c49_4
noncomputable def c49_0 : ACode := .seq c49_1 c49_2
noncomputable def code49 : Code := (Try.f49.body).getD .skip
theorem c49_ok : compC Try.prog 32 code49 = some (strip c49_0) := by kernel_rfl
theorem res49_ok : Try.f49.results.toList.mapM (resC Try.prog) = some [(4, some (true, 4)), (5, none)] := by kernel_rfl
/- quidnunc/quidnuncref06.Turn -/
noncomputable def c52_1 : ACode := .region false [⟨some 3, .box 0, [.t 0], none⟩,
  ⟨some 6, .alloc [(.slice none 0 0), (.int .i64 0), (.bool false), (.int .i64 0)], [], none⟩,
  ⟨some 7, .move, [.c (.val (.int .i64 0))], none⟩] [] [] [1, 2, 3, 6] true [] []
noncomputable def c52_4 : ACode := .region false [⟨some 8, .move, [.t 1], none⟩,
  ⟨some 9, .bin .lss, [.t 8, .c (.val (.int .i64 0))], none⟩,
  ⟨some 10, .move, [.t 9], none⟩,
  ⟨some 11, .move, [.t 1], some (some 10, false)⟩,
  ⟨some 12, .addr 0, [.t 3], some (some 10, false)⟩,
  ⟨some 13, .load false 1, [.t 12], some (some 10, false)⟩,
  ⟨some 14, .len, [.t 13], some (some 10, false)⟩,
  ⟨some 15, .bin .geq, [.t 11, .t 14], some (some 10, false)⟩,
  ⟨some 16, .pick, [.t 10, .c (.val (.bool true)), .t 15], none⟩] [] [] [1, 2, 3, 6, 16] false [] []
noncomputable def c52_7 : ACode := .region false [⟨some 17, .load true 4, [.t 3], none⟩,
  ⟨none, .store 4, [.t 6, .t 17], none⟩,
  ⟨some 7, .move, [.c (.val (.int .i64 2))], none⟩] [] [] [6, 7] true [] []
noncomputable def c52_6 : ACode := .seq c52_7 .ret
noncomputable def c52_5 : ACode := .cond (.t 16) c52_6 .skip
noncomputable def c52_3 : ACode := .seq c52_4 c52_5
noncomputable def c52_9 : ACode := .region false [⟨some 18, .buildSl 1 0 [(.int .u8 0)] [], [], none⟩,
  ⟨some 19, .addr 0, [.t 3], none⟩,
  ⟨some 20, .load false 1, [.t 19], none⟩,
  ⟨some 21, .append 1 1 false, [.t 18, .t 20], none⟩,
  ⟨some 22, .addr 0, [.t 3], none⟩,
  ⟨none, .store 1, [.t 22, .t 21], none⟩] [] [] [1, 2, 3, 6] true [] []
noncomputable def c52_11 : ACode := .region true [⟨some 23, .addr 0, [.t 3], none⟩,
  ⟨some 24, .load false 1, [.t 23], none⟩,
  ⟨some 25, .move, [.t 1], none⟩,
  ⟨some 26, .addr 0, [.t 3], none⟩,
  ⟨some 27, .load false 1, [.t 26], none⟩,
  ⟨some 28, .move, [.t 1], none⟩,
  ⟨some 29, .ixS 1, [.t 27, .t 28], none⟩,
  ⟨some 30, .load false 1, [.t 29], none⟩,
  ⟨some 31, .move, [.t 2], none⟩,
  ⟨some 32, .bin .xor, [.t 30, .t 31], none⟩,
  ⟨some 33, .ixS 1, [.t 24, .t 25], none⟩,
  ⟨none, .store 1, [.t 33, .t 32], none⟩] [7] [] [3, 6] true [] []
noncomputable def c52_13 : ACode := .region false [⟨some 34, .load true 4, [.t 3], none⟩,
  ⟨none, .store 4, [.t 6, .t 34], none⟩,
  ⟨some 7, .move, [.c (.val (.int .i64 0))], none⟩] [] [] [6, 7] true [] []
noncomputable def c52_12 : ACode := .seq c52_13 .ret
noncomputable def c52_10 : ACode := .seq c52_11 c52_12
noncomputable def c52_8 : ACode := .seq c52_9 c52_10
noncomputable def c52_2 : ACode := .seq c52_3 c52_8
noncomputable def c52_0 : ACode := .seq c52_1 c52_2
noncomputable def code52 : Code := (Try.f52.body).getD .skip
theorem c52_ok : compC Try.prog 35 code52 = some (strip c52_0) := by kernel_rfl
theorem res52_ok : Try.f52.results.toList.mapM (resC Try.prog) = some [(6, some (true, 4)), (7, none)] := by kernel_rfl
/- quidnunc/quidnunclaw06.by -/
noncomputable def c51_1 : ACode := .region false [⟨some 1, .box 0, [.t 0], none⟩,
  ⟨some 2, .move, [.c (.val (.int .u8 0))], none⟩] [] [] [1] true [] []
noncomputable def c51_4 : ACode := .region false [⟨some 3, .addr 2, [.t 1], none⟩,
  ⟨some 4, .load false 1, [.t 3], none⟩,
  ⟨some 5, .len, [.t 4], none⟩,
  ⟨some 6, .bin .gtr, [.t 5, .c (.val (.int .i64 0))], none⟩] [] [] [1, 6] false [] []
noncomputable def c51_7 : ACode := .region false [⟨some 7, .addr 2, [.t 1], none⟩,
  ⟨some 8, .load false 1, [.t 7], none⟩,
  ⟨some 9, .ixS 1, [.t 8, .c (.val (.int .i64 0))], none⟩,
  ⟨some 10, .load false 1, [.t 9], none⟩,
  ⟨some 2, .move, [.t 10], none⟩] [] [] [2] false [] []
noncomputable def c51_6 : ACode := .seq c51_7 .ret
noncomputable def c51_5 : ACode := .cond (.t 6) c51_6 .skip
noncomputable def c51_3 : ACode := .seq c51_4 c51_5
noncomputable def c51_9 : ACode := .region false [⟨some 2, .move, [.c (.val (.int .u8 1))], none⟩] [] [] [2] false [] []
noncomputable def c51_8 : ACode := .seq c51_9 .ret
noncomputable def c51_2 : ACode := .seq c51_3 c51_8
noncomputable def c51_0 : ACode := .seq c51_1 c51_2
noncomputable def code51 : Code := (Try.f51.body).getD .skip
theorem c51_ok : compC Try.prog 11 code51 = some (strip c51_0) := by kernel_rfl
theorem res51_ok : Try.f51.results.toList.mapM (resC Try.prog) = some [(2, none)] := by kernel_rfl
theorem rdnew_any : ACall Try.prog 23 [] [] (Det (.agg [.val (.slice none 0 0), I 0, Bo false, I (-1)]) []) := by
  refine ACall.startA c23_ok Try.func23 rfl Try.ntmps23 (by kernel_rfl) res23_ok rfl rfl rfl ?_; simp (maxSteps := 9999999) (disch := omega) only [go_sem]
  (repeat' (first | refine AWpA.seq ?_ | refine AWpA.block ?_ | (with_reducible refine CondP.tt ?_) | (with_reducible refine CondP.ff ?_) | refine AWpA.condv (by simp (maxSteps := 9999999) (disch := omega) only [go_sem]; rfl) ?_ | ((first | (apply AWpA.region; (focus (simp (maxSteps := 9999999) (disch := omega) only [go_sem]; rfl))) | (apply AWpA.draw [] [] follows; (focus (first | rfl | decide)); (focus (simp (maxSteps := 9999999) (disch := omega) only [go_sem]; rfl)); (focus (simp (maxSteps := 9999999) (disch := omega) only [go_sem]; first | done | trivial)); (focus (simp (maxSteps := 9999999) (disch := omega) only [go_sem]; rfl))) | (apply TailK.go; (focus (simp (maxSteps := 9999999) (disch := omega) only [go_sem]; rfl))) | refine AWpA.skip ?_ | refine AWpA.exit ?_ | refine AWpA.ret ?_ | (with_reducible refine ARoundsA.succ ?_) | ((first | refine Runs.kt (by assumption) (fun h9 => ?_) | refine Runs.kf (by assumption) (fun h9 => ?_) | refine Runs.nt (by assumption) (fun h9 => ?_) | refine Runs.nf (by assumption) (fun h9 => ?_) | refine CondP.ht (by assumption) (fun h9 => ?_) | refine CondP.hf (by assumption) (fun h9 => ?_) | refine CondP.nt (by assumption) (fun h9 => ?_) | refine CondP.nf (by assumption) (fun h9 => ?_)); (try simp only [h9]); clear h9)); (try simp (maxSteps := 9999999) (disch := omega) only [go_sem]); (try (refine And.intro ?_ ?_; (focus (first | omega | (simp only [go_sem]; done) | (simp; done) | (simp; omega) | assumption))))) | ((first | refine CondP.split (fun hif => ?_) (fun hif => ?_) | refine Runs.part (fun hif => ?_) (fun hif => ?_)) <;> ((try simp only [hif]); (try simp only [decide_eq_true_eq, decide_eq_false_iff_not, Bool.not_eq_true, Bool.not_eq_false, Bool.not_eq_true', Bool.not_eq_false', beq_iff_eq, bne_iff_ne, bne_eq_false_iff_eq, beq_eq_false_iff_ne, ne_eq, Bool.and_eq_true, Bool.or_eq_true, Bool.or_eq_false_iff] at hif); (try (have h9 : _ = true := hif; simp only [h9])); (try (have h9 : _ = false := hif; simp only [h9])); (try simp (maxSteps := 9999999) (disch := omega) only [go_sem]); (try (refine And.intro ?_ ?_; (focus (first | omega | (simp only [go_sem]; done) | (simp; done) | (simp; omega) | assumption)))); (try (exfalso; omega; done))))))
  (apply Ret.det []; (focus (first | exact .inl rfl | exact .inr rfl)); (focus (simp (maxSteps := 9999999) (disch := omega) only [go_sem]; rfl)); (simp (maxSteps := 9999999) (disch := omega) only [go_sem]; (try (repeat' (first | done | trivial | rfl | exact leAs_rfl _ | decide | (refine And.intro ?_ ?_) | (simp; done) | omega | (simp; decide))))))
theorem ruse_no (d : Dk) {P : List AV} (hP : ∀ ρ, renL ρ P = P) (h : d.left = 0) : ACall Try.prog 61 [Dg 0 d] [.cells true P] (Det (.tup [Dg 0 { d with off := true }, Bo false]) [.cells true P]) := by
  refine ACall.startA c61_ok Try.func61 rfl Try.ntmps61 (by kernel_rfl) res61_ok rfl rfl rfl ?_; simp (maxSteps := 9999999) (disch := omega) only [go_sem]
  (repeat' (first | refine AWpA.seq ?_ | refine AWpA.block ?_ | (with_reducible refine CondP.tt ?_) | (with_reducible refine CondP.ff ?_) | refine AWpA.condv (by simp (maxSteps := 9999999) (disch := omega) only [go_sem, h, hP]; rfl) ?_ | ((first | (apply AWpA.region; (focus (simp (maxSteps := 9999999) (disch := omega) only [go_sem, h, hP]; rfl))) | (apply AWpA.draw [] [] follows; (focus (first | rfl | decide)); (focus (simp (maxSteps := 9999999) (disch := omega) only [go_sem, h, hP]; rfl)); (focus (simp (maxSteps := 9999999) (disch := omega) only [go_sem, h, hP]; first | done | trivial)); (focus (simp (maxSteps := 9999999) (disch := omega) only [go_sem, h, hP]; rfl))) | (apply TailK.go; (focus (simp (maxSteps := 9999999) (disch := omega) only [go_sem, h, hP]; rfl))) | refine AWpA.skip ?_ | refine AWpA.exit ?_ | refine AWpA.ret ?_ | (with_reducible refine ARoundsA.succ ?_) | ((first | refine Runs.kt (by assumption) (fun h9 => ?_) | refine Runs.kf (by assumption) (fun h9 => ?_) | refine Runs.nt (by assumption) (fun h9 => ?_) | refine Runs.nf (by assumption) (fun h9 => ?_) | refine CondP.ht (by assumption) (fun h9 => ?_) | refine CondP.hf (by assumption) (fun h9 => ?_) | refine CondP.nt (by assumption) (fun h9 => ?_) | refine CondP.nf (by assumption) (fun h9 => ?_)); (try simp only [h9]); clear h9)); (try simp (maxSteps := 9999999) (disch := omega) only [go_sem, h, hP]); (try (refine And.intro ?_ ?_; (focus (first | omega | (simp only [go_sem]; done) | (simp; done) | (simp; omega) | assumption))))) | ((first | refine CondP.split (fun hif => ?_) (fun hif => ?_) | refine Runs.part (fun hif => ?_) (fun hif => ?_)) <;> ((try simp only [hif]); (try simp only [decide_eq_true_eq, decide_eq_false_iff_not, Bool.not_eq_true, Bool.not_eq_false, Bool.not_eq_true', Bool.not_eq_false', beq_iff_eq, bne_iff_ne, bne_eq_false_iff_eq, beq_eq_false_iff_ne, ne_eq, Bool.and_eq_true, Bool.or_eq_true, Bool.or_eq_false_iff] at hif); (try (have h9 : _ = true := hif; simp only [h9])); (try (have h9 : _ = false := hif; simp only [h9])); (try simp (maxSteps := 9999999) (disch := omega) only [go_sem, h, hP]); (try (refine And.intro ?_ ?_; (focus (first | omega | (simp only [go_sem]; done) | (simp; done) | (simp; omega) | assumption)))); (try (exfalso; omega; done))))))
  (apply Ret.det [0]; (focus (first | exact .inl rfl | exact .inr rfl)); (focus (simp (maxSteps := 9999999) (disch := omega) only [go_sem, h, hP]; rfl)); (simp (maxSteps := 9999999) (disch := omega) only [go_sem, h, hP]; (try (repeat' (first | done | trivial | rfl | exact leAs_rfl _ | decide | (refine And.intro ?_ ?_) | (simp; done) | omega | (simp; decide))))))
theorem ruse_yes (d : Dk) (hok : d.ok) {P : List AV} (hP : ∀ ρ, renL ρ P = P) (h : d.left ≠ 0) : ACall Try.prog 61 [Dg 0 d] [.cells true P] (Det (.tup [Dg 0 { d with left := leftU d.left }, Bo true]) [.cells true P]) := by
  have h1 := hok.lo
  have h2 := hok.hi
  have h0 : (d.left == 0) = false := by simpa using h
  by_cases h3 : 0 < d.left
  · have e : leftU d.left = d.left - 1 := by simp [leftU, h3]
    rw [e]
    generalize hx : d.left = x at *
    refine ACall.startA c61_ok Try.func61 rfl Try.ntmps61 (by kernel_rfl) res61_ok rfl rfl rfl ?_; simp (maxSteps := 9999999) (disch := omega) only [go_sem]
    (repeat' (first | refine AWpA.seq ?_ | refine AWpA.block ?_ | (with_reducible refine CondP.tt ?_) | (with_reducible refine CondP.ff ?_) | refine AWpA.condv (by simp (maxSteps := 9999999) (disch := omega) only [go_sem, hx, h0, eq_true h3, hP]; rfl) ?_ | ((first | (apply AWpA.region; (focus (simp (maxSteps := 9999999) (disch := omega) only [go_sem, hx, h0, eq_true h3, hP]; rfl))) | (apply AWpA.draw [] [] follows; (focus (first | rfl | decide)); (focus (simp (maxSteps := 9999999) (disch := omega) only [go_sem, hx, h0, eq_true h3, hP]; rfl)); (focus (simp (maxSteps := 9999999) (disch := omega) only [go_sem, hx, h0, eq_true h3, hP]; first | done | trivial)); (focus (simp (maxSteps := 9999999) (disch := omega) only [go_sem, hx, h0, eq_true h3, hP]; rfl))) | (apply TailK.go; (focus (simp (maxSteps := 9999999) (disch := omega) only [go_sem, hx, h0, eq_true h3, hP]; rfl))) | refine AWpA.skip ?_ | refine AWpA.exit ?_ | refine AWpA.ret ?_ | (with_reducible refine ARoundsA.succ ?_) | ((first | refine Runs.kt (by assumption) (fun h9 => ?_) | refine Runs.kf (by assumption) (fun h9 => ?_) | refine Runs.nt (by assumption) (fun h9 => ?_) | refine Runs.nf (by assumption) (fun h9 => ?_) | refine CondP.ht (by assumption) (fun h9 => ?_) | refine CondP.hf (by assumption) (fun h9 => ?_) | refine CondP.nt (by assumption) (fun h9 => ?_) | refine CondP.nf (by assumption) (fun h9 => ?_)); (try simp only [h9]); clear h9)); (try simp (maxSteps := 9999999) (disch := omega) only [go_sem, hx, h0, eq_true h3, hP]); (try (refine And.intro ?_ ?_; (focus (first | omega | (simp only [go_sem]; done) | (simp; done) | (simp; omega) | assumption))))) | ((first | refine CondP.split (fun hif => ?_) (fun hif => ?_) | refine Runs.part (fun hif => ?_) (fun hif => ?_)) <;> ((try simp only [hif]); (try simp only [decide_eq_true_eq, decide_eq_false_iff_not, Bool.not_eq_true, Bool.not_eq_false, Bool.not_eq_true', Bool.not_eq_false', beq_iff_eq, bne_iff_ne, bne_eq_false_iff_eq, beq_eq_false_iff_ne, ne_eq, Bool.and_eq_true, Bool.or_eq_true, Bool.or_eq_false_iff] at hif); (try (have h9 : _ = true := hif; simp only [h9])); (try (have h9 : _ = false := hif; simp only [h9])); (try simp (maxSteps := 9999999) (disch := omega) only [go_sem, hx, h0, eq_true h3, hP]); (try (refine And.intro ?_ ?_; (focus (first | omega | (simp only [go_sem]; done) | (simp; done) | (simp; omega) | assumption)))); (try (exfalso; omega; done))))))
    (apply Ret.det [0]; (focus (first | exact .inl rfl | exact .inr rfl)); (focus (simp (maxSteps := 9999999) (disch := omega) only [go_sem, hx, hP]; rfl)); (simp (maxSteps := 9999999) (disch := omega) only [go_sem, hx, hP]; (try (repeat' (first | done | trivial | rfl | exact leAs_rfl _ | decide | (refine And.intro ?_ ?_) | (simp; done) | omega | (simp; decide))))))
  · have e : leftU d.left = d.left := by simp [leftU, h3]
    rw [e]
    generalize hx : d.left = x at *
    refine ACall.startA c61_ok Try.func61 rfl Try.ntmps61 (by kernel_rfl) res61_ok rfl rfl rfl ?_; simp (maxSteps := 9999999) (disch := omega) only [go_sem]
    (repeat' (first | refine AWpA.seq ?_ | refine AWpA.block ?_ | (with_reducible refine CondP.tt ?_) | (with_reducible refine CondP.ff ?_) | refine AWpA.condv (by simp (maxSteps := 9999999) (disch := omega) only [go_sem, hx, h0, eq_false h3, hP]; rfl) ?_ | ((first | (apply AWpA.region; (focus (simp (maxSteps := 9999999) (disch := omega) only [go_sem, hx, h0, eq_false h3, hP]; rfl))) | (apply AWpA.draw [] [] follows; (focus (first | rfl | decide)); (focus (simp (maxSteps := 9999999) (disch := omega) only [go_sem, hx, h0, eq_false h3, hP]; rfl)); (focus (simp (maxSteps := 9999999) (disch := omega) only [go_sem, hx, h0, eq_false h3, hP]; first | done | trivial)); (focus (simp (maxSteps := 9999999) (disch := omega) only [go_sem, hx, h0, eq_false h3, hP]; rfl))) | (apply TailK.go; (focus (simp (maxSteps := 9999999) (disch := omega) only [go_sem, hx, h0, eq_false h3, hP]; rfl))) | refine AWpA.skip ?_ | refine AWpA.exit ?_ | refine AWpA.ret ?_ | (with_reducible refine ARoundsA.succ ?_) | ((first | refine Runs.kt (by assumption) (fun h9 => ?_) | refine Runs.kf (by assumption) (fun h9 => ?_) | refine Runs.nt (by assumption) (fun h9 => ?_) | refine Runs.nf (by assumption) (fun h9 => ?_) | refine CondP.ht (by assumption) (fun h9 => ?_) | refine CondP.hf (by assumption) (fun h9 => ?_) | refine CondP.nt (by assumption) (fun h9 => ?_) | refine CondP.nf (by assumption) (fun h9 => ?_)); (try simp only [h9]); clear h9)); (try simp (maxSteps := 9999999) (disch := omega) only [go_sem, hx, h0, eq_false h3, hP]); (try (refine And.intro ?_ ?_; (focus (first | omega | (simp only [go_sem]; done) | (simp; done) | (simp; omega) | assumption))))) | ((first | refine CondP.split (fun hif => ?_) (fun hif => ?_) | refine Runs.part (fun hif => ?_) (fun hif => ?_)) <;> ((try simp only [hif]); (try simp only [decide_eq_true_eq, decide_eq_false_iff_not, Bool.not_eq_true, Bool.not_eq_false, Bool.not_eq_true', Bool.not_eq_false', beq_iff_eq, bne_iff_ne, bne_eq_false_iff_eq, beq_eq_false_iff_ne, ne_eq, Bool.and_eq_true, Bool.or_eq_true, Bool.or_eq_false_iff] at hif); (try (have h9 : _ = true := hif; simp only [h9])); (try (have h9 : _ = false := hif; simp only [h9])); (try simp (maxSteps := 9999999) (disch := omega) only [go_sem, hx, h0, eq_false h3, hP]); (try (refine And.intro ?_ ?_; (focus (first | omega | (simp only [go_sem]; done) | (simp; done) | (simp; omega) | assumption)))); (try (exfalso; omega; done))))))
    (apply Ret.det [0]; (focus (first | exact .inl rfl | exact .inr rfl)); (focus (simp (maxSteps := 9999999) (disch := omega) only [go_sem, hx, hP]; rfl)); (simp (maxSteps := 9999999) (disch := omega) only [go_sem, hx, hP]; (try (repeat' (first | done | trivial | rfl | exact leAs_rfl _ | decide | (refine And.intro ?_ ?_) | (simp; done) | omega | (simp; decide))))))
/-- Is there a new row of bytes? -/
def nwA (d : Dk) (w : Int) : Bool := !d.off && (decide (w = 0) && !decide (d.left = 0))
theorem appW_le (d : Dk) (n : Nat) : appW d n ≠ 0 → ((1048576 : Int) - (d.l.length : Int) < (n : Int)) ∧ appW d n = 7 := by
  unfold appW
  split
  · intro h; exact absurd rfl h
  · intro _; exact ⟨by omega, rfl⟩
theorem appW_0 (d : Dk) (n : Nat) : appW d n = 0 → ¬ ((1048576 : Int) - (d.l.length : Int) < (n : Int)) := by
  unfold appW
  split
  · intro _; omega
  · intro h; cases h
theorem rapp_any (d : Dk) (hok : d.ok) {P Q : List AV} {o : Nat} {b : List Int} (p : Seg P 0 d.l) (s : Seg Q o b) : ACall Try.prog 46 [Dg 0 d, .sl 1 o b.length 1 none] [.cells true P, .cells true Q]
    (Det (.tup [Dg (cond (nwA d (appW d b.length)) 2 0) (doD d (appW d b.length) (appF b)), I (doE d (appW d b.length))]) [.cells true P, .cells true Q, .cells false (cond (nwA d (appW d b.length)) (bA (doD d (appW d b.length) (appF b)).l) [])]) := by
  have h9 := hok.l
  have h8 := s.small
  have hw7 := appW_le d b.length
  have hw0 := appW_0 d b.length
  rcases doD_cases d (appW d b.length) (appF b) with ⟨h1, h2, h3⟩ | ⟨h1, h2, h3, h4⟩ | ⟨h1, h2, h3, h4, h5⟩ | ⟨h1, h2, h3, h4, h5⟩
  · have hn : nwA d (appW d b.length) = false := by simp [nwA, h1]
    rw [h2, h3, hn]
    refine ACall.startA c46_ok Try.func46 rfl Try.ntmps46 (by kernel_rfl) res46_ok rfl rfl rfl ?_; simp (maxSteps := 9999999) (disch := omega) only [go_sem]
    refine AWpA.dummy ?_
    (repeat' (first | refine AWpA.seq ?_ | refine AWpA.block ?_ | (with_reducible refine CondP.tt ?_) | (with_reducible refine CondP.ff ?_) | refine AWpA.condv (by simp (maxSteps := 9999999) (disch := omega) only [go_sem, p.ren, s.ren, h1]; rfl) ?_ | ((first | (apply AWpA.region; (focus (simp (maxSteps := 9999999) (disch := omega) only [go_sem, p.ren, s.ren, h1]; rfl))) | (apply AWpA.draw [] [] follows; (focus (first | rfl | decide)); (focus (simp (maxSteps := 9999999) (disch := omega) only [go_sem, p.ren, s.ren, h1]; rfl)); (focus (simp (maxSteps := 9999999) (disch := omega) only [go_sem, p.ren, s.ren, h1]; first | done | trivial)); (focus (simp (maxSteps := 9999999) (disch := omega) only [go_sem, p.ren, s.ren, h1]; rfl))) | (apply TailK.go; (focus (simp (maxSteps := 9999999) (disch := omega) only [go_sem, p.ren, s.ren, h1]; rfl))) | refine AWpA.skip ?_ | refine AWpA.exit ?_ | refine AWpA.ret ?_ | (with_reducible refine ARoundsA.succ ?_) | ((first | refine Runs.kt (by assumption) (fun h9 => ?_) | refine Runs.kf (by assumption) (fun h9 => ?_) | refine Runs.nt (by assumption) (fun h9 => ?_) | refine Runs.nf (by assumption) (fun h9 => ?_) | refine CondP.ht (by assumption) (fun h9 => ?_) | refine CondP.hf (by assumption) (fun h9 => ?_) | refine CondP.nt (by assumption) (fun h9 => ?_) | refine CondP.nf (by assumption) (fun h9 => ?_)); (try simp only [h9]); clear h9)); (try simp (maxSteps := 9999999) (disch := omega) only [go_sem, p.ren, s.ren, h1]); (try (refine And.intro ?_ ?_; (focus (first | omega | (simp only [go_sem]; done) | (simp; done) | (simp; omega) | assumption))))) | ((first | refine CondP.split (fun hif => ?_) (fun hif => ?_) | refine Runs.part (fun hif => ?_) (fun hif => ?_)) <;> ((try simp only [hif]); (try simp only [decide_eq_true_eq, decide_eq_false_iff_not, Bool.not_eq_true, Bool.not_eq_false, Bool.not_eq_true', Bool.not_eq_false', beq_iff_eq, bne_iff_ne, bne_eq_false_iff_eq, beq_eq_false_iff_ne, ne_eq, Bool.and_eq_true, Bool.or_eq_true, Bool.or_eq_false_iff] at hif); (try (have h9 : _ = true := hif; simp only [h9])); (try (have h9 : _ = false := hif; simp only [h9])); (try simp (maxSteps := 9999999) (disch := omega) only [go_sem, p.ren, s.ren, h1]); (try (refine And.intro ?_ ?_; (focus (first | omega | (simp only [go_sem]; done) | (simp; done) | (simp; omega) | assumption)))); (try (exfalso; omega; done))))))
    (apply Ret.det [0, 1, 2]; (focus (first | exact .inl rfl | exact .inr rfl)); (focus (simp (maxSteps := 9999999) (disch := omega) only [go_sem, p.ren, s.ren, h1]; rfl)); (simp (maxSteps := 9999999) (disch := omega) only [go_sem, p.ren, s.ren, h1]; (try (repeat' (first | done | trivial | rfl | exact leAs_rfl _ | decide | (refine And.intro ?_ ?_) | (simp; done) | omega | (simp; decide))))))
  · have hn : nwA d (appW d b.length) = false := by simp [nwA, h2]
    rw [h3, h4, hn]
    obtain ⟨g1, g2⟩ := hw7 h2
    rw [g2]
    refine ACall.startA c46_ok Try.func46 rfl Try.ntmps46 (by kernel_rfl) res46_ok rfl rfl rfl ?_; simp (maxSteps := 9999999) (disch := omega) only [go_sem]
    refine AWpA.dummy ?_
    (repeat' (first | refine AWpA.seq ?_ | refine AWpA.block ?_ | (with_reducible refine CondP.tt ?_) | (with_reducible refine CondP.ff ?_) | refine AWpA.condv (by simp (maxSteps := 9999999) (disch := omega) only [go_sem, p.ren, s.ren, h1, eq_true g1]; rfl) ?_ | ((first | (apply AWpA.region; (focus (simp (maxSteps := 9999999) (disch := omega) only [go_sem, p.ren, s.ren, h1, eq_true g1]; rfl))) | (apply AWpA.draw [] [] follows; (focus (first | rfl | decide)); (focus (simp (maxSteps := 9999999) (disch := omega) only [go_sem, p.ren, s.ren, h1, eq_true g1]; rfl)); (focus (simp (maxSteps := 9999999) (disch := omega) only [go_sem, p.ren, s.ren, h1, eq_true g1]; first | done | trivial)); (focus (simp (maxSteps := 9999999) (disch := omega) only [go_sem, p.ren, s.ren, h1, eq_true g1]; rfl))) | (apply TailK.go; (focus (simp (maxSteps := 9999999) (disch := omega) only [go_sem, p.ren, s.ren, h1, eq_true g1]; rfl))) | refine AWpA.skip ?_ | refine AWpA.exit ?_ | refine AWpA.ret ?_ | (with_reducible refine ARoundsA.succ ?_) | ((first | refine Runs.kt (by assumption) (fun h9 => ?_) | refine Runs.kf (by assumption) (fun h9 => ?_) | refine Runs.nt (by assumption) (fun h9 => ?_) | refine Runs.nf (by assumption) (fun h9 => ?_) | refine CondP.ht (by assumption) (fun h9 => ?_) | refine CondP.hf (by assumption) (fun h9 => ?_) | refine CondP.nt (by assumption) (fun h9 => ?_) | refine CondP.nf (by assumption) (fun h9 => ?_)); (try simp only [h9]); clear h9)); (try simp (maxSteps := 9999999) (disch := omega) only [go_sem, p.ren, s.ren, h1, eq_true g1]); (try (refine And.intro ?_ ?_; (focus (first | omega | (simp only [go_sem]; done) | (simp; done) | (simp; omega) | assumption))))) | ((first | refine CondP.split (fun hif => ?_) (fun hif => ?_) | refine Runs.part (fun hif => ?_) (fun hif => ?_)) <;> ((try simp only [hif]); (try simp only [decide_eq_true_eq, decide_eq_false_iff_not, Bool.not_eq_true, Bool.not_eq_false, Bool.not_eq_true', Bool.not_eq_false', beq_iff_eq, bne_iff_ne, bne_eq_false_iff_eq, beq_eq_false_iff_ne, ne_eq, Bool.and_eq_true, Bool.or_eq_true, Bool.or_eq_false_iff] at hif); (try (have h9 : _ = true := hif; simp only [h9])); (try (have h9 : _ = false := hif; simp only [h9])); (try simp (maxSteps := 9999999) (disch := omega) only [go_sem, p.ren, s.ren, h1, eq_true g1]); (try (refine And.intro ?_ ?_; (focus (first | omega | (simp only [go_sem]; done) | (simp; done) | (simp; omega) | assumption)))); (try (exfalso; omega; done))))))
    (apply Ret.det [0, 1, 2]; (focus (first | exact .inl rfl | exact .inr rfl)); (focus (simp (maxSteps := 9999999) (disch := omega) only [go_sem, p.ren, s.ren, h1]; rfl)); (simp (maxSteps := 9999999) (disch := omega) only [go_sem, p.ren, s.ren, h1]; (try (repeat' (first | done | trivial | rfl | exact leAs_rfl _ | decide | (refine And.intro ?_ ?_) | (simp; done) | omega | (simp; decide))))))
  · have hn : nwA d (appW d b.length) = false := by simp [nwA, h3]
    rw [h4, h5, hn]
    have g1 := hw0 h2
    have u := ruse_no d p.ren h3
    refine ACall.startA c46_ok Try.func46 rfl Try.ntmps46 (by kernel_rfl) res46_ok rfl rfl rfl ?_; simp (maxSteps := 9999999) (disch := omega) only [go_sem]
    refine AWpA.dummy ?_
    (repeat' (first | refine AWpA.seq ?_ | refine AWpA.block ?_ | (with_reducible refine CondP.tt ?_) | (with_reducible refine CondP.ff ?_) | refine AWpA.condv (by simp (maxSteps := 9999999) (disch := omega) only [go_sem, p.ren, s.ren, h1, eq_false g1]; rfl) ?_ | ((first | (apply AWpA.region; (focus (simp (maxSteps := 9999999) (disch := omega) only [go_sem, p.ren, s.ren, h1, eq_false g1]; rfl))) | (apply AWpA.draw [] [] follows; (focus (first | rfl | decide)); (focus (simp (maxSteps := 9999999) (disch := omega) only [go_sem, p.ren, s.ren, h1, eq_false g1]; rfl)); (focus (simp (maxSteps := 9999999) (disch := omega) only [go_sem, p.ren, s.ren, h1, eq_false g1]; first | done | trivial)); (focus (simp (maxSteps := 9999999) (disch := omega) only [go_sem, p.ren, s.ren, h1, eq_false g1]; rfl))) | (apply TailK.go; (focus (simp (maxSteps := 9999999) (disch := omega) only [go_sem, p.ren, s.ren, h1, eq_false g1]; rfl))) | refine AWpA.skip ?_ | refine AWpA.exit ?_ | refine AWpA.ret ?_ | (with_reducible refine ARoundsA.succ ?_) | ((first | refine Runs.kt (by assumption) (fun h9 => ?_) | refine Runs.kf (by assumption) (fun h9 => ?_) | refine Runs.nt (by assumption) (fun h9 => ?_) | refine Runs.nf (by assumption) (fun h9 => ?_) | refine CondP.ht (by assumption) (fun h9 => ?_) | refine CondP.hf (by assumption) (fun h9 => ?_) | refine CondP.nt (by assumption) (fun h9 => ?_) | refine CondP.nf (by assumption) (fun h9 => ?_)); (try simp only [h9]); clear h9) | ((first | (with_reducible apply CallG.plain1 [0] (u)) | (with_reducible apply CallG.draw1 [0] (u))); (focus ((try refine And.intro (leAs_of_eq rfl) ?_); (try refine And.intro (leOL_of_eq rfl) ?_); simp (maxSteps := 9999999) (disch := omega) only [go_sem, p.ren, s.ren, h1, eq_false g1]; first | done | (repeat' (first | rfl | (refine And.intro ?_ ?_))))); (focus (simp (maxSteps := 9999999) (disch := omega) only [go_sem, p.ren, s.ren, h1, eq_false g1]; rfl)))); (try simp (maxSteps := 9999999) (disch := omega) only [go_sem, p.ren, s.ren, h1, eq_false g1]); (try (refine And.intro ?_ ?_; (focus (first | omega | (simp only [go_sem]; done) | (simp; done) | (simp; omega) | assumption))))) | ((first | refine CondP.split (fun hif => ?_) (fun hif => ?_) | refine Runs.part (fun hif => ?_) (fun hif => ?_)) <;> ((try simp only [hif]); (try simp only [decide_eq_true_eq, decide_eq_false_iff_not, Bool.not_eq_true, Bool.not_eq_false, Bool.not_eq_true', Bool.not_eq_false', beq_iff_eq, bne_iff_ne, bne_eq_false_iff_eq, beq_eq_false_iff_ne, ne_eq, Bool.and_eq_true, Bool.or_eq_true, Bool.or_eq_false_iff] at hif); (try (have h9 : _ = true := hif; simp only [h9])); (try (have h9 : _ = false := hif; simp only [h9])); (try simp (maxSteps := 9999999) (disch := omega) only [go_sem, p.ren, s.ren, h1, eq_false g1]); (try (refine And.intro ?_ ?_; (focus (first | omega | (simp only [go_sem]; done) | (simp; done) | (simp; omega) | assumption)))); (try (exfalso; omega; done))))))
    (apply Ret.det [0, 1, 2]; (focus (first | exact .inl rfl | exact .inr rfl)); (focus (simp (maxSteps := 9999999) (disch := omega) only [go_sem, p.ren, s.ren, h1]; rfl)); (simp (maxSteps := 9999999) (disch := omega) only [go_sem, p.ren, s.ren, h1]; (try (repeat' (first | done | trivial | rfl | exact leAs_rfl _ | decide | (refine And.intro ?_ ?_) | (simp; done) | omega | (simp; decide))))))
  · have hn : nwA d (appW d b.length) = true := by simp [nwA, h1, h2, h3]
    rw [h4, h5, hn]
    have g1 := hw0 h2
    have u := ruse_yes d hok p.ren h3
    have hl2 : (d.l ++ b).length = d.l.length + b.length := by simp
    have hps := p.seg
    rw [List.drop_zero] at hps
    have hb0 : bA (d.l ++ b) = bA d.l ++ bA b := by simp [bA]
    have hta : (bA d.l).take d.l.length = bA d.l := List.take_of_length_le (by rw [bA_len]; exact Nat.le_refl _)
    have hle1 := p.le
    have hle2 := s.le
    by_cases hd : d.l.length = 0
    · have q1 : (d.l.length ≤ 0) = True := eq_true (by omega)
      have hd0 : d.l = [] := List.length_eq_zero_iff.1 hd
      by_cases hb : b.length = 0
      · have hb1 : b = [] := List.length_eq_zero_iff.1 hb
        obtain ⟨dl, ds, doff, dleft⟩ := d
        simp only at hd0 h1 h2 h3 g1 u hok
        subst hd0; subst hb1; subst h1
        simp only [List.length_nil] at *
        refine ACall.startA c46_ok Try.func46 rfl Try.ntmps46 (by kernel_rfl) res46_ok rfl rfl rfl ?_; simp (maxSteps := 9999999) (disch := omega) only [go_sem]
        (repeat' (first | refine AWpA.seq ?_ | refine AWpA.block ?_ | (with_reducible refine CondP.tt ?_) | (with_reducible refine CondP.ff ?_) | refine AWpA.condv (by simp (maxSteps := 9999999) (disch := omega) only [go_sem, p.ren, s.ren, p.noAny, s.noAny, hps, s.seg, eq_false g1, bA_nil]; rfl) ?_ | ((first | (apply AWpA.region; (focus (simp (maxSteps := 9999999) (disch := omega) only [go_sem, p.ren, s.ren, p.noAny, s.noAny, hps, s.seg, eq_false g1, bA_nil]; rfl))) | (apply AWpA.draw [] [] follows; (focus (first | rfl | decide)); (focus (simp (maxSteps := 9999999) (disch := omega) only [go_sem, p.ren, s.ren, p.noAny, s.noAny, hps, s.seg, eq_false g1, bA_nil]; rfl)); (focus (simp (maxSteps := 9999999) (disch := omega) only [go_sem, p.ren, s.ren, p.noAny, s.noAny, hps, s.seg, eq_false g1, bA_nil]; first | done | trivial)); (focus (simp (maxSteps := 9999999) (disch := omega) only [go_sem, p.ren, s.ren, p.noAny, s.noAny, hps, s.seg, eq_false g1, bA_nil]; rfl))) | (apply TailK.go; (focus (simp (maxSteps := 9999999) (disch := omega) only [go_sem, p.ren, s.ren, p.noAny, s.noAny, hps, s.seg, eq_false g1, bA_nil]; rfl))) | refine AWpA.skip ?_ | refine AWpA.exit ?_ | refine AWpA.ret ?_ | (with_reducible refine ARoundsA.succ ?_) | ((first | refine Runs.kt (by assumption) (fun h9 => ?_) | refine Runs.kf (by assumption) (fun h9 => ?_) | refine Runs.nt (by assumption) (fun h9 => ?_) | refine Runs.nf (by assumption) (fun h9 => ?_) | refine CondP.ht (by assumption) (fun h9 => ?_) | refine CondP.hf (by assumption) (fun h9 => ?_) | refine CondP.nt (by assumption) (fun h9 => ?_) | refine CondP.nf (by assumption) (fun h9 => ?_)); (try simp only [h9]); clear h9) | ((first | (with_reducible apply CallG.plain1 [0] (u)) | (with_reducible apply CallG.draw1 [0] (u))); (focus ((try refine And.intro (leAs_of_eq rfl) ?_); (try refine And.intro (leOL_of_eq rfl) ?_); simp (maxSteps := 9999999) (disch := omega) only [go_sem, p.ren, s.ren, p.noAny, s.noAny, hps, s.seg, eq_false g1, bA_nil]; first | done | (repeat' (first | rfl | (refine And.intro ?_ ?_))))); (focus (simp (maxSteps := 9999999) (disch := omega) only [go_sem, p.ren, s.ren, p.noAny, s.noAny, hps, s.seg, eq_false g1, bA_nil]; rfl)))); (try simp (maxSteps := 9999999) (disch := omega) only [go_sem, p.ren, s.ren, p.noAny, s.noAny, hps, s.seg, eq_false g1, bA_nil]); (try (refine And.intro ?_ ?_; (focus (first | omega | (simp only [go_sem]; done) | (simp; done) | (simp; omega) | assumption))))) | ((first | refine CondP.split (fun hif => ?_) (fun hif => ?_) | refine Runs.part (fun hif => ?_) (fun hif => ?_)) <;> ((try simp only [hif]); (try simp only [decide_eq_true_eq, decide_eq_false_iff_not, Bool.not_eq_true, Bool.not_eq_false, Bool.not_eq_true', Bool.not_eq_false', beq_iff_eq, bne_iff_ne, bne_eq_false_iff_eq, beq_eq_false_iff_ne, ne_eq, Bool.and_eq_true, Bool.or_eq_true, Bool.or_eq_false_iff] at hif); (try (have h9 : _ = true := hif; simp only [h9])); (try (have h9 : _ = false := hif; simp only [h9])); (try simp (maxSteps := 9999999) (disch := omega) only [go_sem, p.ren, s.ren, p.noAny, s.noAny, hps, s.seg, eq_false g1, bA_nil]); (try (refine And.intro ?_ ?_; (focus (first | omega | (simp only [go_sem]; done) | (simp; done) | (simp; omega) | assumption)))); (try (exfalso; omega; done))))))
        (apply Ret.det [0, 1, 338]; (focus (first | exact .inl rfl | exact .inr rfl)); (focus (simp (maxSteps := 9999999) (disch := omega) only [go_sem, p.ren, s.ren, appF, bA_nil, List.append_nil, List.length_nil]; rfl)); (simp (maxSteps := 9999999) (disch := omega) only [go_sem, p.ren, s.ren, appF, bA_nil, List.append_nil, List.length_nil]; (try (repeat' (first | done | trivial | rfl | exact leAs_rfl _ | decide | (refine And.intro ?_ ?_) | (simp; done) | omega | (simp; decide))))))
      · have q2 : (b.length ≤ 0) = False := eq_false (by omega)
        have q3 : (d.l.length + b.length ≤ 0) = False := eq_false (by omega)
        refine ACall.startA c46_ok Try.func46 rfl Try.ntmps46 (by kernel_rfl) res46_ok rfl rfl rfl ?_; simp (maxSteps := 9999999) (disch := omega) only [go_sem]
        (repeat' (first | refine AWpA.seq ?_ | refine AWpA.block ?_ | (with_reducible refine CondP.tt ?_) | (with_reducible refine CondP.ff ?_) | refine AWpA.condv (by simp (maxSteps := 9999999) (disch := omega) only [go_sem, p.ren, s.ren, p.noAny, s.noAny, hps, s.seg, h1, eq_false g1, bA_len, q1, q2, q3, hta]; rfl) ?_ | ((first | (apply AWpA.region; (focus (simp (maxSteps := 9999999) (disch := omega) only [go_sem, p.ren, s.ren, p.noAny, s.noAny, hps, s.seg, h1, eq_false g1, bA_len, q1, q2, q3, hta]; rfl))) | (apply AWpA.draw [] [] follows; (focus (first | rfl | decide)); (focus (simp (maxSteps := 9999999) (disch := omega) only [go_sem, p.ren, s.ren, p.noAny, s.noAny, hps, s.seg, h1, eq_false g1, bA_len, q1, q2, q3, hta]; rfl)); (focus (simp (maxSteps := 9999999) (disch := omega) only [go_sem, p.ren, s.ren, p.noAny, s.noAny, hps, s.seg, h1, eq_false g1, bA_len, q1, q2, q3, hta]; first | done | trivial)); (focus (simp (maxSteps := 9999999) (disch := omega) only [go_sem, p.ren, s.ren, p.noAny, s.noAny, hps, s.seg, h1, eq_false g1, bA_len, q1, q2, q3, hta]; rfl))) | (apply TailK.go; (focus (simp (maxSteps := 9999999) (disch := omega) only [go_sem, p.ren, s.ren, p.noAny, s.noAny, hps, s.seg, h1, eq_false g1, bA_len, q1, q2, q3, hta]; rfl))) | refine AWpA.skip ?_ | refine AWpA.exit ?_ | refine AWpA.ret ?_ | (with_reducible refine ARoundsA.succ ?_) | ((first | refine Runs.kt (by assumption) (fun h9 => ?_) | refine Runs.kf (by assumption) (fun h9 => ?_) | refine Runs.nt (by assumption) (fun h9 => ?_) | refine Runs.nf (by assumption) (fun h9 => ?_) | refine CondP.ht (by assumption) (fun h9 => ?_) | refine CondP.hf (by assumption) (fun h9 => ?_) | refine CondP.nt (by assumption) (fun h9 => ?_) | refine CondP.nf (by assumption) (fun h9 => ?_)); (try simp only [h9]); clear h9) | ((first | (with_reducible apply CallG.plain1 [0] (u)) | (with_reducible apply CallG.draw1 [0] (u))); (focus ((try refine And.intro (leAs_of_eq rfl) ?_); (try refine And.intro (leOL_of_eq rfl) ?_); simp (maxSteps := 9999999) (disch := omega) only [go_sem, p.ren, s.ren, p.noAny, s.noAny, hps, s.seg, h1, eq_false g1, bA_len, q1, q2, q3, hta]; first | done | (repeat' (first | rfl | (refine And.intro ?_ ?_))))); (focus (simp (maxSteps := 9999999) (disch := omega) only [go_sem, p.ren, s.ren, p.noAny, s.noAny, hps, s.seg, h1, eq_false g1, bA_len, q1, q2, q3, hta]; rfl)))); (try simp (maxSteps := 9999999) (disch := omega) only [go_sem, p.ren, s.ren, p.noAny, s.noAny, hps, s.seg, h1, eq_false g1, bA_len, q1, q2, q3, hta]); (try (refine And.intro ?_ ?_; (focus (first | omega | (simp only [go_sem]; done) | (simp; done) | (simp; omega) | assumption))))) | ((first | refine CondP.split (fun hif => ?_) (fun hif => ?_) | refine Runs.part (fun hif => ?_) (fun hif => ?_)) <;> ((try simp only [hif]); (try simp only [decide_eq_true_eq, decide_eq_false_iff_not, Bool.not_eq_true, Bool.not_eq_false, Bool.not_eq_true', Bool.not_eq_false', beq_iff_eq, bne_iff_ne, bne_eq_false_iff_eq, beq_eq_false_iff_ne, ne_eq, Bool.and_eq_true, Bool.or_eq_true, Bool.or_eq_false_iff] at hif); (try (have h9 : _ = true := hif; simp only [h9])); (try (have h9 : _ = false := hif; simp only [h9])); (try simp (maxSteps := 9999999) (disch := omega) only [go_sem, p.ren, s.ren, p.noAny, s.noAny, hps, s.seg, h1, eq_false g1, bA_len, q1, q2, q3, hta]); (try (refine And.intro ?_ ?_; (focus (first | omega | (simp only [go_sem]; done) | (simp; done) | (simp; omega) | assumption)))); (try (exfalso; omega; done))))))
        (apply Ret.det [0, 1, 418]; (focus (first | exact .inl rfl | exact .inr rfl)); (focus (simp (maxSteps := 9999999) (disch := omega) only [go_sem, p.ren, s.ren, appF, hl2]; rfl)); (simp (maxSteps := 9999999) (disch := omega) only [go_sem, p.ren, s.ren, appF, hl2]; (try (repeat' (first | done | trivial | rfl | exact leAs_rfl _ | decide | (refine And.intro ?_ ?_) | (simp; done) | omega | (simp; decide))))))
    · have q1 : (d.l.length ≤ 0) = False := eq_false (by omega)
      refine ACall.startA c46_ok Try.func46 rfl Try.ntmps46 (by kernel_rfl) res46_ok rfl rfl rfl ?_; simp (maxSteps := 9999999) (disch := omega) only [go_sem]
      (repeat' (first | refine AWpA.seq ?_ | refine AWpA.block ?_ | (with_reducible refine CondP.tt ?_) | (with_reducible refine CondP.ff ?_) | refine AWpA.condv (by simp (maxSteps := 9999999) (disch := omega) only [go_sem, p.ren, s.ren, p.noAny, s.noAny, hps, s.seg, h1, eq_false g1, bA_len, q1, hta]; rfl) ?_ | ((first | (apply AWpA.region; (focus (simp (maxSteps := 9999999) (disch := omega) only [go_sem, p.ren, s.ren, p.noAny, s.noAny, hps, s.seg, h1, eq_false g1, bA_len, q1, hta]; rfl))) | (apply AWpA.draw [] [] follows; (focus (first | rfl | decide)); (focus (simp (maxSteps := 9999999) (disch := omega) only [go_sem, p.ren, s.ren, p.noAny, s.noAny, hps, s.seg, h1, eq_false g1, bA_len, q1, hta]; rfl)); (focus (simp (maxSteps := 9999999) (disch := omega) only [go_sem, p.ren, s.ren, p.noAny, s.noAny, hps, s.seg, h1, eq_false g1, bA_len, q1, hta]; first | done | trivial)); (focus (simp (maxSteps := 9999999) (disch := omega) only [go_sem, p.ren, s.ren, p.noAny, s.noAny, hps, s.seg, h1, eq_false g1, bA_len, q1, hta]; rfl))) | (apply TailK.go; (focus (simp (maxSteps := 9999999) (disch := omega) only [go_sem, p.ren, s.ren, p.noAny, s.noAny, hps, s.seg, h1, eq_false g1, bA_len, q1, hta]; rfl))) | refine AWpA.skip ?_ | refine AWpA.exit ?_ | refine AWpA.ret ?_ | (with_reducible refine ARoundsA.succ ?_) | ((first | refine Runs.kt (by assumption) (fun h9 => ?_) | refine Runs.kf (by assumption) (fun h9 => ?_) | refine Runs.nt (by assumption) (fun h9 => ?_) | refine Runs.nf (by assumption) (fun h9 => ?_) | refine CondP.ht (by assumption) (fun h9 => ?_) | refine CondP.hf (by assumption) (fun h9 => ?_) | refine CondP.nt (by assumption) (fun h9 => ?_) | refine CondP.nf (by assumption) (fun h9 => ?_)); (try simp only [h9]); clear h9) | ((first | (with_reducible apply CallG.plain1 [0] (u)) | (with_reducible apply CallG.draw1 [0] (u))); (focus ((try refine And.intro (leAs_of_eq rfl) ?_); (try refine And.intro (leOL_of_eq rfl) ?_); simp (maxSteps := 9999999) (disch := omega) only [go_sem, p.ren, s.ren, p.noAny, s.noAny, hps, s.seg, h1, eq_false g1, bA_len, q1, hta]; first | done | (repeat' (first | rfl | (refine And.intro ?_ ?_))))); (focus (simp (maxSteps := 9999999) (disch := omega) only [go_sem, p.ren, s.ren, p.noAny, s.noAny, hps, s.seg, h1, eq_false g1, bA_len, q1, hta]; rfl)))); (try simp (maxSteps := 9999999) (disch := omega) only [go_sem, p.ren, s.ren, p.noAny, s.noAny, hps, s.seg, h1, eq_false g1, bA_len, q1, hta]); (try (refine And.intro ?_ ?_; (focus (first | omega | (simp only [go_sem]; done) | (simp; done) | (simp; omega) | assumption))))) | ((first | refine CondP.split (fun hif => ?_) (fun hif => ?_) | refine Runs.part (fun hif => ?_) (fun hif => ?_)) <;> ((try simp only [hif]); (try simp only [decide_eq_true_eq, decide_eq_false_iff_not, Bool.not_eq_true, Bool.not_eq_false, Bool.not_eq_true', Bool.not_eq_false', beq_iff_eq, bne_iff_ne, bne_eq_false_iff_eq, beq_eq_false_iff_ne, ne_eq, Bool.and_eq_true, Bool.or_eq_true, Bool.or_eq_false_iff] at hif); (try (have h9 : _ = true := hif; simp only [h9])); (try (have h9 : _ = false := hif; simp only [h9])); (try simp (maxSteps := 9999999) (disch := omega) only [go_sem, p.ren, s.ren, p.noAny, s.noAny, hps, s.seg, h1, eq_false g1, bA_len, q1, hta]); (try (refine And.intro ?_ ?_; (focus (first | omega | (simp only [go_sem]; done) | (simp; done) | (simp; omega) | assumption)))); (try (exfalso; omega; done))))))
      (apply Ret.det [0, 1, 418]; (focus (first | exact .inl rfl | exact .inr rfl)); (focus (simp (maxSteps := 9999999) (disch := omega) only [go_sem, p.ren, s.ren, appF, hl2]; rfl)); (simp (maxSteps := 9999999) (disch := omega) only [go_sem, p.ren, s.ren, appF, hl2]; (try (repeat' (first | done | trivial | rfl | exact leAs_rfl _ | decide | (refine And.intro ?_ ?_) | (simp; done) | omega | (simp; decide))))))
theorem rsync_any (d : Dk) (hok : d.ok) {P : List AV} (p : Seg P 0 d.l) : ACall Try.prog 47 [Dg 0 d] [.cells true P] (Det (.tup [Dg 0 (doD d 0 syncF), I (doE d 0)]) [.cells true P]) := by
  rcases doD_cases d 0 syncF with ⟨h1, h2, h3⟩ | ⟨h1, h2, h3, h4⟩ | ⟨h1, h2, h3, h4, h5⟩ | ⟨h1, h2, h3, h4, h5⟩
  · rw [h2, h3]
    refine ACall.startA c47_ok Try.func47 rfl Try.ntmps47 (by kernel_rfl) res47_ok rfl rfl rfl ?_; simp (maxSteps := 9999999) (disch := omega) only [go_sem]
    (repeat' (first | refine AWpA.seq ?_ | refine AWpA.block ?_ | (with_reducible refine CondP.tt ?_) | (with_reducible refine CondP.ff ?_) | refine AWpA.condv (by simp (maxSteps := 9999999) (disch := omega) only [go_sem, p.ren, h1]; rfl) ?_ | ((first | (apply AWpA.region; (focus (simp (maxSteps := 9999999) (disch := omega) only [go_sem, p.ren, h1]; rfl))) | (apply AWpA.draw [] [] follows; (focus (first | rfl | decide)); (focus (simp (maxSteps := 9999999) (disch := omega) only [go_sem, p.ren, h1]; rfl)); (focus (simp (maxSteps := 9999999) (disch := omega) only [go_sem, p.ren, h1]; first | done | trivial)); (focus (simp (maxSteps := 9999999) (disch := omega) only [go_sem, p.ren, h1]; rfl))) | (apply TailK.go; (focus (simp (maxSteps := 9999999) (disch := omega) only [go_sem, p.ren, h1]; rfl))) | refine AWpA.skip ?_ | refine AWpA.exit ?_ | refine AWpA.ret ?_ | (with_reducible refine ARoundsA.succ ?_) | ((first | refine Runs.kt (by assumption) (fun h9 => ?_) | refine Runs.kf (by assumption) (fun h9 => ?_) | refine Runs.nt (by assumption) (fun h9 => ?_) | refine Runs.nf (by assumption) (fun h9 => ?_) | refine CondP.ht (by assumption) (fun h9 => ?_) | refine CondP.hf (by assumption) (fun h9 => ?_) | refine CondP.nt (by assumption) (fun h9 => ?_) | refine CondP.nf (by assumption) (fun h9 => ?_)); (try simp only [h9]); clear h9)); (try simp (maxSteps := 9999999) (disch := omega) only [go_sem, p.ren, h1]); (try (refine And.intro ?_ ?_; (focus (first | omega | (simp only [go_sem]; done) | (simp; done) | (simp; omega) | assumption))))) | ((first | refine CondP.split (fun hif => ?_) (fun hif => ?_) | refine Runs.part (fun hif => ?_) (fun hif => ?_)) <;> ((try simp only [hif]); (try simp only [decide_eq_true_eq, decide_eq_false_iff_not, Bool.not_eq_true, Bool.not_eq_false, Bool.not_eq_true', Bool.not_eq_false', beq_iff_eq, bne_iff_ne, bne_eq_false_iff_eq, beq_eq_false_iff_ne, ne_eq, Bool.and_eq_true, Bool.or_eq_true, Bool.or_eq_false_iff] at hif); (try (have h9 : _ = true := hif; simp only [h9])); (try (have h9 : _ = false := hif; simp only [h9])); (try simp (maxSteps := 9999999) (disch := omega) only [go_sem, p.ren, h1]); (try (refine And.intro ?_ ?_; (focus (first | omega | (simp only [go_sem]; done) | (simp; done) | (simp; omega) | assumption)))); (try (exfalso; omega; done))))))
    (apply Ret.det [0]; (focus (first | exact .inl rfl | exact .inr rfl)); (focus (simp (maxSteps := 9999999) (disch := omega) only [go_sem, p.ren, h1]; rfl)); (simp (maxSteps := 9999999) (disch := omega) only [go_sem, p.ren, h1]; (try (repeat' (first | done | trivial | rfl | exact leAs_rfl _ | decide | (refine And.intro ?_ ?_) | (simp; done) | omega | (simp; decide))))))
  · exact absurd rfl h2
  · rw [h4, h5]
    have u := ruse_no d p.ren h3
    refine ACall.startA c47_ok Try.func47 rfl Try.ntmps47 (by kernel_rfl) res47_ok rfl rfl rfl ?_; simp (maxSteps := 9999999) (disch := omega) only [go_sem]
    (repeat' (first | refine AWpA.seq ?_ | refine AWpA.block ?_ | (with_reducible refine CondP.tt ?_) | (with_reducible refine CondP.ff ?_) | refine AWpA.condv (by simp (maxSteps := 9999999) (disch := omega) only [go_sem, p.ren, h1]; rfl) ?_ | ((first | (apply AWpA.region; (focus (simp (maxSteps := 9999999) (disch := omega) only [go_sem, p.ren, h1]; rfl))) | (apply AWpA.draw [] [] follows; (focus (first | rfl | decide)); (focus (simp (maxSteps := 9999999) (disch := omega) only [go_sem, p.ren, h1]; rfl)); (focus (simp (maxSteps := 9999999) (disch := omega) only [go_sem, p.ren, h1]; first | done | trivial)); (focus (simp (maxSteps := 9999999) (disch := omega) only [go_sem, p.ren, h1]; rfl))) | (apply TailK.go; (focus (simp (maxSteps := 9999999) (disch := omega) only [go_sem, p.ren, h1]; rfl))) | refine AWpA.skip ?_ | refine AWpA.exit ?_ | refine AWpA.ret ?_ | (with_reducible refine ARoundsA.succ ?_) | ((first | refine Runs.kt (by assumption) (fun h9 => ?_) | refine Runs.kf (by assumption) (fun h9 => ?_) | refine Runs.nt (by assumption) (fun h9 => ?_) | refine Runs.nf (by assumption) (fun h9 => ?_) | refine CondP.ht (by assumption) (fun h9 => ?_) | refine CondP.hf (by assumption) (fun h9 => ?_) | refine CondP.nt (by assumption) (fun h9 => ?_) | refine CondP.nf (by assumption) (fun h9 => ?_)); (try simp only [h9]); clear h9) | ((first | (with_reducible apply CallG.plain1 [0] (u)) | (with_reducible apply CallG.draw1 [0] (u))); (focus ((try refine And.intro (leAs_of_eq rfl) ?_); (try refine And.intro (leOL_of_eq rfl) ?_); simp (maxSteps := 9999999) (disch := omega) only [go_sem, p.ren, h1]; first | done | (repeat' (first | rfl | (refine And.intro ?_ ?_))))); (focus (simp (maxSteps := 9999999) (disch := omega) only [go_sem, p.ren, h1]; rfl)))); (try simp (maxSteps := 9999999) (disch := omega) only [go_sem, p.ren, h1]); (try (refine And.intro ?_ ?_; (focus (first | omega | (simp only [go_sem]; done) | (simp; done) | (simp; omega) | assumption))))) | ((first | refine CondP.split (fun hif => ?_) (fun hif => ?_) | refine Runs.part (fun hif => ?_) (fun hif => ?_)) <;> ((try simp only [hif]); (try simp only [decide_eq_true_eq, decide_eq_false_iff_not, Bool.not_eq_true, Bool.not_eq_false, Bool.not_eq_true', Bool.not_eq_false', beq_iff_eq, bne_iff_ne, bne_eq_false_iff_eq, beq_eq_false_iff_ne, ne_eq, Bool.and_eq_true, Bool.or_eq_true, Bool.or_eq_false_iff] at hif); (try (have h9 : _ = true := hif; simp only [h9])); (try (have h9 : _ = false := hif; simp only [h9])); (try simp (maxSteps := 9999999) (disch := omega) only [go_sem, p.ren, h1]); (try (refine And.intro ?_ ?_; (focus (first | omega | (simp only [go_sem]; done) | (simp; done) | (simp; omega) | assumption)))); (try (exfalso; omega; done))))))
    (apply Ret.det [0]; (focus (first | exact .inl rfl | exact .inr rfl)); (focus (simp (maxSteps := 9999999) (disch := omega) only [go_sem, p.ren, h1]; rfl)); (simp (maxSteps := 9999999) (disch := omega) only [go_sem, p.ren, h1]; (try (repeat' (first | done | trivial | rfl | exact leAs_rfl _ | decide | (refine And.intro ?_ ?_) | (simp; done) | omega | (simp; decide))))))
  · rw [h4, h5]
    have u := ruse_yes d hok p.ren h3
    refine ACall.startA c47_ok Try.func47 rfl Try.ntmps47 (by kernel_rfl) res47_ok rfl rfl rfl ?_; simp (maxSteps := 9999999) (disch := omega) only [go_sem]
    (repeat' (first | refine AWpA.seq ?_ | refine AWpA.block ?_ | (with_reducible refine CondP.tt ?_) | (with_reducible refine CondP.ff ?_) | refine AWpA.condv (by simp (maxSteps := 9999999) (disch := omega) only [go_sem, p.ren, h1]; rfl) ?_ | ((first | (apply AWpA.region; (focus (simp (maxSteps := 9999999) (disch := omega) only [go_sem, p.ren, h1]; rfl))) | (apply AWpA.draw [] [] follows; (focus (first | rfl | decide)); (focus (simp (maxSteps := 9999999) (disch := omega) only [go_sem, p.ren, h1]; rfl)); (focus (simp (maxSteps := 9999999) (disch := omega) only [go_sem, p.ren, h1]; first | done | trivial)); (focus (simp (maxSteps := 9999999) (disch := omega) only [go_sem, p.ren, h1]; rfl))) | (apply TailK.go; (focus (simp (maxSteps := 9999999) (disch := omega) only [go_sem, p.ren, h1]; rfl))) | refine AWpA.skip ?_ | refine AWpA.exit ?_ | refine AWpA.ret ?_ | (with_reducible refine ARoundsA.succ ?_) | ((first | refine Runs.kt (by assumption) (fun h9 => ?_) | refine Runs.kf (by assumption) (fun h9 => ?_) | refine Runs.nt (by assumption) (fun h9 => ?_) | refine Runs.nf (by assumption) (fun h9 => ?_) | refine CondP.ht (by assumption) (fun h9 => ?_) | refine CondP.hf (by assumption) (fun h9 => ?_) | refine CondP.nt (by assumption) (fun h9 => ?_) | refine CondP.nf (by assumption) (fun h9 => ?_)); (try simp only [h9]); clear h9) | ((first | (with_reducible apply CallG.plain1 [0] (u)) | (with_reducible apply CallG.draw1 [0] (u))); (focus ((try refine And.intro (leAs_of_eq rfl) ?_); (try refine And.intro (leOL_of_eq rfl) ?_); simp (maxSteps := 9999999) (disch := omega) only [go_sem, p.ren, h1]; first | done | (repeat' (first | rfl | (refine And.intro ?_ ?_))))); (focus (simp (maxSteps := 9999999) (disch := omega) only [go_sem, p.ren, h1]; rfl)))); (try simp (maxSteps := 9999999) (disch := omega) only [go_sem, p.ren, h1]); (try (refine And.intro ?_ ?_; (focus (first | omega | (simp only [go_sem]; done) | (simp; done) | (simp; omega) | assumption))))) | ((first | refine CondP.split (fun hif => ?_) (fun hif => ?_) | refine Runs.part (fun hif => ?_) (fun hif => ?_)) <;> ((try simp only [hif]); (try simp only [decide_eq_true_eq, decide_eq_false_iff_not, Bool.not_eq_true, Bool.not_eq_false, Bool.not_eq_true', Bool.not_eq_false', beq_iff_eq, bne_iff_ne, bne_eq_false_iff_eq, beq_eq_false_iff_ne, ne_eq, Bool.and_eq_true, Bool.or_eq_true, Bool.or_eq_false_iff] at hif); (try (have h9 : _ = true := hif; simp only [h9])); (try (have h9 : _ = false := hif; simp only [h9])); (try simp (maxSteps := 9999999) (disch := omega) only [go_sem, p.ren, h1]); (try (refine And.intro ?_ ?_; (focus (first | omega | (simp only [go_sem]; done) | (simp; done) | (simp; omega) | assumption)))); (try (exfalso; omega; done))))))
    (apply Ret.det [0]; (focus (first | exact .inl rfl | exact .inr rfl)); (focus (simp (maxSteps := 9999999) (disch := omega) only [go_sem, p.ren, h1, syncF]; rfl)); (simp (maxSteps := 9999999) (disch := omega) only [go_sem, p.ren, h1, syncF]; (try (repeat' (first | done | trivial | rfl | exact leAs_rfl _ | decide | (refine And.intro ?_ ?_) | (simp; done) | omega | (simp; decide))))))
theorem trimW_cases (d : Dk) (n : Int) : (trimW d n = 2 ∧ (n < 0 ∨ (d.l.length : Int) < n)) ∨ (trimW d n = 0 ∧ 0 ≤ n ∧ n ≤ (d.l.length : Int)) := by
  unfold trimW
  split
  · exact .inr ⟨rfl, by omega, by omega⟩
  · exact .inl ⟨rfl, by omega⟩
theorem rtrim_any (d : Dk) (hok : d.ok) (n : Int) {P : List AV} (p : Seg P 0 d.l) : ACall Try.prog 48 [Dg 0 d, I n] [.cells true P] (Det (.tup [Dg 0 (doD d (trimW d n) (trimF n.toNat)), I (doE d (trimW d n))]) [.cells true P]) := by
  have hs := hok.s
  rcases doD_cases d (trimW d n) (trimF n.toNat) with ⟨h1, h2, h3⟩ | ⟨h1, h2, h3, h4⟩ | ⟨h1, h2, h3, h4, h5⟩ | ⟨h1, h2, h3, h4, h5⟩
  · rw [h2, h3]
    refine ACall.startA c48_ok Try.func48 rfl Try.ntmps48 (by kernel_rfl) res48_ok rfl rfl rfl ?_; simp (maxSteps := 9999999) (disch := omega) only [go_sem]
    (repeat' (first | refine AWpA.seq ?_ | refine AWpA.block ?_ | (with_reducible refine CondP.tt ?_) | (with_reducible refine CondP.ff ?_) | refine AWpA.condv (by simp (maxSteps := 9999999) (disch := omega) only [go_sem, p.ren, h1]; rfl) ?_ | ((first | (apply AWpA.region; (focus (simp (maxSteps := 9999999) (disch := omega) only [go_sem, p.ren, h1]; rfl))) | (apply AWpA.draw [] [] follows; (focus (first | rfl | decide)); (focus (simp (maxSteps := 9999999) (disch := omega) only [go_sem, p.ren, h1]; rfl)); (focus (simp (maxSteps := 9999999) (disch := omega) only [go_sem, p.ren, h1]; first | done | trivial)); (focus (simp (maxSteps := 9999999) (disch := omega) only [go_sem, p.ren, h1]; rfl))) | (apply TailK.go; (focus (simp (maxSteps := 9999999) (disch := omega) only [go_sem, p.ren, h1]; rfl))) | refine AWpA.skip ?_ | refine AWpA.exit ?_ | refine AWpA.ret ?_ | (with_reducible refine ARoundsA.succ ?_) | ((first | refine Runs.kt (by assumption) (fun h9 => ?_) | refine Runs.kf (by assumption) (fun h9 => ?_) | refine Runs.nt (by assumption) (fun h9 => ?_) | refine Runs.nf (by assumption) (fun h9 => ?_) | refine CondP.ht (by assumption) (fun h9 => ?_) | refine CondP.hf (by assumption) (fun h9 => ?_) | refine CondP.nt (by assumption) (fun h9 => ?_) | refine CondP.nf (by assumption) (fun h9 => ?_)); (try simp only [h9]); clear h9)); (try simp (maxSteps := 9999999) (disch := omega) only [go_sem, p.ren, h1]); (try (refine And.intro ?_ ?_; (focus (first | omega | (simp only [go_sem]; done) | (simp; done) | (simp; omega) | assumption))))) | ((first | refine CondP.split (fun hif => ?_) (fun hif => ?_) | refine Runs.part (fun hif => ?_) (fun hif => ?_)) <;> ((try simp only [hif]); (try simp only [decide_eq_true_eq, decide_eq_false_iff_not, Bool.not_eq_true, Bool.not_eq_false, Bool.not_eq_true', Bool.not_eq_false', beq_iff_eq, bne_iff_ne, bne_eq_false_iff_eq, beq_eq_false_iff_ne, ne_eq, Bool.and_eq_true, Bool.or_eq_true, Bool.or_eq_false_iff] at hif); (try (have h9 : _ = true := hif; simp only [h9])); (try (have h9 : _ = false := hif; simp only [h9])); (try simp (maxSteps := 9999999) (disch := omega) only [go_sem, p.ren, h1]); (try (refine And.intro ?_ ?_; (focus (first | omega | (simp only [go_sem]; done) | (simp; done) | (simp; omega) | assumption)))); (try (exfalso; omega; done))))))
    (apply Ret.det [0]; (focus (first | exact .inl rfl | exact .inr rfl)); (focus (simp (maxSteps := 9999999) (disch := omega) only [go_sem, p.ren, h1]; rfl)); (simp (maxSteps := 9999999) (disch := omega) only [go_sem, p.ren, h1]; (try (repeat' (first | done | trivial | rfl | exact leAs_rfl _ | decide | (refine And.intro ?_ ?_) | (simp; done) | omega | (simp; decide))))))
  · rw [h3, h4]
    rcases trimW_cases d n with ⟨e, hc⟩ | ⟨e, _⟩
    · rw [e]
      by_cases hn : n < 0
      · refine ACall.startA c48_ok Try.func48 rfl Try.ntmps48 (by kernel_rfl) res48_ok rfl rfl rfl ?_; simp (maxSteps := 9999999) (disch := omega) only [go_sem]
        (repeat' (first | refine AWpA.seq ?_ | refine AWpA.block ?_ | (with_reducible refine CondP.tt ?_) | (with_reducible refine CondP.ff ?_) | refine AWpA.condv (by simp (maxSteps := 9999999) (disch := omega) only [go_sem, p.ren, h1, eq_true hn]; rfl) ?_ | ((first | (apply AWpA.region; (focus (simp (maxSteps := 9999999) (disch := omega) only [go_sem, p.ren, h1, eq_true hn]; rfl))) | (apply AWpA.draw [] [] follows; (focus (first | rfl | decide)); (focus (simp (maxSteps := 9999999) (disch := omega) only [go_sem, p.ren, h1, eq_true hn]; rfl)); (focus (simp (maxSteps := 9999999) (disch := omega) only [go_sem, p.ren, h1, eq_true hn]; first | done | trivial)); (focus (simp (maxSteps := 9999999) (disch := omega) only [go_sem, p.ren, h1, eq_true hn]; rfl))) | (apply TailK.go; (focus (simp (maxSteps := 9999999) (disch := omega) only [go_sem, p.ren, h1, eq_true hn]; rfl))) | refine AWpA.skip ?_ | refine AWpA.exit ?_ | refine AWpA.ret ?_ | (with_reducible refine ARoundsA.succ ?_) | ((first | refine Runs.kt (by assumption) (fun h9 => ?_) | refine Runs.kf (by assumption) (fun h9 => ?_) | refine Runs.nt (by assumption) (fun h9 => ?_) | refine Runs.nf (by assumption) (fun h9 => ?_) | refine CondP.ht (by assumption) (fun h9 => ?_) | refine CondP.hf (by assumption) (fun h9 => ?_) | refine CondP.nt (by assumption) (fun h9 => ?_) | refine CondP.nf (by assumption) (fun h9 => ?_)); (try simp only [h9]); clear h9)); (try simp (maxSteps := 9999999) (disch := omega) only [go_sem, p.ren, h1, eq_true hn]); (try (refine And.intro ?_ ?_; (focus (first | omega | (simp only [go_sem]; done) | (simp; done) | (simp; omega) | assumption))))) | ((first | refine CondP.split (fun hif => ?_) (fun hif => ?_) | refine Runs.part (fun hif => ?_) (fun hif => ?_)) <;> ((try simp only [hif]); (try simp only [decide_eq_true_eq, decide_eq_false_iff_not, Bool.not_eq_true, Bool.not_eq_false, Bool.not_eq_true', Bool.not_eq_false', beq_iff_eq, bne_iff_ne, bne_eq_false_iff_eq, beq_eq_false_iff_ne, ne_eq, Bool.and_eq_true, Bool.or_eq_true, Bool.or_eq_false_iff] at hif); (try (have h9 : _ = true := hif; simp only [h9])); (try (have h9 : _ = false := hif; simp only [h9])); (try simp (maxSteps := 9999999) (disch := omega) only [go_sem, p.ren, h1, eq_true hn]); (try (refine And.intro ?_ ?_; (focus (first | omega | (simp only [go_sem]; done) | (simp; done) | (simp; omega) | assumption)))); (try (exfalso; omega; done))))))
        (apply Ret.det [0]; (focus (first | exact .inl rfl | exact .inr rfl)); (focus (simp (maxSteps := 9999999) (disch := omega) only [go_sem, p.ren, h1]; rfl)); (simp (maxSteps := 9999999) (disch := omega) only [go_sem, p.ren, h1]; (try (repeat' (first | done | trivial | rfl | exact leAs_rfl _ | decide | (refine And.intro ?_ ?_) | (simp; done) | omega | (simp; decide))))))
      · have hn2 : (d.l.length : Int) < n := by omega
        refine ACall.startA c48_ok Try.func48 rfl Try.ntmps48 (by kernel_rfl) res48_ok rfl rfl rfl ?_; simp (maxSteps := 9999999) (disch := omega) only [go_sem]
        (repeat' (first | refine AWpA.seq ?_ | refine AWpA.block ?_ | (with_reducible refine CondP.tt ?_) | (with_reducible refine CondP.ff ?_) | refine AWpA.condv (by simp (maxSteps := 9999999) (disch := omega) only [go_sem, p.ren, h1, eq_false hn, eq_true hn2]; rfl) ?_ | ((first | (apply AWpA.region; (focus (simp (maxSteps := 9999999) (disch := omega) only [go_sem, p.ren, h1, eq_false hn, eq_true hn2]; rfl))) | (apply AWpA.draw [] [] follows; (focus (first | rfl | decide)); (focus (simp (maxSteps := 9999999) (disch := omega) only [go_sem, p.ren, h1, eq_false hn, eq_true hn2]; rfl)); (focus (simp (maxSteps := 9999999) (disch := omega) only [go_sem, p.ren, h1, eq_false hn, eq_true hn2]; first | done | trivial)); (focus (simp (maxSteps := 9999999) (disch := omega) only [go_sem, p.ren, h1, eq_false hn, eq_true hn2]; rfl))) | (apply TailK.go; (focus (simp (maxSteps := 9999999) (disch := omega) only [go_sem, p.ren, h1, eq_false hn, eq_true hn2]; rfl))) | refine AWpA.skip ?_ | refine AWpA.exit ?_ | refine AWpA.ret ?_ | (with_reducible refine ARoundsA.succ ?_) | ((first | refine Runs.kt (by assumption) (fun h9 => ?_) | refine Runs.kf (by assumption) (fun h9 => ?_) | refine Runs.nt (by assumption) (fun h9 => ?_) | refine Runs.nf (by assumption) (fun h9 => ?_) | refine CondP.ht (by assumption) (fun h9 => ?_) | refine CondP.hf (by assumption) (fun h9 => ?_) | refine CondP.nt (by assumption) (fun h9 => ?_) | refine CondP.nf (by assumption) (fun h9 => ?_)); (try simp only [h9]); clear h9)); (try simp (maxSteps := 9999999) (disch := omega) only [go_sem, p.ren, h1, eq_false hn, eq_true hn2]); (try (refine And.intro ?_ ?_; (focus (first | omega | (simp only [go_sem]; done) | (simp; done) | (simp; omega) | assumption))))) | ((first | refine CondP.split (fun hif => ?_) (fun hif => ?_) | refine Runs.part (fun hif => ?_) (fun hif => ?_)) <;> ((try simp only [hif]); (try simp only [decide_eq_true_eq, decide_eq_false_iff_not, Bool.not_eq_true, Bool.not_eq_false, Bool.not_eq_true', Bool.not_eq_false', beq_iff_eq, bne_iff_ne, bne_eq_false_iff_eq, beq_eq_false_iff_ne, ne_eq, Bool.and_eq_true, Bool.or_eq_true, Bool.or_eq_false_iff] at hif); (try (have h9 : _ = true := hif; simp only [h9])); (try (have h9 : _ = false := hif; simp only [h9])); (try simp (maxSteps := 9999999) (disch := omega) only [go_sem, p.ren, h1, eq_false hn, eq_true hn2]); (try (refine And.intro ?_ ?_; (focus (first | omega | (simp only [go_sem]; done) | (simp; done) | (simp; omega) | assumption)))); (try (exfalso; omega; done))))))
        (apply Ret.det [0]; (focus (first | exact .inl rfl | exact .inr rfl)); (focus (simp (maxSteps := 9999999) (disch := omega) only [go_sem, p.ren, h1]; rfl)); (simp (maxSteps := 9999999) (disch := omega) only [go_sem, p.ren, h1]; (try (repeat' (first | done | trivial | rfl | exact leAs_rfl _ | decide | (refine And.intro ?_ ?_) | (simp; done) | omega | (simp; decide))))))
    · exact absurd e h2
  · rw [h4, h5]
    have u := ruse_no d p.ren h3
    rcases trimW_cases d n with ⟨e, _⟩ | ⟨e, c1, c2⟩
    · rw [h2] at e; cases e
    have g1 : (n < 0) = False := eq_false (by omega)
    have g2 : ((d.l.length : Int) < n) = False := eq_false (by omega)
    refine ACall.startA c48_ok Try.func48 rfl Try.ntmps48 (by kernel_rfl) res48_ok rfl rfl rfl ?_; simp (maxSteps := 9999999) (disch := omega) only [go_sem]
    (repeat' (first | refine AWpA.seq ?_ | refine AWpA.block ?_ | (with_reducible refine CondP.tt ?_) | (with_reducible refine CondP.ff ?_) | refine AWpA.condv (by simp (maxSteps := 9999999) (disch := omega) only [go_sem, p.ren, h1, g1, g2]; rfl) ?_ | ((first | (apply AWpA.region; (focus (simp (maxSteps := 9999999) (disch := omega) only [go_sem, p.ren, h1, g1, g2]; rfl))) | (apply AWpA.draw [] [] follows; (focus (first | rfl | decide)); (focus (simp (maxSteps := 9999999) (disch := omega) only [go_sem, p.ren, h1, g1, g2]; rfl)); (focus (simp (maxSteps := 9999999) (disch := omega) only [go_sem, p.ren, h1, g1, g2]; first | done | trivial)); (focus (simp (maxSteps := 9999999) (disch := omega) only [go_sem, p.ren, h1, g1, g2]; rfl))) | (apply TailK.go; (focus (simp (maxSteps := 9999999) (disch := omega) only [go_sem, p.ren, h1, g1, g2]; rfl))) | refine AWpA.skip ?_ | refine AWpA.exit ?_ | refine AWpA.ret ?_ | (with_reducible refine ARoundsA.succ ?_) | ((first | refine Runs.kt (by assumption) (fun h9 => ?_) | refine Runs.kf (by assumption) (fun h9 => ?_) | refine Runs.nt (by assumption) (fun h9 => ?_) | refine Runs.nf (by assumption) (fun h9 => ?_) | refine CondP.ht (by assumption) (fun h9 => ?_) | refine CondP.hf (by assumption) (fun h9 => ?_) | refine CondP.nt (by assumption) (fun h9 => ?_) | refine CondP.nf (by assumption) (fun h9 => ?_)); (try simp only [h9]); clear h9) | ((first | (with_reducible apply CallG.plain1 [0] (u)) | (with_reducible apply CallG.draw1 [0] (u))); (focus ((try refine And.intro (leAs_of_eq rfl) ?_); (try refine And.intro (leOL_of_eq rfl) ?_); simp (maxSteps := 9999999) (disch := omega) only [go_sem, p.ren, h1, g1, g2]; first | done | (repeat' (first | rfl | (refine And.intro ?_ ?_))))); (focus (simp (maxSteps := 9999999) (disch := omega) only [go_sem, p.ren, h1, g1, g2]; rfl)))); (try simp (maxSteps := 9999999) (disch := omega) only [go_sem, p.ren, h1, g1, g2]); (try (refine And.intro ?_ ?_; (focus (first | omega | (simp only [go_sem]; done) | (simp; done) | (simp; omega) | assumption))))) | ((first | refine CondP.split (fun hif => ?_) (fun hif => ?_) | refine Runs.part (fun hif => ?_) (fun hif => ?_)) <;> ((try simp only [hif]); (try simp only [decide_eq_true_eq, decide_eq_false_iff_not, Bool.not_eq_true, Bool.not_eq_false, Bool.not_eq_true', Bool.not_eq_false', beq_iff_eq, bne_iff_ne, bne_eq_false_iff_eq, beq_eq_false_iff_ne, ne_eq, Bool.and_eq_true, Bool.or_eq_true, Bool.or_eq_false_iff] at hif); (try (have h9 : _ = true := hif; simp only [h9])); (try (have h9 : _ = false := hif; simp only [h9])); (try simp (maxSteps := 9999999) (disch := omega) only [go_sem, p.ren, h1, g1, g2]); (try (refine And.intro ?_ ?_; (focus (first | omega | (simp only [go_sem]; done) | (simp; done) | (simp; omega) | assumption)))); (try (exfalso; omega; done))))))
    (apply Ret.det [0]; (focus (first | exact .inl rfl | exact .inr rfl)); (focus (simp (maxSteps := 9999999) (disch := omega) only [go_sem, p.ren, h1]; rfl)); (simp (maxSteps := 9999999) (disch := omega) only [go_sem, p.ren, h1]; (try (repeat' (first | done | trivial | rfl | exact leAs_rfl _ | decide | (refine And.intro ?_ ?_) | (simp; done) | omega | (simp; decide))))))
  · rw [h4, h5]
    have u := ruse_yes d hok p.ren h3
    rcases trimW_cases d n with ⟨e, _⟩ | ⟨e, c1, c2⟩
    · rw [h2] at e; cases e
    obtain ⟨k, rfl⟩ : ∃ k : Nat, n = (k : Int) := ⟨n.toNat, by omega⟩
    have g1 : ((k : Int) < 0) = False := eq_false (by omega)
    have g2 : ((d.l.length : Int) < (k : Int)) = False := eq_false (by omega)
    have hk : (d.l.take k).length = k := by simp; omega
    by_cases h6 : (k : Int) < (d.s : Int)
    · have hm : min d.s k = k := by omega
      refine ACall.startA c48_ok Try.func48 rfl Try.ntmps48 (by kernel_rfl) res48_ok rfl rfl rfl ?_; simp (maxSteps := 9999999) (disch := omega) only [go_sem]
      (repeat' (first | refine AWpA.seq ?_ | refine AWpA.block ?_ | (with_reducible refine CondP.tt ?_) | (with_reducible refine CondP.ff ?_) | refine AWpA.condv (by simp (maxSteps := 9999999) (disch := omega) only [go_sem, p.ren, h1, g1, g2, eq_true h6]; rfl) ?_ | ((first | (apply AWpA.region; (focus (simp (maxSteps := 9999999) (disch := omega) only [go_sem, p.ren, h1, g1, g2, eq_true h6]; rfl))) | (apply AWpA.draw [] [] follows; (focus (first | rfl | decide)); (focus (simp (maxSteps := 9999999) (disch := omega) only [go_sem, p.ren, h1, g1, g2, eq_true h6]; rfl)); (focus (simp (maxSteps := 9999999) (disch := omega) only [go_sem, p.ren, h1, g1, g2, eq_true h6]; first | done | trivial)); (focus (simp (maxSteps := 9999999) (disch := omega) only [go_sem, p.ren, h1, g1, g2, eq_true h6]; rfl))) | (apply TailK.go; (focus (simp (maxSteps := 9999999) (disch := omega) only [go_sem, p.ren, h1, g1, g2, eq_true h6]; rfl))) | refine AWpA.skip ?_ | refine AWpA.exit ?_ | refine AWpA.ret ?_ | (with_reducible refine ARoundsA.succ ?_) | ((first | refine Runs.kt (by assumption) (fun h9 => ?_) | refine Runs.kf (by assumption) (fun h9 => ?_) | refine Runs.nt (by assumption) (fun h9 => ?_) | refine Runs.nf (by assumption) (fun h9 => ?_) | refine CondP.ht (by assumption) (fun h9 => ?_) | refine CondP.hf (by assumption) (fun h9 => ?_) | refine CondP.nt (by assumption) (fun h9 => ?_) | refine CondP.nf (by assumption) (fun h9 => ?_)); (try simp only [h9]); clear h9) | ((first | (with_reducible apply CallG.plain1 [0] (u)) | (with_reducible apply CallG.draw1 [0] (u))); (focus ((try refine And.intro (leAs_of_eq rfl) ?_); (try refine And.intro (leOL_of_eq rfl) ?_); simp (maxSteps := 9999999) (disch := omega) only [go_sem, p.ren, h1, g1, g2, eq_true h6]; first | done | (repeat' (first | rfl | (refine And.intro ?_ ?_))))); (focus (simp (maxSteps := 9999999) (disch := omega) only [go_sem, p.ren, h1, g1, g2, eq_true h6]; rfl)))); (try simp (maxSteps := 9999999) (disch := omega) only [go_sem, p.ren, h1, g1, g2, eq_true h6]); (try (refine And.intro ?_ ?_; (focus (first | omega | (simp only [go_sem]; done) | (simp; done) | (simp; omega) | assumption))))) | ((first | refine CondP.split (fun hif => ?_) (fun hif => ?_) | refine Runs.part (fun hif => ?_) (fun hif => ?_)) <;> ((try simp only [hif]); (try simp only [decide_eq_true_eq, decide_eq_false_iff_not, Bool.not_eq_true, Bool.not_eq_false, Bool.not_eq_true', Bool.not_eq_false', beq_iff_eq, bne_iff_ne, bne_eq_false_iff_eq, beq_eq_false_iff_ne, ne_eq, Bool.and_eq_true, Bool.or_eq_true, Bool.or_eq_false_iff] at hif); (try (have h9 : _ = true := hif; simp only [h9])); (try (have h9 : _ = false := hif; simp only [h9])); (try simp (maxSteps := 9999999) (disch := omega) only [go_sem, p.ren, h1, g1, g2, eq_true h6]); (try (refine And.intro ?_ ?_; (focus (first | omega | (simp only [go_sem]; done) | (simp; done) | (simp; omega) | assumption)))); (try (exfalso; omega; done))))))
      (apply Ret.det [0]; (focus (first | exact .inl rfl | exact .inr rfl)); (focus (simp (maxSteps := 9999999) (disch := omega) only [go_sem, p.ren, h1, trimF, hk, hm]; rfl)); (simp (maxSteps := 9999999) (disch := omega) only [go_sem, p.ren, h1, trimF, hk, hm]; (try (repeat' (first | done | trivial | rfl | exact leAs_rfl _ | decide | (refine And.intro ?_ ?_) | (simp; done) | omega | (simp; decide))))))
    · have hm : min d.s k = d.s := by omega
      refine ACall.startA c48_ok Try.func48 rfl Try.ntmps48 (by kernel_rfl) res48_ok rfl rfl rfl ?_; simp (maxSteps := 9999999) (disch := omega) only [go_sem]
      (repeat' (first | refine AWpA.seq ?_ | refine AWpA.block ?_ | (with_reducible refine CondP.tt ?_) | (with_reducible refine CondP.ff ?_) | refine AWpA.condv (by simp (maxSteps := 9999999) (disch := omega) only [go_sem, p.ren, h1, g1, g2, eq_false h6]; rfl) ?_ | ((first | (apply AWpA.region; (focus (simp (maxSteps := 9999999) (disch := omega) only [go_sem, p.ren, h1, g1, g2, eq_false h6]; rfl))) | (apply AWpA.draw [] [] follows; (focus (first | rfl | decide)); (focus (simp (maxSteps := 9999999) (disch := omega) only [go_sem, p.ren, h1, g1, g2, eq_false h6]; rfl)); (focus (simp (maxSteps := 9999999) (disch := omega) only [go_sem, p.ren, h1, g1, g2, eq_false h6]; first | done | trivial)); (focus (simp (maxSteps := 9999999) (disch := omega) only [go_sem, p.ren, h1, g1, g2, eq_false h6]; rfl))) | (apply TailK.go; (focus (simp (maxSteps := 9999999) (disch := omega) only [go_sem, p.ren, h1, g1, g2, eq_false h6]; rfl))) | refine AWpA.skip ?_ | refine AWpA.exit ?_ | refine AWpA.ret ?_ | (with_reducible refine ARoundsA.succ ?_) | ((first | refine Runs.kt (by assumption) (fun h9 => ?_) | refine Runs.kf (by assumption) (fun h9 => ?_) | refine Runs.nt (by assumption) (fun h9 => ?_) | refine Runs.nf (by assumption) (fun h9 => ?_) | refine CondP.ht (by assumption) (fun h9 => ?_) | refine CondP.hf (by assumption) (fun h9 => ?_) | refine CondP.nt (by assumption) (fun h9 => ?_) | refine CondP.nf (by assumption) (fun h9 => ?_)); (try simp only [h9]); clear h9) | ((first | (with_reducible apply CallG.plain1 [0] (u)) | (with_reducible apply CallG.draw1 [0] (u))); (focus ((try refine And.intro (leAs_of_eq rfl) ?_); (try refine And.intro (leOL_of_eq rfl) ?_); simp (maxSteps := 9999999) (disch := omega) only [go_sem, p.ren, h1, g1, g2, eq_false h6]; first | done | (repeat' (first | rfl | (refine And.intro ?_ ?_))))); (focus (simp (maxSteps := 9999999) (disch := omega) only [go_sem, p.ren, h1, g1, g2, eq_false h6]; rfl)))); (try simp (maxSteps := 9999999) (disch := omega) only [go_sem, p.ren, h1, g1, g2, eq_false h6]); (try (refine And.intro ?_ ?_; (focus (first | omega | (simp only [go_sem]; done) | (simp; done) | (simp; omega) | assumption))))) | ((first | refine CondP.split (fun hif => ?_) (fun hif => ?_) | refine Runs.part (fun hif => ?_) (fun hif => ?_)) <;> ((try simp only [hif]); (try simp only [decide_eq_true_eq, decide_eq_false_iff_not, Bool.not_eq_true, Bool.not_eq_false, Bool.not_eq_true', Bool.not_eq_false', beq_iff_eq, bne_iff_ne, bne_eq_false_iff_eq, beq_eq_false_iff_ne, ne_eq, Bool.and_eq_true, Bool.or_eq_true, Bool.or_eq_false_iff] at hif); (try (have h9 : _ = true := hif; simp only [h9])); (try (have h9 : _ = false := hif; simp only [h9])); (try simp (maxSteps := 9999999) (disch := omega) only [go_sem, p.ren, h1, g1, g2, eq_false h6]); (try (refine And.intro ?_ ?_; (focus (first | omega | (simp only [go_sem]; done) | (simp; done) | (simp; omega) | assumption)))); (try (exfalso; omega; done))))))
      (apply Ret.det [0]; (focus (first | exact .inl rfl | exact .inr rfl)); (focus (simp (maxSteps := 9999999) (disch := omega) only [go_sem, p.ren, h1, trimF, hk, hm]; rfl)); (simp (maxSteps := 9999999) (disch := omega) only [go_sem, p.ren, h1, trimF, hk, hm]; (try (repeat' (first | done | trivial | rfl | exact leAs_rfl _ | decide | (refine And.intro ?_ ?_) | (simp; done) | omega | (simp; decide))))))
theorem rcrash_any (d : Dk) (hok : d.ok) (keep : Int) {P : List AV} (p : Seg P 0 d.l) : ACall Try.prog 49 [Dg 0 d, I keep] [.cells true P] (Det (.tup [Dg 0 (crashF d keep), I (crashN d keep : Int)]) [.cells true P]) := by
  have h1 := hok.l
  have h2 := hok.s
  obtain ⟨n, hn⟩ : ∃ n, crashN d keep = n := ⟨_, rfl⟩
  have hle : n ≤ d.l.length - d.s := by rw [← hn]; unfold crashN; omega
  have ht : (d.l.take (d.s + n)).length = d.s + n := by simp; omega
  have hc : ((d.s : Int) + (n : Int)).toNat = d.s + n := by omega
  have hnn : n = min (max keep 0).toNat (d.l.length - d.s) := by rw [← hn]; rfl
  unfold crashF
  rw [hn]
  by_cases k1 : keep < (d.l.length : Int) - (d.s : Int)
  · by_cases k2 : keep < 0
    · obtain rfl : n = 0 := by omega
      have ht0 : (d.l.take d.s).length = d.s := by simp; omega
      refine ACall.startA c49_ok Try.func49 rfl Try.ntmps49 (by kernel_rfl) res49_ok rfl rfl rfl ?_; simp (maxSteps := 9999999) (disch := omega) only [go_sem]
      (repeat' (first | refine AWpA.seq ?_ | refine AWpA.block ?_ | (with_reducible refine CondP.tt ?_) | (with_reducible refine CondP.ff ?_) | refine AWpA.condv (by simp (maxSteps := 9999999) (disch := omega) only [go_sem, p.ren, eq_true k1, eq_true k2, ht, hc]; rfl) ?_ | ((first | (apply AWpA.region; (focus (simp (maxSteps := 9999999) (disch := omega) only [go_sem, p.ren, eq_true k1, eq_true k2, ht, hc]; rfl))) | (apply AWpA.draw [] [] follows; (focus (first | rfl | decide)); (focus (simp (maxSteps := 9999999) (disch := omega) only [go_sem, p.ren, eq_true k1, eq_true k2, ht, hc]; rfl)); (focus (simp (maxSteps := 9999999) (disch := omega) only [go_sem, p.ren, eq_true k1, eq_true k2, ht, hc]; first | done | trivial)); (focus (simp (maxSteps := 9999999) (disch := omega) only [go_sem, p.ren, eq_true k1, eq_true k2, ht, hc]; rfl))) | (apply TailK.go; (focus (simp (maxSteps := 9999999) (disch := omega) only [go_sem, p.ren, eq_true k1, eq_true k2, ht, hc]; rfl))) | refine AWpA.skip ?_ | refine AWpA.exit ?_ | refine AWpA.ret ?_ | (with_reducible refine ARoundsA.succ ?_) | ((first | refine Runs.kt (by assumption) (fun h9 => ?_) | refine Runs.kf (by assumption) (fun h9 => ?_) | refine Runs.nt (by assumption) (fun h9 => ?_) | refine Runs.nf (by assumption) (fun h9 => ?_) | refine CondP.ht (by assumption) (fun h9 => ?_) | refine CondP.hf (by assumption) (fun h9 => ?_) | refine CondP.nt (by assumption) (fun h9 => ?_) | refine CondP.nf (by assumption) (fun h9 => ?_)); (try simp only [h9]); clear h9)); (try simp (maxSteps := 9999999) (disch := omega) only [go_sem, p.ren, eq_true k1, eq_true k2, ht, hc]); (try (refine And.intro ?_ ?_; (focus (first | omega | (simp only [go_sem]; done) | (simp; done) | (simp; omega) | assumption))))) | ((first | refine CondP.split (fun hif => ?_) (fun hif => ?_) | refine Runs.part (fun hif => ?_) (fun hif => ?_)) <;> ((try simp only [hif]); (try simp only [decide_eq_true_eq, decide_eq_false_iff_not, Bool.not_eq_true, Bool.not_eq_false, Bool.not_eq_true', Bool.not_eq_false', beq_iff_eq, bne_iff_ne, bne_eq_false_iff_eq, beq_eq_false_iff_ne, ne_eq, Bool.and_eq_true, Bool.or_eq_true, Bool.or_eq_false_iff] at hif); (try (have h9 : _ = true := hif; simp only [h9])); (try (have h9 : _ = false := hif; simp only [h9])); (try simp (maxSteps := 9999999) (disch := omega) only [go_sem, p.ren, eq_true k1, eq_true k2, ht, hc]); (try (refine And.intro ?_ ?_; (focus (first | omega | (simp only [go_sem]; done) | (simp; done) | (simp; omega) | assumption)))); (try (exfalso; omega; done))))))
      (apply Ret.det [0]; (focus (first | exact .inl rfl | exact .inr rfl)); (focus (simp (maxSteps := 9999999) (disch := omega) only [go_sem, p.ren, ht, ht0]; rfl)); (simp (maxSteps := 9999999) (disch := omega) only [go_sem, p.ren, ht, ht0]; (try (repeat' (first | done | trivial | rfl | exact leAs_rfl _ | decide | (refine And.intro ?_ ?_) | (simp; done) | omega | (simp; decide))))))
    · obtain rfl : keep = (n : Int) := by omega
      refine ACall.startA c49_ok Try.func49 rfl Try.ntmps49 (by kernel_rfl) res49_ok rfl rfl rfl ?_; simp (maxSteps := 9999999) (disch := omega) only [go_sem]
      (repeat' (first | refine AWpA.seq ?_ | refine AWpA.block ?_ | (with_reducible refine CondP.tt ?_) | (with_reducible refine CondP.ff ?_) | refine AWpA.condv (by simp (maxSteps := 9999999) (disch := omega) only [go_sem, p.ren, eq_true k1, eq_false k2, ht, hc]; rfl) ?_ | ((first | (apply AWpA.region; (focus (simp (maxSteps := 9999999) (disch := omega) only [go_sem, p.ren, eq_true k1, eq_false k2, ht, hc]; rfl))) | (apply AWpA.draw [] [] follows; (focus (first | rfl | decide)); (focus (simp (maxSteps := 9999999) (disch := omega) only [go_sem, p.ren, eq_true k1, eq_false k2, ht, hc]; rfl)); (focus (simp (maxSteps := 9999999) (disch := omega) only [go_sem, p.ren, eq_true k1, eq_false k2, ht, hc]; first | done | trivial)); (focus (simp (maxSteps := 9999999) (disch := omega) only [go_sem, p.ren, eq_true k1, eq_false k2, ht, hc]; rfl))) | (apply TailK.go; (focus (simp (maxSteps := 9999999) (disch := omega) only [go_sem, p.ren, eq_true k1, eq_false k2, ht, hc]; rfl))) | refine AWpA.skip ?_ | refine AWpA.exit ?_ | refine AWpA.ret ?_ | (with_reducible refine ARoundsA.succ ?_) | ((first | refine Runs.kt (by assumption) (fun h9 => ?_) | refine Runs.kf (by assumption) (fun h9 => ?_) | refine Runs.nt (by assumption) (fun h9 => ?_) | refine Runs.nf (by assumption) (fun h9 => ?_) | refine CondP.ht (by assumption) (fun h9 => ?_) | refine CondP.hf (by assumption) (fun h9 => ?_) | refine CondP.nt (by assumption) (fun h9 => ?_) | refine CondP.nf (by assumption) (fun h9 => ?_)); (try simp only [h9]); clear h9)); (try simp (maxSteps := 9999999) (disch := omega) only [go_sem, p.ren, eq_true k1, eq_false k2, ht, hc]); (try (refine And.intro ?_ ?_; (focus (first | omega | (simp only [go_sem]; done) | (simp; done) | (simp; omega) | assumption))))) | ((first | refine CondP.split (fun hif => ?_) (fun hif => ?_) | refine Runs.part (fun hif => ?_) (fun hif => ?_)) <;> ((try simp only [hif]); (try simp only [decide_eq_true_eq, decide_eq_false_iff_not, Bool.not_eq_true, Bool.not_eq_false, Bool.not_eq_true', Bool.not_eq_false', beq_iff_eq, bne_iff_ne, bne_eq_false_iff_eq, beq_eq_false_iff_ne, ne_eq, Bool.and_eq_true, Bool.or_eq_true, Bool.or_eq_false_iff] at hif); (try (have h9 : _ = true := hif; simp only [h9])); (try (have h9 : _ = false := hif; simp only [h9])); (try simp (maxSteps := 9999999) (disch := omega) only [go_sem, p.ren, eq_true k1, eq_false k2, ht, hc]); (try (refine And.intro ?_ ?_; (focus (first | omega | (simp only [go_sem]; done) | (simp; done) | (simp; omega) | assumption)))); (try (exfalso; omega; done))))))
      (apply Ret.det [0]; (focus (first | exact .inl rfl | exact .inr rfl)); (focus (simp (maxSteps := 9999999) (disch := omega) only [go_sem, p.ren, ht]; rfl)); (simp (maxSteps := 9999999) (disch := omega) only [go_sem, p.ren, ht]; (try (repeat' (first | done | trivial | rfl | exact leAs_rfl _ | decide | (refine And.intro ?_ ?_) | (simp; done) | omega | (simp; decide))))))
  · have e : (d.l.length : Int) - (d.s : Int) = (n : Int) := by omega
    have k2 : ((n : Int) < 0) = False := eq_false (by omega)
    have k3 : (keep < (n : Int)) = False := eq_false (by omega)
    refine ACall.startA c49_ok Try.func49 rfl Try.ntmps49 (by kernel_rfl) res49_ok rfl rfl rfl ?_; simp (maxSteps := 9999999) (disch := omega) only [go_sem]
    (repeat' (first | refine AWpA.seq ?_ | refine AWpA.block ?_ | (with_reducible refine CondP.tt ?_) | (with_reducible refine CondP.ff ?_) | refine AWpA.condv (by simp (maxSteps := 9999999) (disch := omega) only [go_sem, p.ren, e, k2, k3, ht, hc]; rfl) ?_ | ((first | (apply AWpA.region; (focus (simp (maxSteps := 9999999) (disch := omega) only [go_sem, p.ren, e, k2, k3, ht, hc]; rfl))) | (apply AWpA.draw [] [] follows; (focus (first | rfl | decide)); (focus (simp (maxSteps := 9999999) (disch := omega) only [go_sem, p.ren, e, k2, k3, ht, hc]; rfl)); (focus (simp (maxSteps := 9999999) (disch := omega) only [go_sem, p.ren, e, k2, k3, ht, hc]; first | done | trivial)); (focus (simp (maxSteps := 9999999) (disch := omega) only [go_sem, p.ren, e, k2, k3, ht, hc]; rfl))) | (apply TailK.go; (focus (simp (maxSteps := 9999999) (disch := omega) only [go_sem, p.ren, e, k2, k3, ht, hc]; rfl))) | refine AWpA.skip ?_ | refine AWpA.exit ?_ | refine AWpA.ret ?_ | (with_reducible refine ARoundsA.succ ?_) | ((first | refine Runs.kt (by assumption) (fun h9 => ?_) | refine Runs.kf (by assumption) (fun h9 => ?_) | refine Runs.nt (by assumption) (fun h9 => ?_) | refine Runs.nf (by assumption) (fun h9 => ?_) | refine CondP.ht (by assumption) (fun h9 => ?_) | refine CondP.hf (by assumption) (fun h9 => ?_) | refine CondP.nt (by assumption) (fun h9 => ?_) | refine CondP.nf (by assumption) (fun h9 => ?_)); (try simp only [h9]); clear h9)); (try simp (maxSteps := 9999999) (disch := omega) only [go_sem, p.ren, e, k2, k3, ht, hc]); (try (refine And.intro ?_ ?_; (focus (first | omega | (simp only [go_sem]; done) | (simp; done) | (simp; omega) | assumption))))) | ((first | refine CondP.split (fun hif => ?_) (fun hif => ?_) | refine Runs.part (fun hif => ?_) (fun hif => ?_)) <;> ((try simp only [hif]); (try simp only [decide_eq_true_eq, decide_eq_false_iff_not, Bool.not_eq_true, Bool.not_eq_false, Bool.not_eq_true', Bool.not_eq_false', beq_iff_eq, bne_iff_ne, bne_eq_false_iff_eq, beq_eq_false_iff_ne, ne_eq, Bool.and_eq_true, Bool.or_eq_true, Bool.or_eq_false_iff] at hif); (try (have h9 : _ = true := hif; simp only [h9])); (try (have h9 : _ = false := hif; simp only [h9])); (try simp (maxSteps := 9999999) (disch := omega) only [go_sem, p.ren, e, k2, k3, ht, hc]); (try (refine And.intro ?_ ?_; (focus (first | omega | (simp only [go_sem]; done) | (simp; done) | (simp; omega) | assumption)))); (try (exfalso; omega; done))))))
    (apply Ret.det [0]; (focus (first | exact .inl rfl | exact .inr rfl)); (focus (simp (maxSteps := 9999999) (disch := omega) only [go_sem, p.ren, ht]; rfl)); (simp (maxSteps := 9999999) (disch := omega) only [go_sem, p.ren, ht]; (try (repeat' (first | done | trivial | rfl | exact leAs_rfl _ | decide | (refine And.intro ?_ ?_) | (simp; done) | omega | (simp; decide))))))
def byB (b : List Int) : Int := if 0 < b.length then b.getD 0 0 else 1
theorem by_any (k n : Int) {Q : List AV} {o : Nat} {b : List Int} (s : Seg Q o b) : ACall Try.prog 51 [.agg [I k, I n, .sl 0 o b.length 1 none]] [.cells true Q] (Det (U8 (byB b)) [.cells true Q]) := by
  have hle := s.le
  by_cases h : 0 < b.length
  · have g : ((0 : Int) < (b.length : Int)) = True := eq_true (by omega)
    have hb : Q.getD (o + 0) .bad = U8 b[0] := by
      have h1 := congrArg (fun z => z.getD 0 .bad) s.seg
      simp only [List.getD_eq_getElem?_getD, List.getElem?_take, List.getElem?_drop, if_pos h] at h1
      rw [List.getD_eq_getElem?_getD, h1]
      simp [bA, h]
    have e : byB b = b[0] := by simp [byB, h, List.getD_eq_getElem?_getD]
    rw [e]
    rw [Nat.add_zero] at hb
    generalize b[0] = x at *
    refine ACall.startA c51_ok Try.func51 rfl Try.ntmps51 (by kernel_rfl) res51_ok rfl rfl rfl ?_; simp (maxSteps := 9999999) (disch := omega) only [go_sem]
    (repeat' (first | refine AWpA.seq ?_ | refine AWpA.block ?_ | (with_reducible refine CondP.tt ?_) | (with_reducible refine CondP.ff ?_) | refine AWpA.condv (by simp (maxSteps := 9999999) (disch := omega) only [go_sem, s.ren, g, hb]; rfl) ?_ | ((first | (apply AWpA.region; (focus (simp (maxSteps := 9999999) (disch := omega) only [go_sem, s.ren, g, hb]; rfl))) | (apply AWpA.draw [] [] follows; (focus (first | rfl | decide)); (focus (simp (maxSteps := 9999999) (disch := omega) only [go_sem, s.ren, g, hb]; rfl)); (focus (simp (maxSteps := 9999999) (disch := omega) only [go_sem, s.ren, g, hb]; first | done | trivial)); (focus (simp (maxSteps := 9999999) (disch := omega) only [go_sem, s.ren, g, hb]; rfl))) | (apply TailK.go; (focus (simp (maxSteps := 9999999) (disch := omega) only [go_sem, s.ren, g, hb]; rfl))) | refine AWpA.skip ?_ | refine AWpA.exit ?_ | refine AWpA.ret ?_ | (with_reducible refine ARoundsA.succ ?_) | ((first | refine Runs.kt (by assumption) (fun h9 => ?_) | refine Runs.kf (by assumption) (fun h9 => ?_) | refine Runs.nt (by assumption) (fun h9 => ?_) | refine Runs.nf (by assumption) (fun h9 => ?_) | refine CondP.ht (by assumption) (fun h9 => ?_) | refine CondP.hf (by assumption) (fun h9 => ?_) | refine CondP.nt (by assumption) (fun h9 => ?_) | refine CondP.nf (by assumption) (fun h9 => ?_)); (try simp only [h9]); clear h9)); (try simp (maxSteps := 9999999) (disch := omega) only [go_sem, s.ren, g, hb]); (try (refine And.intro ?_ ?_; (focus (first | omega | (simp only [go_sem]; done) | (simp; done) | (simp; omega) | assumption))))) | ((first | refine CondP.split (fun hif => ?_) (fun hif => ?_) | refine Runs.part (fun hif => ?_) (fun hif => ?_)) <;> ((try simp only [hif]); (try simp only [decide_eq_true_eq, decide_eq_false_iff_not, Bool.not_eq_true, Bool.not_eq_false, Bool.not_eq_true', Bool.not_eq_false', beq_iff_eq, bne_iff_ne, bne_eq_false_iff_eq, beq_eq_false_iff_ne, ne_eq, Bool.and_eq_true, Bool.or_eq_true, Bool.or_eq_false_iff] at hif); (try (have h9 : _ = true := hif; simp only [h9])); (try (have h9 : _ = false := hif; simp only [h9])); (try simp (maxSteps := 9999999) (disch := omega) only [go_sem, s.ren, g, hb]); (try (refine And.intro ?_ ?_; (focus (first | omega | (simp only [go_sem]; done) | (simp; done) | (simp; omega) | assumption)))); (try (exfalso; omega; done))))))
    (apply Ret.det [0]; (focus (first | exact .inl rfl | exact .inr rfl)); (focus (simp (maxSteps := 9999999) (disch := omega) only [go_sem, s.ren]; rfl)); (simp (maxSteps := 9999999) (disch := omega) only [go_sem, s.ren]; (try (repeat' (first | done | trivial | rfl | exact leAs_rfl _ | decide | (refine And.intro ?_ ?_) | (simp; done) | omega | (simp; decide))))))
  · have g : ((0 : Int) < (b.length : Int)) = False := eq_false (by omega)
    have e : byB b = 1 := by simp [byB, h]
    rw [e]
    refine ACall.startA c51_ok Try.func51 rfl Try.ntmps51 (by kernel_rfl) res51_ok rfl rfl rfl ?_; simp (maxSteps := 9999999) (disch := omega) only [go_sem]
    (repeat' (first | refine AWpA.seq ?_ | refine AWpA.block ?_ | (with_reducible refine CondP.tt ?_) | (with_reducible refine CondP.ff ?_) | refine AWpA.condv (by simp (maxSteps := 9999999) (disch := omega) only [go_sem, s.ren, g]; rfl) ?_ | ((first | (apply AWpA.region; (focus (simp (maxSteps := 9999999) (disch := omega) only [go_sem, s.ren, g]; rfl))) | (apply AWpA.draw [] [] follows; (focus (first | rfl | decide)); (focus (simp (maxSteps := 9999999) (disch := omega) only [go_sem, s.ren, g]; rfl)); (focus (simp (maxSteps := 9999999) (disch := omega) only [go_sem, s.ren, g]; first | done | trivial)); (focus (simp (maxSteps := 9999999) (disch := omega) only [go_sem, s.ren, g]; rfl))) | (apply TailK.go; (focus (simp (maxSteps := 9999999) (disch := omega) only [go_sem, s.ren, g]; rfl))) | refine AWpA.skip ?_ | refine AWpA.exit ?_ | refine AWpA.ret ?_ | (with_reducible refine ARoundsA.succ ?_) | ((first | refine Runs.kt (by assumption) (fun h9 => ?_) | refine Runs.kf (by assumption) (fun h9 => ?_) | refine Runs.nt (by assumption) (fun h9 => ?_) | refine Runs.nf (by assumption) (fun h9 => ?_) | refine CondP.ht (by assumption) (fun h9 => ?_) | refine CondP.hf (by assumption) (fun h9 => ?_) | refine CondP.nt (by assumption) (fun h9 => ?_) | refine CondP.nf (by assumption) (fun h9 => ?_)); (try simp only [h9]); clear h9)); (try simp (maxSteps := 9999999) (disch := omega) only [go_sem, s.ren, g]); (try (refine And.intro ?_ ?_; (focus (first | omega | (simp only [go_sem]; done) | (simp; done) | (simp; omega) | assumption))))) | ((first | refine CondP.split (fun hif => ?_) (fun hif => ?_) | refine Runs.part (fun hif => ?_) (fun hif => ?_)) <;> ((try simp only [hif]); (try simp only [decide_eq_true_eq, decide_eq_false_iff_not, Bool.not_eq_true, Bool.not_eq_false, Bool.not_eq_true', Bool.not_eq_false', beq_iff_eq, bne_iff_ne, bne_eq_false_iff_eq, beq_eq_false_iff_ne, ne_eq, Bool.and_eq_true, Bool.or_eq_true, Bool.or_eq_false_iff] at hif); (try (have h9 : _ = true := hif; simp only [h9])); (try (have h9 : _ = false := hif; simp only [h9])); (try simp (maxSteps := 9999999) (disch := omega) only [go_sem, s.ren, g]); (try (refine And.intro ?_ ?_; (focus (first | omega | (simp only [go_sem]; done) | (simp; done) | (simp; omega) | assumption)))); (try (exfalso; omega; done))))))
    (apply Ret.det [0]; (focus (first | exact .inl rfl | exact .inr rfl)); (focus (simp (maxSteps := 9999999) (disch := omega) only [go_sem, s.ren]; rfl)); (simp (maxSteps := 9999999) (disch := omega) only [go_sem, s.ren]; (try (repeat' (first | done | trivial | rfl | exact leAs_rfl _ | decide | (refine And.intro ?_ ?_) | (simp; done) | omega | (simp; decide))))))
end Go.Proofs.Ytnadhhmlehifnaa
