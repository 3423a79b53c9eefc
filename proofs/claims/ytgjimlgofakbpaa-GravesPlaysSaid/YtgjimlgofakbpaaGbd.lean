/- Contracts: the document's graves: texts, the same, none, older. -/
import Derived.Test.YtgjimlgofakbpaaGbb
namespace Go.Proofs.Ytgjimlgofakbpaa
set_option linter.unusedSimpArgs false
set_option linter.unusedVariables false
set_option maxHeartbeats 4000000
open Go Go.Am Go.RowKit
set_option maxRecDepth 100000
/- quidnunc/quidnunclaw11.Texts -/
noncomputable def c47_1 : ACode := .region false [⟨some 4, .move, [.c (.val (.bool false))], none⟩] [] [] [0, 1] false [] []
noncomputable def c47_4 : ACode := .region false [⟨some 6, .move, [.t 0], none⟩,
  ⟨some 7, .len, [.t 6], none⟩,
  ⟨some 8, .move, [.t 1], none⟩,
  ⟨some 9, .len, [.t 8], none⟩,
  ⟨some 10, .bin .neq, [.t 7, .t 9], none⟩] [] [] [0, 1, 10] false [] []
noncomputable def c47_7 : ACode := .region false [⟨some 4, .move, [.c (.val (.bool false))], none⟩] [] [] [4] false [] []
noncomputable def c47_6 : ACode := .seq c47_7 .ret
noncomputable def c47_5 : ACode := .cond (.t 10) c47_6 .skip
noncomputable def c47_3 : ACode := .seq c47_4 c47_5
noncomputable def c47_10 : ACode := .region false [⟨some 11, .move, [.t 0], none⟩,
  ⟨some 12, .len, [.t 11], none⟩,
  ⟨some 13, .move, [.c (.val (.int .i64 0))], none⟩] [] [] [0, 1, 12, 13] false [] []
noncomputable def c47_14 : ACode := .region false [⟨some 14, .bin .lss, [.t 13, .t 12], none⟩] [] [] [0, 1, 12, 13, 14] false [] []
noncomputable def c47_16 : ACode := .cond (.t 14) .skip (.exit 0)
noncomputable def c47_20 : ACode := .region false [⟨some 15, .move, [.t 13], none⟩,
  ⟨some 5, .move, [.t 15], none⟩] [] [] [0, 1, 5, 12, 13] false [] []
noncomputable def c47_22 : ACode := .region true [⟨some 16, .move, [.t 0], none⟩,
  ⟨some 17, .move, [.t 5], none⟩,
  ⟨some 18, .ixS 1, [.t 16, .t 17], none⟩,
  ⟨some 19, .load false 1, [.t 18], none⟩,
  ⟨some 20, .move, [.t 1], none⟩,
  ⟨some 21, .move, [.t 5], none⟩,
  ⟨some 22, .ixS 1, [.t 20, .t 21], none⟩,
  ⟨some 23, .load false 1, [.t 22], none⟩,
  ⟨some 24, .bin .neq, [.t 19, .t 23], none⟩] [] [] [0, 1, 12, 13, 24] false [] []
noncomputable def c47_25 : ACode := .region false [⟨some 4, .move, [.c (.val (.bool false))], none⟩] [] [] [4] false [] []
noncomputable def c47_24 : ACode := .seq c47_25 .ret
noncomputable def c47_23 : ACode := .cond (.t 24) c47_24 .skip
noncomputable def c47_21 : ACode := .seq c47_22 c47_23
noncomputable def c47_19 : ACode := .seq c47_20 c47_21
noncomputable def c47_18 : ACode := .block 1 c47_19
noncomputable def c47_26 : ACode := .region false [⟨some 25, .bin .add, [.t 13, .c (.val (.int .i64 1))], none⟩,
  ⟨some 13, .move, [.t 25], none⟩] [] [] [0, 1, 12, 13] false [] []
noncomputable def c47_17 : ACode := .seq c47_18 c47_26
noncomputable def c47_15 : ACode := .seq c47_16 c47_17
noncomputable def c47_13 : ACode := .seq c47_14 c47_15
noncomputable def c47_12 : ACode := .loop c47_13
noncomputable def c47_11 : ACode := .block 0 c47_12
noncomputable def c47_9 : ACode := .seq c47_10 c47_11
noncomputable def c47_28 : ACode := .region false [⟨some 4, .move, [.c (.val (.bool true))], none⟩] [] [] [4] false [] []
noncomputable def c47_27 : ACode := .seq c47_28 .ret
noncomputable def c47_8 : ACode := .seq c47_9 c47_27
noncomputable def c47_2 : ACode := .seq c47_3 c47_8
noncomputable def c47_0 : ACode := .seq c47_1 c47_2
noncomputable def code47 : Code := (Try.f47.body).getD .skip
theorem c47_ok : compC Try.prog 26 code47 = some (strip c47_0) := by kernel_rfl
theorem res47_ok : Try.f47.results.toList.mapM (resC Try.prog) = some [(4, none)] := by kernel_rfl
/- quidnunc/quidnuncref11.Same -/
noncomputable def c52_1 : ACode := .region false [⟨some 4, .move, [.c (.val (.bool false))], none⟩] [] [] [0, 1] false [] []
noncomputable def c52_4 : ACode := .region false [⟨some 6, .move, [.t 0], none⟩,
  ⟨some 7, .len, [.t 6], none⟩,
  ⟨some 8, .move, [.t 1], none⟩,
  ⟨some 9, .len, [.t 8], none⟩,
  ⟨some 10, .bin .neq, [.t 7, .t 9], none⟩] [] [] [0, 1, 10] false [] []
noncomputable def c52_7 : ACode := .region false [⟨some 4, .move, [.c (.val (.bool false))], none⟩] [] [] [4] false [] []
noncomputable def c52_6 : ACode := .seq c52_7 .ret
noncomputable def c52_5 : ACode := .cond (.t 10) c52_6 .skip
noncomputable def c52_3 : ACode := .seq c52_4 c52_5
noncomputable def c52_10 : ACode := .region false [⟨some 5, .move, [.c (.val (.int .i64 0))], none⟩] [] [] [0, 1, 5] false [] []
noncomputable def c52_15 : ACode := .region false [⟨some 11, .move, [.t 5], none⟩,
  ⟨some 12, .move, [.t 0], none⟩,
  ⟨some 13, .len, [.t 12], none⟩,
  ⟨some 14, .bin .lss, [.t 11, .t 13], none⟩] [] [] [0, 1, 5, 14] false [] []
noncomputable def c52_16 : ACode := .cond (.t 14) .skip (.exit 0)
noncomputable def c52_14 : ACode := .seq c52_15 c52_16
noncomputable def c52_20 : ACode := .region true [⟨some 17, .move, [.t 0], none⟩,
  ⟨some 18, .move, [.t 5], none⟩,
  ⟨some 19, .ixS 9, [.t 17, .t 18], none⟩,
  ⟨some 20, .load true 9, [.t 19], none⟩,
  ⟨some 21, .move, [.t 1], none⟩,
  ⟨some 22, .move, [.t 5], none⟩,
  ⟨some 23, .ixS 9, [.t 21, .t 22], none⟩,
  ⟨some 24, .load true 9, [.t 23], none⟩,
  ⟨some 25, .eqA true [(0, 1), (1, 1), (2, 2), (3, 0), (4, 0), (5, 0), (6, 0), (7, 0), (8, 0)], [.t 20, .t 24], none⟩] [] [] [0, 1, 5, 25] false [] []
noncomputable def c52_23 : ACode := .region false [⟨some 4, .move, [.c (.val (.bool false))], none⟩] [] [] [4] false [] []
noncomputable def c52_22 : ACode := .seq c52_23 .ret
noncomputable def c52_21 : ACode := .cond (.t 25) c52_22 .skip
noncomputable def c52_19 : ACode := .seq c52_20 c52_21
noncomputable def c52_18 : ACode := .block 1 c52_19
noncomputable def c52_24 : ACode := .region false [⟨some 15, .move, [.t 5], none⟩,
  ⟨some 16, .bin .add, [.t 15, .c (.val (.int .i64 1))], none⟩,
  ⟨some 5, .move, [.t 16], none⟩] [] [] [0, 1, 5] false [] []
noncomputable def c52_17 : ACode := .seq c52_18 c52_24
noncomputable def c52_13 : ACode := .seq c52_14 c52_17
noncomputable def c52_12 : ACode := .loop c52_13
noncomputable def c52_11 : ACode := .block 0 c52_12
noncomputable def c52_9 : ACode := .seq c52_10 c52_11
noncomputable def c52_26 : ACode := .region false [⟨some 4, .move, [.c (.val (.bool true))], none⟩] [] [] [4] false [] []
noncomputable def c52_25 : ACode := .seq c52_26 .ret
noncomputable def c52_8 : ACode := .seq c52_9 c52_25
noncomputable def c52_2 : ACode := .seq c52_3 c52_8
noncomputable def c52_0 : ACode := .seq c52_1 c52_2
noncomputable def code52 : Code := (Try.f52.body).getD .skip
theorem c52_ok : compC Try.prog 26 code52 = some (strip c52_0) := by kernel_rfl
theorem res52_ok : Try.f52.results.toList.mapM (resC Try.prog) = some [(4, none)] := by kernel_rfl
/- quidnunc/quidnuncref11.New -/
noncomputable def c45_1 : ACode := .region false [⟨some 4, .alloc [(.int .i64 0), (.int .i64 0), (.slice none 0 0)], [], none⟩,
  ⟨some 5, .move, [.c (.val (.int .i64 0))], none⟩] [] [] [0, 1, 4] true [] []
noncomputable def c45_4 : ACode := .region false [⟨some 6, .move, [.t 0], none⟩,
  ⟨some 7, .call 69, [.t 6], none⟩,
  ⟨some 8, .un .not, [.t 7], none⟩] [] [] [0, 1, 4, 8] true [] []
noncomputable def c45_7 : ACode := .region false [⟨some 9, .build [(.int .i64 0), (.int .i64 0), (.slice none 0 0)] [], [], none⟩,
  ⟨none, .store 3, [.t 4, .t 9], none⟩,
  ⟨some 5, .move, [.c (.val (.int .i64 1))], none⟩] [] [] [4, 5] true [] []
noncomputable def c45_6 : ACode := .seq c45_7 .ret
noncomputable def c45_5 : ACode := .cond (.t 8) c45_6 .skip
noncomputable def c45_3 : ACode := .seq c45_4 c45_5
noncomputable def c45_10 : ACode := .region false [⟨some 10, .move, [.t 1], none⟩,
  ⟨some 11, .bin .lss, [.t 10, .c (.val (.int .i64 0))], none⟩,
  ⟨some 12, .move, [.t 11], none⟩,
  ⟨some 13, .move, [.t 1], some (some 12, false)⟩,
  ⟨some 14, .bin .gtr, [.t 13, .c (.val (.int .i64 2147483647))], some (some 12, false)⟩,
  ⟨some 15, .pick, [.t 12, .c (.val (.bool true)), .t 14], none⟩] [] [] [0, 1, 4, 15] false [] []
noncomputable def c45_13 : ACode := .region false [⟨some 16, .build [(.int .i64 0), (.int .i64 0), (.slice none 0 0)] [], [], none⟩,
  ⟨none, .store 3, [.t 4, .t 16], none⟩,
  ⟨some 5, .move, [.c (.val (.int .i64 2))], none⟩] [] [] [4, 5] true [] []
noncomputable def c45_12 : ACode := .seq c45_13 .ret
noncomputable def c45_11 : ACode := .cond (.t 15) c45_12 .skip
noncomputable def c45_9 : ACode := .seq c45_10 c45_11
noncomputable def c45_15 : ACode := .region false [⟨some 17, .move, [.t 0], none⟩,
  ⟨some 18, .move, [.t 1], none⟩,
  ⟨some 19, .build [(.int .i64 0), (.int .i64 0), (.slice none 0 0)] [(0, 1), (1, 1)], [.t 17, .t 18], none⟩,
  ⟨none, .store 3, [.t 4, .t 19], none⟩,
  ⟨some 5, .move, [.c (.val (.int .i64 0))], none⟩] [] [] [4, 5] true [] []
noncomputable def c45_14 : ACode := .seq c45_15 .ret
noncomputable def c45_8 : ACode := .seq c45_9 c45_14
noncomputable def c45_2 : ACode := .seq c45_3 c45_8
noncomputable def c45_0 : ACode := .seq c45_1 c45_2
noncomputable def code45 : Code := (Try.f45.body).getD .skip
theorem c45_ok : compC Try.prog 20 code45 = some (strip c45_0) := by kernel_rfl
theorem res45_ok : Try.f45.results.toList.mapM (resC Try.prog) = some [(4, some (true, 3)), (5, none)] := by kernel_rfl
/- quidnunc/quidnuncref11.Tick -/
noncomputable def c46_1 : ACode := .region false [⟨some 1, .box 0, [.t 0], none⟩,
  ⟨some 2, .alloc [(.int .i64 0), (.int .i64 0), (.slice none 0 0)], [], none⟩,
  ⟨some 3, .move, [.c (.val (.slice none 0 0))], none⟩] [] [] [1, 2] true [] []
noncomputable def c46_3 : ACode := .region false [⟨some 8, .addr 0, [.t 1], none⟩,
  ⟨some 9, .load false 1, [.t 8], none⟩,
  ⟨some 10, .addr 1, [.t 1], none⟩,
  ⟨some 11, .load false 1, [.t 10], none⟩,
  ⟨some 12, .build [(.int .i64 0), (.int .i64 0), (.slice none 0 0)] [(0, 1), (1, 1)], [.t 9, .t 11], none⟩,
  ⟨some 4, .alloc [(.int .i64 0), (.int .i64 0), (.slice none 0 0)], [], none⟩,
  ⟨none, .store 3, [.t 4, .t 12], none⟩] [] [] [1, 2, 4] true [] []
noncomputable def c46_5 : ACode := .region false [⟨some 13, .buildSl 1 0 [(.string ⟨#[]⟩)] [], [], none⟩,
  ⟨some 5, .move, [.t 13], none⟩] [] [] [1, 2, 4, 5] true [] []
noncomputable def c46_8 : ACode := .region false [⟨some 6, .move, [.c (.val (.int .i64 0))], none⟩] [] [] [1, 2, 4, 5, 6] false [] []
noncomputable def c46_13 : ACode := .region false [⟨some 14, .move, [.t 6], none⟩,
  ⟨some 15, .addr 2, [.t 1], none⟩,
  ⟨some 16, .load false 1, [.t 15], none⟩,
  ⟨some 17, .len, [.t 16], none⟩,
  ⟨some 18, .bin .lss, [.t 14, .t 17], none⟩] [] [] [1, 2, 4, 5, 6, 18] false [] []
noncomputable def c46_14 : ACode := .cond (.t 18) .skip (.exit 0)
noncomputable def c46_12 : ACode := .seq c46_13 c46_14
noncomputable def c46_18 : ACode := .region false [⟨some 21, .addr 2, [.t 1], none⟩,
  ⟨some 22, .load false 1, [.t 21], none⟩,
  ⟨some 23, .move, [.t 6], none⟩,
  ⟨some 24, .ixS 9, [.t 22, .t 23], none⟩,
  ⟨some 25, .load true 9, [.t 24], none⟩,
  ⟨some 7, .alloc [(.string ⟨#[]⟩), (.string ⟨#[]⟩), (.bool false), (.int .i64 0), (.int .i64 0), (.int .i64 0), (.int .i64 0), (.int .i64 0), (.int .i64 0)], [], none⟩,
  ⟨none, .store 9, [.t 7, .t 25], none⟩] [] [] [1, 2, 4, 5, 6, 7] true [] []
noncomputable def c46_20 : ACode := .region false [⟨some 26, .addr 8, [.t 7], none⟩,
  ⟨some 27, .load false 1, [.t 26], none⟩,
  ⟨some 28, .bin .add, [.t 27, .c (.val (.int .i64 1))], none⟩,
  ⟨some 29, .addr 8, [.t 7], none⟩,
  ⟨none, .store 1, [.t 29, .t 28], none⟩] [] [] [1, 2, 4, 5, 6, 7] true [] []
noncomputable def c46_22 : ACode := .region false [⟨some 30, .addr 8, [.t 7], none⟩,
  ⟨some 31, .load false 1, [.t 30], none⟩,
  ⟨some 32, .addr 1, [.t 1], none⟩,
  ⟨some 33, .load false 1, [.t 32], none⟩,
  ⟨some 34, .bin .lss, [.t 31, .t 33], none⟩] [] [] [1, 2, 4, 5, 6, 7, 34] false [] []
noncomputable def c46_24 : ACode := .region false [⟨some 35, .addr 2, [.t 4], none⟩,
  ⟨some 36, .load false 1, [.t 35], none⟩,
  ⟨some 37, .load true 9, [.t 7], none⟩,
  ⟨some 38, .buildSl 9 1 [(.string ⟨#[]⟩), (.string ⟨#[]⟩), (.bool false), (.int .i64 0), (.int .i64 0), (.int .i64 0), (.int .i64 0), (.int .i64 0), (.int .i64 0)] [(0, 9)], [.t 37], none⟩,
  ⟨some 39, .append 9 88 false, [.t 36, .t 38], none⟩,
  ⟨some 40, .addr 2, [.t 4], none⟩,
  ⟨none, .store 1, [.t 40, .t 39], none⟩] [] [] [1, 2, 4, 5, 6] true [] []
noncomputable def c46_25 : ACode := .region false [⟨some 41, .move, [.t 5], none⟩,
  ⟨some 42, .addr 0, [.t 7], none⟩,
  ⟨some 43, .load false 1, [.t 42], none⟩,
  ⟨some 44, .buildSl 1 1 [(.string ⟨#[]⟩)] [(0, 1)], [.t 43], none⟩,
  ⟨some 45, .append 1 16 false, [.t 41, .t 44], none⟩,
  ⟨some 5, .move, [.t 45], none⟩] [] [] [1, 2, 4, 5, 6] true [] []
noncomputable def c46_23 : ACode := .cond (.t 34) c46_24 c46_25
noncomputable def c46_21 : ACode := .seq c46_22 c46_23
noncomputable def c46_19 : ACode := .seq c46_20 c46_21
noncomputable def c46_17 : ACode := .seq c46_18 c46_19
noncomputable def c46_16 : ACode := .block 1 c46_17
noncomputable def c46_26 : ACode := .region false [⟨some 19, .move, [.t 6], none⟩,
  ⟨some 20, .bin .add, [.t 19, .c (.val (.int .i64 1))], none⟩,
  ⟨some 6, .move, [.t 20], none⟩] [] [] [1, 2, 4, 5, 6] false [] []
noncomputable def c46_15 : ACode := .seq c46_16 c46_26
noncomputable def c46_11 : ACode := .seq c46_12 c46_15
noncomputable def c46_10 : ACode := .loop c46_11
noncomputable def c46_9 : ACode := .block 0 c46_10
noncomputable def c46_7 : ACode := .seq c46_8 c46_9
noncomputable def c46_28 : ACode := .region false [⟨some 46, .load true 3, [.t 4], none⟩,
  ⟨some 47, .move, [.t 5], none⟩,
  ⟨none, .store 3, [.t 2, .t 46], none⟩,
  ⟨some 3, .move, [.t 47], none⟩] [] [] [2, 3] true [] []
noncomputable def c46_27 : ACode := .seq c46_28 .ret
noncomputable def c46_6 : ACode := .seq c46_7 c46_27
noncomputable def c46_4 : ACode := .seq c46_5 c46_6
noncomputable def c46_2 : ACode := .seq c46_3 c46_4
noncomputable def c46_0 : ACode := .seq c46_1 c46_2
noncomputable def code46 : Code := (Try.f46.body).getD .skip
theorem c46_ok : compC Try.prog 48 code46 = some (strip c46_0) := by kernel_rfl
theorem res46_ok : Try.f46.results.toList.mapM (resC Try.prog) = some [(2, some (true, 3)), (3, none)] := by kernel_rfl
abbrev vsP (l : List PE) : List En := l.map fun p : PE => p.v
theorem rk_get (l : List ByteArray) (i : Nat) (h : i < l.length) : (Rk l).getD i AV.bad = Str l[i] := by
  have hat : ((rowsC 0 KsL l).drop (0 + i * 1)).take 1 = KsL l[i] := rowsC_at (f := KsL) (k := 1) (fun _ => rfl) l i h
  rw [List.getD_eq_getElem?_getD]
  have := congrArg (fun x => x[0]?) hat
  rw [List.getElem?_take, if_pos (by omega), List.getElem?_drop, Nat.add_zero, Nat.mul_one, Nat.zero_add] at this
  show (rowsC 0 KsL l)[i]?.getD _ = _
  rw [this]; rfl
theorem texts_any (l : List ByteArray) (hl : l.length ≤ 1099511627776) : ACall Try.prog 47 [.sl 0 0 l.length 1 none, .sl 1 0 l.length 1 none] [.cells true (Rk l), .cells true (Rk l)] (Det (Bo true) [.cells true (Rk l), .cells true (Rk l)]) := by
  have hk := rk_ren
  have hL := rk_len l
  refine ACall.startA c47_ok Try.func47 rfl Try.ntmps47 (by kernel_rfl) res47_ok rfl rfl rfl ?_; simp (maxSteps := 9999999) (disch := omega) only [go_sem]
  (repeat' (first | refine AWpA.seq ?_ | refine AWpA.block ?_ | (with_reducible refine CondP.tt ?_) | (with_reducible refine CondP.ff ?_) | refine AWpA.condv (by simp (maxSteps := 9999999) (disch := omega) only [go_sem, hk]; rfl) ?_ | ((first | (apply AWpA.region; (focus (simp (maxSteps := 9999999) (disch := omega) only [go_sem, hk]; rfl))) | (apply AWpA.draw [] [] follows; (focus (first | rfl | decide)); (focus (simp (maxSteps := 9999999) (disch := omega) only [go_sem, hk]; rfl)); (focus (simp (maxSteps := 9999999) (disch := omega) only [go_sem, hk]; first | done | trivial)); (focus (simp (maxSteps := 9999999) (disch := omega) only [go_sem, hk]; rfl))) | (apply TailK.go; (focus (simp (maxSteps := 9999999) (disch := omega) only [go_sem, hk]; rfl))) | refine AWpA.skip ?_ | refine AWpA.exit ?_ | refine AWpA.ret ?_ | (with_reducible refine ARoundsA.succ ?_) | ((first | refine Runs.kt (by assumption) (fun h9 => ?_) | refine Runs.kf (by assumption) (fun h9 => ?_) | refine Runs.nt (by assumption) (fun h9 => ?_) | refine Runs.nf (by assumption) (fun h9 => ?_) | refine CondP.ht (by assumption) (fun h9 => ?_) | refine CondP.hf (by assumption) (fun h9 => ?_) | refine CondP.nt (by assumption) (fun h9 => ?_) | refine CondP.nf (by assumption) (fun h9 => ?_)); (try simp only [h9]); clear h9)); (try simp (maxSteps := 9999999) (disch := omega) only [go_sem, hk]); (try (refine And.intro ?_ ?_; (focus (first | omega | (simp only [go_sem]; done) | (simp; done) | (simp; omega) | assumption))))) | ((first | refine CondP.split (fun hif => ?_) (fun hif => ?_) | refine Runs.part (fun hif => ?_) (fun hif => ?_)) <;> ((try simp only [hif]); (try simp only [decide_eq_true_eq, decide_eq_false_iff_not, Bool.not_eq_true, Bool.not_eq_false, Bool.not_eq_true', Bool.not_eq_false', beq_iff_eq, bne_iff_ne, bne_eq_false_iff_eq, beq_eq_false_iff_ne, ne_eq, Bool.and_eq_true, Bool.or_eq_true, Bool.or_eq_false_iff] at hif); (try (have h9 : _ = true := hif; simp only [h9])); (try (have h9 : _ = false := hif; simp only [h9])); (try simp (maxSteps := 9999999) (disch := omega) only [go_sem, hk]); (try (refine And.intro ?_ ?_; (focus (first | omega | (simp only [go_sem]; done) | (simp; done) | (simp; omega) | assumption)))); (try (exfalso; omega; done))))))
  (apply AWpA.loopL (fun i : Nat => [(0, .sl 0 0 l.length 1 none), (1, .sl 1 0 l.length 1 none), (12, I l.length), (13, I i)]) (fun i => [.cells true (Rk l), .cells true (Rk l)]) (fun i => l.length - i) (fun i => i ≤ l.length) (0) [0, 1]; rotate_left; (focus (simp (maxSteps := 9999999) (disch := omega) only [go_sem, hk]; (try (repeat' (first | done | trivial | rfl | exact leAs_rfl _ | decide | (refine And.intro ?_ ?_) | (simp; done) | omega | (simp; decide)))))); rotate_right)
  · exact Nat.zero_le _
  rintro i hi
  (try simp only at hi)
  by_cases hin : i < l.length
  · have g1 : ((i : Int) < (l.length : Int)) = True := eq_true (by omega)
    have hbe : ∀ x : ByteArray, (x == x) = true := fun x => (_root_.Go.MapKept.bytes_beq _ _).2 rfl
    have hat := rk_get l i hin
    generalize l[i] = x at *
    (try simp (maxSteps := 9999999) (disch := omega) only [go_sem])
    (repeat' (first | refine AWpA.seq ?_ | refine AWpA.block ?_ | (with_reducible refine CondP.tt ?_) | (with_reducible refine CondP.ff ?_) | refine AWpA.condv (by simp (maxSteps := 9999999) (disch := omega) only [go_sem, hk, hL, hat, hbe, g1]; rfl) ?_ | ((first | (apply AWpA.region; (focus (simp (maxSteps := 9999999) (disch := omega) only [go_sem, hk, hL, hat, hbe, g1]; rfl))) | (apply AWpA.draw [] [] follows; (focus (first | rfl | decide)); (focus (simp (maxSteps := 9999999) (disch := omega) only [go_sem, hk, hL, hat, hbe, g1]; rfl)); (focus (simp (maxSteps := 9999999) (disch := omega) only [go_sem, hk, hL, hat, hbe, g1]; first | done | trivial)); (focus (simp (maxSteps := 9999999) (disch := omega) only [go_sem, hk, hL, hat, hbe, g1]; rfl))) | (apply TailK.go; (focus (simp (maxSteps := 9999999) (disch := omega) only [go_sem, hk, hL, hat, hbe, g1]; rfl))) | refine AWpA.skip ?_ | refine AWpA.exit ?_ | refine AWpA.ret ?_ | (with_reducible refine ARoundsA.succ ?_) | ((first | refine Runs.kt (by assumption) (fun h9 => ?_) | refine Runs.kf (by assumption) (fun h9 => ?_) | refine Runs.nt (by assumption) (fun h9 => ?_) | refine Runs.nf (by assumption) (fun h9 => ?_) | refine CondP.ht (by assumption) (fun h9 => ?_) | refine CondP.hf (by assumption) (fun h9 => ?_) | refine CondP.nt (by assumption) (fun h9 => ?_) | refine CondP.nf (by assumption) (fun h9 => ?_)); (try simp only [h9]); clear h9)); (try simp (maxSteps := 9999999) (disch := omega) only [go_sem, hk, hL, hat, hbe, g1]); (try (refine And.intro ?_ ?_; (focus (first | omega | (simp only [go_sem]; done) | (simp; done) | (simp; omega) | assumption))))) | ((first | refine CondP.split (fun hif => ?_) (fun hif => ?_) | refine Runs.part (fun hif => ?_) (fun hif => ?_)) <;> ((try simp only [hif]); (try simp only [decide_eq_true_eq, decide_eq_false_iff_not, Bool.not_eq_true, Bool.not_eq_false, Bool.not_eq_true', Bool.not_eq_false', beq_iff_eq, bne_iff_ne, bne_eq_false_iff_eq, beq_eq_false_iff_ne, ne_eq, Bool.and_eq_true, Bool.or_eq_true, Bool.or_eq_false_iff] at hif); (try (have h9 : _ = true := hif; simp only [h9])); (try (have h9 : _ = false := hif; simp only [h9])); (try simp (maxSteps := 9999999) (disch := omega) only [go_sem, hk, hL, hat, hbe, g1]); (try (refine And.intro ?_ ?_; (focus (first | omega | (simp only [go_sem]; done) | (simp; done) | (simp; omega) | assumption)))); (try (exfalso; omega; done))))))
    (apply Back.to (i + 1) [0, 1]; (focus ((try simp (maxSteps := 9999999) (disch := omega) only [go_sem, hk]); first | done | omega)); rotate_left; (focus (simp (maxSteps := 9999999) (disch := omega) only [go_sem, hk]; (try (repeat' (first | done | trivial | rfl | exact leAs_rfl _ | decide | (refine And.intro ?_ ?_) | (simp; done) | omega | (simp; decide)))))))
    omega
  · obtain rfl : i = l.length := by omega
    have g1 : ((l.length : Int) < (l.length : Int)) = False := eq_false (by omega)
    (try simp (maxSteps := 9999999) (disch := omega) only [go_sem])
    (repeat' (first | refine AWpA.seq ?_ | refine AWpA.block ?_ | (with_reducible refine CondP.tt ?_) | (with_reducible refine CondP.ff ?_) | refine AWpA.condv (by simp (maxSteps := 9999999) (disch := omega) only [go_sem, hk, g1]; rfl) ?_ | ((first | (apply AWpA.region; (focus (simp (maxSteps := 9999999) (disch := omega) only [go_sem, hk, g1]; rfl))) | (apply AWpA.draw [] [] follows; (focus (first | rfl | decide)); (focus (simp (maxSteps := 9999999) (disch := omega) only [go_sem, hk, g1]; rfl)); (focus (simp (maxSteps := 9999999) (disch := omega) only [go_sem, hk, g1]; first | done | trivial)); (focus (simp (maxSteps := 9999999) (disch := omega) only [go_sem, hk, g1]; rfl))) | (apply TailK.go; (focus (simp (maxSteps := 9999999) (disch := omega) only [go_sem, hk, g1]; rfl))) | refine AWpA.skip ?_ | refine AWpA.exit ?_ | refine AWpA.ret ?_ | (with_reducible refine ARoundsA.succ ?_) | ((first | refine Runs.kt (by assumption) (fun h9 => ?_) | refine Runs.kf (by assumption) (fun h9 => ?_) | refine Runs.nt (by assumption) (fun h9 => ?_) | refine Runs.nf (by assumption) (fun h9 => ?_) | refine CondP.ht (by assumption) (fun h9 => ?_) | refine CondP.hf (by assumption) (fun h9 => ?_) | refine CondP.nt (by assumption) (fun h9 => ?_) | refine CondP.nf (by assumption) (fun h9 => ?_)); (try simp only [h9]); clear h9)); (try simp (maxSteps := 9999999) (disch := omega) only [go_sem, hk, g1]); (try (refine And.intro ?_ ?_; (focus (first | omega | (simp only [go_sem]; done) | (simp; done) | (simp; omega) | assumption))))) | ((first | refine CondP.split (fun hif => ?_) (fun hif => ?_) | refine Runs.part (fun hif => ?_) (fun hif => ?_)) <;> ((try simp only [hif]); (try simp only [decide_eq_true_eq, decide_eq_false_iff_not, Bool.not_eq_true, Bool.not_eq_false, Bool.not_eq_true', Bool.not_eq_false', beq_iff_eq, bne_iff_ne, bne_eq_false_iff_eq, beq_eq_false_iff_ne, ne_eq, Bool.and_eq_true, Bool.or_eq_true, Bool.or_eq_false_iff] at hif); (try (have h9 : _ = true := hif; simp only [h9])); (try (have h9 : _ = false := hif; simp only [h9])); (try simp (maxSteps := 9999999) (disch := omega) only [go_sem, hk, g1]); (try (refine And.intro ?_ ?_; (focus (first | omega | (simp only [go_sem]; done) | (simp; done) | (simp; omega) | assumption)))); (try (exfalso; omega; done))))))
    (apply Ret.det [0, 1]; (focus (first | exact .inl rfl | exact .inr rfl)); (focus (simp (maxSteps := 9999999) (disch := omega) only [go_sem, hk]; rfl)); (simp (maxSteps := 9999999) (disch := omega) only [go_sem, hk]; (try (repeat' (first | done | trivial | rfl | exact leAs_rfl _ | decide | (refine And.intro ?_ ?_) | (simp; done) | omega | (simp; decide))))))
theorem same11_any (l : List En) (hl : l.length ≤ 1099511627776) : ACall Try.prog 52 [.sl 0 0 l.length 9 none, .sl 1 0 l.length 9 none] [.cells true (Re 0 l), .cells true (Re 0 l)] (Det (Bo true) [.cells true (Re 0 l), .cells true (Re 0 l)]) := by
  have hr := re_ren
  have hL := re_len 0 l
  refine ACall.startA c52_ok Try.func52 rfl Try.ntmps52 (by kernel_rfl) res52_ok rfl rfl rfl ?_; simp (maxSteps := 9999999) (disch := omega) only [go_sem]
  (repeat' (first | refine AWpA.seq ?_ | refine AWpA.block ?_ | (with_reducible refine CondP.tt ?_) | (with_reducible refine CondP.ff ?_) | refine AWpA.condv (by simp (maxSteps := 9999999) (disch := omega) only [go_sem, hr]; rfl) ?_ | ((first | (apply AWpA.region; (focus (simp (maxSteps := 9999999) (disch := omega) only [go_sem, hr]; rfl))) | (apply AWpA.draw [] [] follows; (focus (first | rfl | decide)); (focus (simp (maxSteps := 9999999) (disch := omega) only [go_sem, hr]; rfl)); (focus (simp (maxSteps := 9999999) (disch := omega) only [go_sem, hr]; first | done | trivial)); (focus (simp (maxSteps := 9999999) (disch := omega) only [go_sem, hr]; rfl))) | (apply TailK.go; (focus (simp (maxSteps := 9999999) (disch := omega) only [go_sem, hr]; rfl))) | refine AWpA.skip ?_ | refine AWpA.exit ?_ | refine AWpA.ret ?_ | (with_reducible refine ARoundsA.succ ?_) | ((first | refine Runs.kt (by assumption) (fun h9 => ?_) | refine Runs.kf (by assumption) (fun h9 => ?_) | refine Runs.nt (by assumption) (fun h9 => ?_) | refine Runs.nf (by assumption) (fun h9 => ?_) | refine CondP.ht (by assumption) (fun h9 => ?_) | refine CondP.hf (by assumption) (fun h9 => ?_) | refine CondP.nt (by assumption) (fun h9 => ?_) | refine CondP.nf (by assumption) (fun h9 => ?_)); (try simp only [h9]); clear h9)); (try simp (maxSteps := 9999999) (disch := omega) only [go_sem, hr]); (try (refine And.intro ?_ ?_; (focus (first | omega | (simp only [go_sem]; done) | (simp; done) | (simp; omega) | assumption))))) | ((first | refine CondP.split (fun hif => ?_) (fun hif => ?_) | refine Runs.part (fun hif => ?_) (fun hif => ?_)) <;> ((try simp only [hif]); (try simp only [decide_eq_true_eq, decide_eq_false_iff_not, Bool.not_eq_true, Bool.not_eq_false, Bool.not_eq_true', Bool.not_eq_false', beq_iff_eq, bne_iff_ne, bne_eq_false_iff_eq, beq_eq_false_iff_ne, ne_eq, Bool.and_eq_true, Bool.or_eq_true, Bool.or_eq_false_iff] at hif); (try (have h9 : _ = true := hif; simp only [h9])); (try (have h9 : _ = false := hif; simp only [h9])); (try simp (maxSteps := 9999999) (disch := omega) only [go_sem, hr]); (try (refine And.intro ?_ ?_; (focus (first | omega | (simp only [go_sem]; done) | (simp; done) | (simp; omega) | assumption)))); (try (exfalso; omega; done))))))
  (apply AWpA.loopL (fun i : Nat => [(0, .sl 0 0 l.length 9 none), (1, .sl 1 0 l.length 9 none), (5, I i)]) (fun i => [.cells true (Re 0 l), .cells true (Re 0 l)]) (fun i => l.length - i) (fun i => i ≤ l.length) (0) [0, 1]; rotate_left; (focus (simp (maxSteps := 9999999) (disch := omega) only [go_sem, hr]; (try (repeat' (first | done | trivial | rfl | exact leAs_rfl _ | decide | (refine And.intro ?_ ?_) | (simp; done) | omega | (simp; decide)))))); rotate_right)
  · exact Nat.zero_le _
  rintro i hi
  (try simp only at hi)
  by_cases hin : i < l.length
  · have g1 : ((i : Int) < (l.length : Int)) = True := eq_true (by omega)
    have hbe : ∀ x : ByteArray, (x == x) = true := fun x => (_root_.Go.MapKept.bytes_beq _ _).2 rfl
    have hat := re_at 0 l i hin
    rw [Nat.zero_add] at hat
    generalize l[i] = x at *
    (try simp (maxSteps := 9999999) (disch := omega) only [go_sem])
    (repeat' (first | refine AWpA.seq ?_ | refine AWpA.block ?_ | (with_reducible refine CondP.tt ?_) | (with_reducible refine CondP.ff ?_) | refine AWpA.condv (by simp (maxSteps := 9999999) (disch := omega) only [go_sem, hr, hL, hat, hbe, g1]; rfl) ?_ | ((first | (apply AWpA.region; (focus (simp (maxSteps := 9999999) (disch := omega) only [go_sem, hr, hL, hat, hbe, g1]; rfl))) | (apply AWpA.draw [] [] follows; (focus (first | rfl | decide)); (focus (simp (maxSteps := 9999999) (disch := omega) only [go_sem, hr, hL, hat, hbe, g1]; rfl)); (focus (simp (maxSteps := 9999999) (disch := omega) only [go_sem, hr, hL, hat, hbe, g1]; first | done | trivial)); (focus (simp (maxSteps := 9999999) (disch := omega) only [go_sem, hr, hL, hat, hbe, g1]; rfl))) | (apply TailK.go; (focus (simp (maxSteps := 9999999) (disch := omega) only [go_sem, hr, hL, hat, hbe, g1]; rfl))) | refine AWpA.skip ?_ | refine AWpA.exit ?_ | refine AWpA.ret ?_ | (with_reducible refine ARoundsA.succ ?_) | ((first | refine Runs.kt (by assumption) (fun h9 => ?_) | refine Runs.kf (by assumption) (fun h9 => ?_) | refine Runs.nt (by assumption) (fun h9 => ?_) | refine Runs.nf (by assumption) (fun h9 => ?_) | refine CondP.ht (by assumption) (fun h9 => ?_) | refine CondP.hf (by assumption) (fun h9 => ?_) | refine CondP.nt (by assumption) (fun h9 => ?_) | refine CondP.nf (by assumption) (fun h9 => ?_)); (try simp only [h9]); clear h9)); (try simp (maxSteps := 9999999) (disch := omega) only [go_sem, hr, hL, hat, hbe, g1]); (try (refine And.intro ?_ ?_; (focus (first | omega | (simp only [go_sem]; done) | (simp; done) | (simp; omega) | assumption))))) | ((first | refine CondP.split (fun hif => ?_) (fun hif => ?_) | refine Runs.part (fun hif => ?_) (fun hif => ?_)) <;> ((try simp only [hif]); (try simp only [decide_eq_true_eq, decide_eq_false_iff_not, Bool.not_eq_true, Bool.not_eq_false, Bool.not_eq_true', Bool.not_eq_false', beq_iff_eq, bne_iff_ne, bne_eq_false_iff_eq, beq_eq_false_iff_ne, ne_eq, Bool.and_eq_true, Bool.or_eq_true, Bool.or_eq_false_iff] at hif); (try (have h9 : _ = true := hif; simp only [h9])); (try (have h9 : _ = false := hif; simp only [h9])); (try simp (maxSteps := 9999999) (disch := omega) only [go_sem, hr, hL, hat, hbe, g1]); (try (refine And.intro ?_ ?_; (focus (first | omega | (simp only [go_sem]; done) | (simp; done) | (simp; omega) | assumption)))); (try (exfalso; omega; done))))))
    (apply Back.to (i + 1) [0, 1]; (focus ((try simp (maxSteps := 9999999) (disch := omega) only [go_sem, hr]); first | done | omega)); rotate_left; (focus (simp (maxSteps := 9999999) (disch := omega) only [go_sem, hr]; (try (repeat' (first | done | trivial | rfl | exact leAs_rfl _ | decide | (refine And.intro ?_ ?_) | (simp; done) | omega | (simp; decide)))))))
    omega
  · obtain rfl : i = l.length := by omega
    have g1 : ((l.length : Int) < (l.length : Int)) = False := eq_false (by omega)
    (try simp (maxSteps := 9999999) (disch := omega) only [go_sem])
    (repeat' (first | refine AWpA.seq ?_ | refine AWpA.block ?_ | (with_reducible refine CondP.tt ?_) | (with_reducible refine CondP.ff ?_) | refine AWpA.condv (by simp (maxSteps := 9999999) (disch := omega) only [go_sem, hr, g1]; rfl) ?_ | ((first | (apply AWpA.region; (focus (simp (maxSteps := 9999999) (disch := omega) only [go_sem, hr, g1]; rfl))) | (apply AWpA.draw [] [] follows; (focus (first | rfl | decide)); (focus (simp (maxSteps := 9999999) (disch := omega) only [go_sem, hr, g1]; rfl)); (focus (simp (maxSteps := 9999999) (disch := omega) only [go_sem, hr, g1]; first | done | trivial)); (focus (simp (maxSteps := 9999999) (disch := omega) only [go_sem, hr, g1]; rfl))) | (apply TailK.go; (focus (simp (maxSteps := 9999999) (disch := omega) only [go_sem, hr, g1]; rfl))) | refine AWpA.skip ?_ | refine AWpA.exit ?_ | refine AWpA.ret ?_ | (with_reducible refine ARoundsA.succ ?_) | ((first | refine Runs.kt (by assumption) (fun h9 => ?_) | refine Runs.kf (by assumption) (fun h9 => ?_) | refine Runs.nt (by assumption) (fun h9 => ?_) | refine Runs.nf (by assumption) (fun h9 => ?_) | refine CondP.ht (by assumption) (fun h9 => ?_) | refine CondP.hf (by assumption) (fun h9 => ?_) | refine CondP.nt (by assumption) (fun h9 => ?_) | refine CondP.nf (by assumption) (fun h9 => ?_)); (try simp only [h9]); clear h9)); (try simp (maxSteps := 9999999) (disch := omega) only [go_sem, hr, g1]); (try (refine And.intro ?_ ?_; (focus (first | omega | (simp only [go_sem]; done) | (simp; done) | (simp; omega) | assumption))))) | ((first | refine CondP.split (fun hif => ?_) (fun hif => ?_) | refine Runs.part (fun hif => ?_) (fun hif => ?_)) <;> ((try simp only [hif]); (try simp only [decide_eq_true_eq, decide_eq_false_iff_not, Bool.not_eq_true, Bool.not_eq_false, Bool.not_eq_true', Bool.not_eq_false', beq_iff_eq, bne_iff_ne, bne_eq_false_iff_eq, beq_eq_false_iff_ne, ne_eq, Bool.and_eq_true, Bool.or_eq_true, Bool.or_eq_false_iff] at hif); (try (have h9 : _ = true := hif; simp only [h9])); (try (have h9 : _ = false := hif; simp only [h9])); (try simp (maxSteps := 9999999) (disch := omega) only [go_sem, hr, g1]); (try (refine And.intro ?_ ?_; (focus (first | omega | (simp only [go_sem]; done) | (simp; done) | (simp; omega) | assumption)))); (try (exfalso; omega; done))))))
    (apply Ret.det [0, 1]; (focus (first | exact .inl rfl | exact .inr rfl)); (focus (simp (maxSteps := 9999999) (disch := omega) only [go_sem, hr]; rfl)); (simp (maxSteps := 9999999) (disch := omega) only [go_sem, hr]; (try (repeat' (first | done | trivial | rfl | exact leAs_rfl _ | decide | (refine And.intro ?_ ?_) | (simp; done) | omega | (simp; decide))))))
theorem rnew11_ok (site t2 : Int) (h1 : 0 ≤ site ∧ site < 12) (h2 : 0 ≤ t2 ∧ t2 ≤ 2147483647) : ACall Try.prog 45 [I site, I t2] [] (Det (.tup [.agg [I site, I t2, .val (.slice none 0 0)], I 0]) []) := by
  have c := site_any site
  have hs : siteB site = true := by simp [siteB, h1.1, h1.2]
  rw [hs] at c
  have g3 : (t2 < 0) = False := eq_false (by omega)
  have g4 : (2147483647 < t2) = False := eq_false (by omega)
  refine ACall.startA c45_ok Try.func45 rfl Try.ntmps45 (by kernel_rfl) res45_ok rfl rfl rfl ?_; simp (maxSteps := 9999999) (disch := omega) only [go_sem]
  (repeat' (first | refine AWpA.seq ?_ | refine AWpA.block ?_ | (with_reducible refine CondP.tt ?_) | (with_reducible refine CondP.ff ?_) | refine AWpA.condv (by simp (maxSteps := 9999999) (disch := omega) only [go_sem, g3, g4]; rfl) ?_ | ((first | (apply AWpA.region; (focus (simp (maxSteps := 9999999) (disch := omega) only [go_sem, g3, g4]; rfl))) | (apply AWpA.draw [] [] follows; (focus (first | rfl | decide)); (focus (simp (maxSteps := 9999999) (disch := omega) only [go_sem, g3, g4]; rfl)); (focus (simp (maxSteps := 9999999) (disch := omega) only [go_sem, g3, g4]; first | done | trivial)); (focus (simp (maxSteps := 9999999) (disch := omega) only [go_sem, g3, g4]; rfl))) | (apply TailK.go; (focus (simp (maxSteps := 9999999) (disch := omega) only [go_sem, g3, g4]; rfl))) | refine AWpA.skip ?_ | refine AWpA.exit ?_ | refine AWpA.ret ?_ | (with_reducible refine ARoundsA.succ ?_) | ((first | refine Runs.kt (by assumption) (fun h9 => ?_) | refine Runs.kf (by assumption) (fun h9 => ?_) | refine Runs.nt (by assumption) (fun h9 => ?_) | refine Runs.nf (by assumption) (fun h9 => ?_) | refine CondP.ht (by assumption) (fun h9 => ?_) | refine CondP.hf (by assumption) (fun h9 => ?_) | refine CondP.nt (by assumption) (fun h9 => ?_) | refine CondP.nf (by assumption) (fun h9 => ?_)); (try simp only [h9]); clear h9) | ((first | (with_reducible apply CallG.plain1 [] (c)) | (with_reducible apply CallG.draw1 [] (c))); (focus ((try refine And.intro (leAs_of_eq rfl) ?_); (try refine And.intro (leOL_of_eq rfl) ?_); simp (maxSteps := 9999999) (disch := omega) only [go_sem, g3, g4]; first | done | (repeat' (first | rfl | (refine And.intro ?_ ?_))))); (focus (simp (maxSteps := 9999999) (disch := omega) only [go_sem, g3, g4]; rfl)))); (try simp (maxSteps := 9999999) (disch := omega) only [go_sem, g3, g4]); (try (refine And.intro ?_ ?_; (focus (first | omega | (simp only [go_sem]; done) | (simp; done) | (simp; omega) | assumption))))) | ((first | refine CondP.split (fun hif => ?_) (fun hif => ?_) | refine Runs.part (fun hif => ?_) (fun hif => ?_)) <;> ((try simp only [hif]); (try simp only [decide_eq_true_eq, decide_eq_false_iff_not, Bool.not_eq_true, Bool.not_eq_false, Bool.not_eq_true', Bool.not_eq_false', beq_iff_eq, bne_iff_ne, bne_eq_false_iff_eq, beq_eq_false_iff_ne, ne_eq, Bool.and_eq_true, Bool.or_eq_true, Bool.or_eq_false_iff] at hif); (try (have h9 : _ = true := hif; simp only [h9])); (try (have h9 : _ = false := hif; simp only [h9])); (try simp (maxSteps := 9999999) (disch := omega) only [go_sem, g3, g4]); (try (refine And.intro ?_ ?_; (focus (first | omega | (simp only [go_sem]; done) | (simp; done) | (simp; omega) | assumption)))); (try (exfalso; omega; done))))))
  (apply Ret.det []; (focus (first | exact .inl rfl | exact .inr rfl)); (focus (simp (maxSteps := 9999999) (disch := omega) only [go_sem]; rfl)); (simp (maxSteps := 9999999) (disch := omega) only [go_sem]; (try (repeat' (first | done | trivial | rfl | exact leAs_rfl _ | decide | (refine And.intro ?_ ?_) | (simp; done) | omega | (simp; decide))))))
theorem rnew11_bad (site t2 : Int) (h1 : site < 0 ∨ 12 ≤ site) : ACall Try.prog 45 [I site, I t2] [] (Det (.tup [.agg [I 0, I 0, .val (.slice none 0 0)], I 1]) []) := by
  have c := site_any site
  have hs : siteB site = false := by simp [siteB]; omega
  rw [hs] at c
  refine ACall.startA c45_ok Try.func45 rfl Try.ntmps45 (by kernel_rfl) res45_ok rfl rfl rfl ?_; simp (maxSteps := 9999999) (disch := omega) only [go_sem]
  (repeat' (first | refine AWpA.seq ?_ | refine AWpA.block ?_ | (with_reducible refine CondP.tt ?_) | (with_reducible refine CondP.ff ?_) | refine AWpA.condv (by simp (maxSteps := 9999999) (disch := omega) only [go_sem]; rfl) ?_ | ((first | (apply AWpA.region; (focus (simp (maxSteps := 9999999) (disch := omega) only [go_sem]; rfl))) | (apply AWpA.draw [] [] follows; (focus (first | rfl | decide)); (focus (simp (maxSteps := 9999999) (disch := omega) only [go_sem]; rfl)); (focus (simp (maxSteps := 9999999) (disch := omega) only [go_sem]; first | done | trivial)); (focus (simp (maxSteps := 9999999) (disch := omega) only [go_sem]; rfl))) | (apply TailK.go; (focus (simp (maxSteps := 9999999) (disch := omega) only [go_sem]; rfl))) | refine AWpA.skip ?_ | refine AWpA.exit ?_ | refine AWpA.ret ?_ | (with_reducible refine ARoundsA.succ ?_) | ((first | refine Runs.kt (by assumption) (fun h9 => ?_) | refine Runs.kf (by assumption) (fun h9 => ?_) | refine Runs.nt (by assumption) (fun h9 => ?_) | refine Runs.nf (by assumption) (fun h9 => ?_) | refine CondP.ht (by assumption) (fun h9 => ?_) | refine CondP.hf (by assumption) (fun h9 => ?_) | refine CondP.nt (by assumption) (fun h9 => ?_) | refine CondP.nf (by assumption) (fun h9 => ?_)); (try simp only [h9]); clear h9) | ((first | (with_reducible apply CallG.plain1 [] (c)) | (with_reducible apply CallG.draw1 [] (c))); (focus ((try refine And.intro (leAs_of_eq rfl) ?_); (try refine And.intro (leOL_of_eq rfl) ?_); simp (maxSteps := 9999999) (disch := omega) only [go_sem]; first | done | (repeat' (first | rfl | (refine And.intro ?_ ?_))))); (focus (simp (maxSteps := 9999999) (disch := omega) only [go_sem]; rfl)))); (try simp (maxSteps := 9999999) (disch := omega) only [go_sem]); (try (refine And.intro ?_ ?_; (focus (first | omega | (simp only [go_sem]; done) | (simp; done) | (simp; omega) | assumption))))) | ((first | refine CondP.split (fun hif => ?_) (fun hif => ?_) | refine Runs.part (fun hif => ?_) (fun hif => ?_)) <;> ((try simp only [hif]); (try simp only [decide_eq_true_eq, decide_eq_false_iff_not, Bool.not_eq_true, Bool.not_eq_false, Bool.not_eq_true', Bool.not_eq_false', beq_iff_eq, bne_iff_ne, bne_eq_false_iff_eq, beq_eq_false_iff_ne, ne_eq, Bool.and_eq_true, Bool.or_eq_true, Bool.or_eq_false_iff] at hif); (try (have h9 : _ = true := hif; simp only [h9])); (try (have h9 : _ = false := hif; simp only [h9])); (try simp (maxSteps := 9999999) (disch := omega) only [go_sem]); (try (refine And.intro ?_ ?_; (focus (first | omega | (simp only [go_sem]; done) | (simp; done) | (simp; omega) | assumption)))); (try (exfalso; omega; done))))))
  (apply Ret.det []; (focus (first | exact .inl rfl | exact .inr rfl)); (focus (simp (maxSteps := 9999999) (disch := omega) only [go_sem]; rfl)); (simp (maxSteps := 9999999) (disch := omega) only [go_sem]; (try (repeat' (first | done | trivial | rfl | exact leAs_rfl _ | decide | (refine And.intro ?_ ?_) | (simp; done) | omega | (simp; decide))))))
theorem rnew11_bad2 (site t2 : Int) (h1 : 0 ≤ site ∧ site < 12) (h2 : t2 < 0 ∨ 2147483647 < t2) : ACall Try.prog 45 [I site, I t2] [] (Det (.tup [.agg [I 0, I 0, .val (.slice none 0 0)], I 2]) []) := by
  have c := site_any site
  have hs : siteB site = true := by simp [siteB, h1.1, h1.2]
  rw [hs] at c
  by_cases h : t2 < 0
  · have g3 : (t2 < 0) = True := eq_true h
    refine ACall.startA c45_ok Try.func45 rfl Try.ntmps45 (by kernel_rfl) res45_ok rfl rfl rfl ?_; simp (maxSteps := 9999999) (disch := omega) only [go_sem]
    (repeat' (first | refine AWpA.seq ?_ | refine AWpA.block ?_ | (with_reducible refine CondP.tt ?_) | (with_reducible refine CondP.ff ?_) | refine AWpA.condv (by simp (maxSteps := 9999999) (disch := omega) only [go_sem, g3]; rfl) ?_ | ((first | (apply AWpA.region; (focus (simp (maxSteps := 9999999) (disch := omega) only [go_sem, g3]; rfl))) | (apply AWpA.draw [] [] follows; (focus (first | rfl | decide)); (focus (simp (maxSteps := 9999999) (disch := omega) only [go_sem, g3]; rfl)); (focus (simp (maxSteps := 9999999) (disch := omega) only [go_sem, g3]; first | done | trivial)); (focus (simp (maxSteps := 9999999) (disch := omega) only [go_sem, g3]; rfl))) | (apply TailK.go; (focus (simp (maxSteps := 9999999) (disch := omega) only [go_sem, g3]; rfl))) | refine AWpA.skip ?_ | refine AWpA.exit ?_ | refine AWpA.ret ?_ | (with_reducible refine ARoundsA.succ ?_) | ((first | refine Runs.kt (by assumption) (fun h9 => ?_) | refine Runs.kf (by assumption) (fun h9 => ?_) | refine Runs.nt (by assumption) (fun h9 => ?_) | refine Runs.nf (by assumption) (fun h9 => ?_) | refine CondP.ht (by assumption) (fun h9 => ?_) | refine CondP.hf (by assumption) (fun h9 => ?_) | refine CondP.nt (by assumption) (fun h9 => ?_) | refine CondP.nf (by assumption) (fun h9 => ?_)); (try simp only [h9]); clear h9) | ((first | (with_reducible apply CallG.plain1 [] (c)) | (with_reducible apply CallG.draw1 [] (c))); (focus ((try refine And.intro (leAs_of_eq rfl) ?_); (try refine And.intro (leOL_of_eq rfl) ?_); simp (maxSteps := 9999999) (disch := omega) only [go_sem, g3]; first | done | (repeat' (first | rfl | (refine And.intro ?_ ?_))))); (focus (simp (maxSteps := 9999999) (disch := omega) only [go_sem, g3]; rfl)))); (try simp (maxSteps := 9999999) (disch := omega) only [go_sem, g3]); (try (refine And.intro ?_ ?_; (focus (first | omega | (simp only [go_sem]; done) | (simp; done) | (simp; omega) | assumption))))) | ((first | refine CondP.split (fun hif => ?_) (fun hif => ?_) | refine Runs.part (fun hif => ?_) (fun hif => ?_)) <;> ((try simp only [hif]); (try simp only [decide_eq_true_eq, decide_eq_false_iff_not, Bool.not_eq_true, Bool.not_eq_false, Bool.not_eq_true', Bool.not_eq_false', beq_iff_eq, bne_iff_ne, bne_eq_false_iff_eq, beq_eq_false_iff_ne, ne_eq, Bool.and_eq_true, Bool.or_eq_true, Bool.or_eq_false_iff] at hif); (try (have h9 : _ = true := hif; simp only [h9])); (try (have h9 : _ = false := hif; simp only [h9])); (try simp (maxSteps := 9999999) (disch := omega) only [go_sem, g3]); (try (refine And.intro ?_ ?_; (focus (first | omega | (simp only [go_sem]; done) | (simp; done) | (simp; omega) | assumption)))); (try (exfalso; omega; done))))))
    (apply Ret.det []; (focus (first | exact .inl rfl | exact .inr rfl)); (focus (simp (maxSteps := 9999999) (disch := omega) only [go_sem]; rfl)); (simp (maxSteps := 9999999) (disch := omega) only [go_sem]; (try (repeat' (first | done | trivial | rfl | exact leAs_rfl _ | decide | (refine And.intro ?_ ?_) | (simp; done) | omega | (simp; decide))))))
  · have g3 : (t2 < 0) = False := eq_false h
    have g4 : (2147483647 < t2) = True := eq_true (by omega)
    refine ACall.startA c45_ok Try.func45 rfl Try.ntmps45 (by kernel_rfl) res45_ok rfl rfl rfl ?_; simp (maxSteps := 9999999) (disch := omega) only [go_sem]
    (repeat' (first | refine AWpA.seq ?_ | refine AWpA.block ?_ | (with_reducible refine CondP.tt ?_) | (with_reducible refine CondP.ff ?_) | refine AWpA.condv (by simp (maxSteps := 9999999) (disch := omega) only [go_sem, g3, g4]; rfl) ?_ | ((first | (apply AWpA.region; (focus (simp (maxSteps := 9999999) (disch := omega) only [go_sem, g3, g4]; rfl))) | (apply AWpA.draw [] [] follows; (focus (first | rfl | decide)); (focus (simp (maxSteps := 9999999) (disch := omega) only [go_sem, g3, g4]; rfl)); (focus (simp (maxSteps := 9999999) (disch := omega) only [go_sem, g3, g4]; first | done | trivial)); (focus (simp (maxSteps := 9999999) (disch := omega) only [go_sem, g3, g4]; rfl))) | (apply TailK.go; (focus (simp (maxSteps := 9999999) (disch := omega) only [go_sem, g3, g4]; rfl))) | refine AWpA.skip ?_ | refine AWpA.exit ?_ | refine AWpA.ret ?_ | (with_reducible refine ARoundsA.succ ?_) | ((first | refine Runs.kt (by assumption) (fun h9 => ?_) | refine Runs.kf (by assumption) (fun h9 => ?_) | refine Runs.nt (by assumption) (fun h9 => ?_) | refine Runs.nf (by assumption) (fun h9 => ?_) | refine CondP.ht (by assumption) (fun h9 => ?_) | refine CondP.hf (by assumption) (fun h9 => ?_) | refine CondP.nt (by assumption) (fun h9 => ?_) | refine CondP.nf (by assumption) (fun h9 => ?_)); (try simp only [h9]); clear h9) | ((first | (with_reducible apply CallG.plain1 [] (c)) | (with_reducible apply CallG.draw1 [] (c))); (focus ((try refine And.intro (leAs_of_eq rfl) ?_); (try refine And.intro (leOL_of_eq rfl) ?_); simp (maxSteps := 9999999) (disch := omega) only [go_sem, g3, g4]; first | done | (repeat' (first | rfl | (refine And.intro ?_ ?_))))); (focus (simp (maxSteps := 9999999) (disch := omega) only [go_sem, g3, g4]; rfl)))); (try simp (maxSteps := 9999999) (disch := omega) only [go_sem, g3, g4]); (try (refine And.intro ?_ ?_; (focus (first | omega | (simp only [go_sem]; done) | (simp; done) | (simp; omega) | assumption))))) | ((first | refine CondP.split (fun hif => ?_) (fun hif => ?_) | refine Runs.part (fun hif => ?_) (fun hif => ?_)) <;> ((try simp only [hif]); (try simp only [decide_eq_true_eq, decide_eq_false_iff_not, Bool.not_eq_true, Bool.not_eq_false, Bool.not_eq_true', Bool.not_eq_false', beq_iff_eq, bne_iff_ne, bne_eq_false_iff_eq, beq_eq_false_iff_ne, ne_eq, Bool.and_eq_true, Bool.or_eq_true, Bool.or_eq_false_iff] at hif); (try (have h9 : _ = true := hif; simp only [h9])); (try (have h9 : _ = false := hif; simp only [h9])); (try simp (maxSteps := 9999999) (disch := omega) only [go_sem, g3, g4]); (try (refine And.intro ?_ ?_; (focus (first | omega | (simp only [go_sem]; done) | (simp; done) | (simp; omega) | assumption)))); (try (exfalso; omega; done))))))
    (apply Ret.det []; (focus (first | exact .inl rfl | exact .inr rfl)); (focus (simp (maxSteps := 9999999) (disch := omega) only [go_sem]; rfl)); (simp (maxSteps := 9999999) (disch := omega) only [go_sem]; (try (repeat' (first | done | trivial | rfl | exact leAs_rfl _ | decide | (refine And.intro ?_ ?_) | (simp; done) | omega | (simp; decide))))))
end Go.Proofs.Ytgjimlgofakbpaa
