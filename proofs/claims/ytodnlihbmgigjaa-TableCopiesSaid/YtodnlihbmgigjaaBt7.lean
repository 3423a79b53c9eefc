/- Contracts: a table is what the document says; what is done with both. -/
import Derived.Test.YtodnlihbmgigjaaBt6
namespace Go.Proofs.Ytodnlihbmgigjaa
set_option linter.unusedSimpArgs false
set_option linter.unusedVariables false
set_option maxHeartbeats 4000000
open Go Go.Am Go.RowKit
set_option maxRecDepth 100000
/- quidnunc/table.New[int] -/
noncomputable def c14_1 : ACode := .region false [⟨some 2, .move, [.c (.val (.pointer none))], none⟩,
  ⟨some 3, .move, [.c (.val (.int .i64 0))], none⟩] [] [] [0] false [] []
noncomputable def c14_4 : ACode := .region false [⟨some 4, .move, [.t 0], none⟩,
  ⟨some 5, .bin .lss, [.t 4, .c (.val (.int .i64 1))], none⟩,
  ⟨some 6, .move, [.t 5], none⟩,
  ⟨some 7, .move, [.t 0], some (some 6, false)⟩,
  ⟨some 8, .bin .gtr, [.t 7, .c (.val (.int .i64 4096))], some (some 6, false)⟩,
  ⟨some 9, .pick, [.t 6, .c (.val (.bool true)), .t 8], none⟩] [] [] [0, 9] false [] []
noncomputable def c14_7 : ACode := .region false [⟨some 2, .move, [.c (.val (.pointer none))], none⟩,
  ⟨some 3, .move, [.c (.val (.int .i64 1))], none⟩] [] [] [2, 3] false [] []
noncomputable def c14_6 : ACode := .seq c14_7 .ret
noncomputable def c14_5 : ACode := .cond (.t 9) c14_6 .skip
noncomputable def c14_3 : ACode := .seq c14_4 c14_5
noncomputable def c14_9 : ACode := .region false [⟨some 10, .move, [.t 0], none⟩,
  ⟨some 11, .build [(.int .i64 0), (.slice none 0 0)] [(0, 1)], [.t 10], none⟩,
  ⟨some 12, .box 0, [.t 11], none⟩,
  ⟨some 2, .move, [.t 12], none⟩,
  ⟨some 3, .move, [.c (.val (.int .i64 0))], none⟩] [] [] [2, 3] true [] []
noncomputable def c14_8 : ACode := .seq c14_9 .ret
noncomputable def c14_2 : ACode := .seq c14_3 c14_8
noncomputable def c14_0 : ACode := .seq c14_1 c14_2
noncomputable def code14 : Code := (Try.f14.body).getD .skip
theorem c14_ok : compC Try.prog 13 code14 = some (strip c14_0) := by kernel_rfl
theorem res14_ok : Try.f14.results.toList.mapM (resC Try.prog) = some [(2, none), (3, none)] := by kernel_rfl
/- quidnunc/quidnunclaw08.is -/
noncomputable def c22_1 : ACode := .region false [⟨some 3, .box 0, [.t 1], none⟩,
  ⟨some 4, .move, [.c (.val (.bool false))], none⟩] [] [] [0, 3] true [] []
noncomputable def c22_3 : ACode := .region false [⟨some 8, .move, [.t 0], none⟩,
  ⟨some 9, .addr 1, [.t 3], none⟩,
  ⟨some 10, .load false 1, [.t 9], none⟩,
  ⟨some 11, .len, [.t 10], none⟩,
  ⟨some 12, .bin .add, [.t 11, .c (.val (.int .i64 1))], none⟩,
  ⟨some 13, .call 16, [.t 8, .c (.val (.string ⟨#[]⟩)), .t 12], none⟩,
  ⟨some 5, .move, [.t 13], none⟩] [] [] [0, 3, 5] true [] []
noncomputable def c22_6 : ACode := .region true [⟨some 14, .move, [.t 5], none⟩,
  ⟨some 15, .len, [.t 14], none⟩,
  ⟨some 16, .addr 1, [.t 3], none⟩,
  ⟨some 17, .load false 1, [.t 16], none⟩,
  ⟨some 18, .len, [.t 17], none⟩,
  ⟨some 19, .bin .neq, [.t 15, .t 18], none⟩,
  ⟨some 20, .move, [.t 19], none⟩,
  ⟨some 21, .move, [.t 0], some (some 20, false)⟩,
  ⟨some 22, .call 39, [.t 21], some (some 20, false)⟩,
  ⟨some 23, .addr 1, [.t 3], some (some 20, false)⟩,
  ⟨some 24, .load false 1, [.t 23], some (some 20, false)⟩,
  ⟨some 25, .len, [.t 24], some (some 20, false)⟩,
  ⟨some 26, .bin .neq, [.t 22, .t 25], some (some 20, false)⟩,
  ⟨some 27, .pick, [.t 20, .c (.val (.bool true)), .t 26], none⟩,
  ⟨some 28, .move, [.t 27], none⟩,
  ⟨some 29, .move, [.t 0], some (some 28, false)⟩,
  ⟨some 30, .call 40, [.t 29], some (some 28, false)⟩,
  ⟨some 31, .addr 0, [.t 3], some (some 28, false)⟩,
  ⟨some 32, .load false 1, [.t 31], some (some 28, false)⟩,
  ⟨some 33, .bin .neq, [.t 30, .t 32], some (some 28, false)⟩,
  ⟨some 34, .pick, [.t 28, .c (.val (.bool true)), .t 33], none⟩] [] [] [3, 5, 34] true [] []
noncomputable def c22_9 : ACode := .region false [⟨some 4, .move, [.c (.val (.bool false))], none⟩] [] [] [4] false [] []
noncomputable def c22_8 : ACode := .seq c22_9 .ret
noncomputable def c22_7 : ACode := .cond (.t 34) c22_8 .skip
noncomputable def c22_5 : ACode := .seq c22_6 c22_7
noncomputable def c22_12 : ACode := .region false [⟨some 35, .addr 1, [.t 3], none⟩,
  ⟨some 36, .load false 1, [.t 35], none⟩,
  ⟨some 37, .len, [.t 36], none⟩,
  ⟨some 38, .move, [.c (.val (.int .i64 0))], none⟩] [] [] [5, 36, 37, 38] false [] []
noncomputable def c22_16 : ACode := .region false [⟨some 39, .bin .lss, [.t 38, .t 37], none⟩] [] [] [5, 36, 37, 38, 39] false [] []
noncomputable def c22_18 : ACode := .cond (.t 39) .skip (.exit 0)
noncomputable def c22_22 : ACode := .region false [⟨some 40, .move, [.t 38], none⟩,
  ⟨some 41, .ixS 2, [.t 36, .t 38], none⟩,
  ⟨some 42, .load true 2, [.t 41], none⟩,
  ⟨some 7, .alloc [(.string ⟨#[]⟩), (.int .i64 0)], [], none⟩,
  ⟨some 6, .move, [.t 40], none⟩,
  ⟨none, .store 2, [.t 7, .t 42], none⟩] [] [] [5, 6, 7, 36, 37, 38] true [] []
noncomputable def c22_24 : ACode := .region true [⟨some 43, .move, [.t 5], none⟩,
  ⟨some 44, .move, [.t 6], none⟩,
  ⟨some 45, .ixS 2, [.t 43, .t 44], none⟩,
  ⟨some 46, .addr 0, [.t 45], none⟩,
  ⟨some 47, .load false 1, [.t 46], none⟩,
  ⟨some 48, .addr 0, [.t 7], none⟩,
  ⟨some 49, .load false 1, [.t 48], none⟩,
  ⟨some 50, .bin .neq, [.t 47, .t 49], none⟩,
  ⟨some 51, .move, [.t 50], none⟩,
  ⟨some 52, .move, [.t 5], some (some 51, false)⟩,
  ⟨some 53, .move, [.t 6], some (some 51, false)⟩,
  ⟨some 54, .ixS 2, [.t 52, .t 53], some (some 51, false)⟩,
  ⟨some 55, .addr 1, [.t 54], some (some 51, false)⟩,
  ⟨some 56, .load false 1, [.t 55], some (some 51, false)⟩,
  ⟨some 57, .addr 1, [.t 7], some (some 51, false)⟩,
  ⟨some 58, .load false 1, [.t 57], some (some 51, false)⟩,
  ⟨some 59, .bin .neq, [.t 56, .t 58], some (some 51, false)⟩,
  ⟨some 60, .pick, [.t 51, .c (.val (.bool true)), .t 59], none⟩] [] [] [5, 36, 37, 38, 60] false [] []
noncomputable def c22_27 : ACode := .region false [⟨some 4, .move, [.c (.val (.bool false))], none⟩] [] [] [4] false [] []
noncomputable def c22_26 : ACode := .seq c22_27 .ret
noncomputable def c22_25 : ACode := .cond (.t 60) c22_26 .skip
noncomputable def c22_23 : ACode := .seq c22_24 c22_25
noncomputable def c22_21 : ACode := .seq c22_22 c22_23
noncomputable def c22_20 : ACode := .block 1 c22_21
noncomputable def c22_28 : ACode := .region false [⟨some 61, .bin .add, [.t 38, .c (.val (.int .i64 1))], none⟩,
  ⟨some 38, .move, [.t 61], none⟩] [] [] [5, 36, 37, 38] false [] []
noncomputable def c22_19 : ACode := .seq c22_20 c22_28
noncomputable def c22_17 : ACode := .seq c22_18 c22_19
noncomputable def c22_15 : ACode := .seq c22_16 c22_17
noncomputable def c22_14 : ACode := .loop c22_15
noncomputable def c22_13 : ACode := .block 0 c22_14
noncomputable def c22_11 : ACode := .seq c22_12 c22_13
noncomputable def c22_30 : ACode := .region false [⟨some 4, .move, [.c (.val (.bool true))], none⟩] [] [] [4] false [] []
noncomputable def c22_29 : ACode := .seq c22_30 .ret
noncomputable def c22_10 : ACode := .seq c22_11 c22_29
noncomputable def c22_4 : ACode := .seq c22_5 c22_10
noncomputable def c22_2 : ACode := .seq c22_3 c22_4
noncomputable def c22_0 : ACode := .seq c22_1 c22_2
noncomputable def code22 : Code := (Try.f22.body).getD .skip
theorem c22_ok : compC Try.prog 62 code22 = some (strip c22_0) := by kernel_rfl
theorem res22_ok : Try.f22.results.toList.mapM (resC Try.prog) = some [(4, none)] := by kernel_rfl
/- quidnunc/quidnunclaw08.do -/
noncomputable def c21_1 : ACode := .region false [⟨some 4, .box 0, [.t 1], none⟩,
  ⟨some 5, .box 0, [.t 2], none⟩,
  ⟨some 6, .alloc [(.int .i64 0), (.slice none 0 0)], [], none⟩,
  ⟨some 7, .move, [.c (.val (.bool false))], none⟩] [] [] [0, 4, 5, 6] true [] []
noncomputable def c21_4 : ACode := .region false [⟨some 12, .addr 0, [.t 5], none⟩,
  ⟨some 13, .load false 1, [.t 12], none⟩] [] [] [0, 4, 5, 6, 13] false [] []
noncomputable def c21_7 : ACode := .region false [⟨some 15, .bin .eql, [.t 13, .c (.val (.int .i64 0))], none⟩,
  ⟨some 14, .move, [.t 15], none⟩] [] [] [0, 4, 5, 6, 13, 14] false [] []
noncomputable def c21_10 : ACode := .region false [⟨some 17, .load true 2, [.t 4], none⟩,
  ⟨some 18, .addr 2, [.t 5], none⟩,
  ⟨some 19, .load false 1, [.t 18], none⟩,
  ⟨some 20, .addr 1, [.t 5], none⟩,
  ⟨some 21, .load false 1, [.t 20], none⟩,
  ⟨some 22, .call 37, [.t 17, .t 19, .t 21], none⟩,
  ⟨some 16, .move, [.t 22], none⟩,
  ⟨some 23, .ext 0, [.t 16], none⟩,
  ⟨some 24, .ext 1, [.t 16], none⟩,
  ⟨some 8, .alloc [(.int .i64 0), (.slice none 0 0)], [], none⟩,
  ⟨none, .store 2, [.t 8, .t 23], none⟩,
  ⟨some 9, .move, [.t 24], none⟩] [] [] [0, 5, 6, 8, 9] true [] []
noncomputable def c21_12 : ACode := .region true [⟨some 25, .load true 2, [.t 8], none⟩,
  ⟨some 26, .move, [.t 0], none⟩,
  ⟨some 27, .addr 2, [.t 5], none⟩,
  ⟨some 28, .load false 1, [.t 27], none⟩,
  ⟨some 29, .addr 1, [.t 5], none⟩,
  ⟨some 30, .load false 1, [.t 29], none⟩,
  ⟨some 31, .call 15, [.t 26, .t 28, .t 30], none⟩,
  ⟨some 32, .move, [.t 9], none⟩,
  ⟨some 33, .bin .eql, [.t 31, .t 32], none⟩,
  ⟨none, .store 2, [.t 6, .t 25], none⟩,
  ⟨some 7, .move, [.t 33], none⟩] [] [] [6, 7] true [6] []
noncomputable def c21_11 : ACode := .seq c21_12 .ret
noncomputable def c21_9 : ACode := .seq c21_10 c21_11
noncomputable def c21_14 : ACode := .region false [⟨some 35, .bin .eql, [.t 13, .c (.val (.int .i64 1))], none⟩,
  ⟨some 34, .move, [.t 35], none⟩] [] [] [0, 4, 5, 6, 34] false [] []
noncomputable def c21_17 : ACode := .region false [⟨some 37, .load true 2, [.t 4], none⟩,
  ⟨some 38, .addr 2, [.t 5], none⟩,
  ⟨some 39, .load false 1, [.t 38], none⟩,
  ⟨some 40, .call 38, [.t 37, .t 39], none⟩,
  ⟨some 36, .move, [.t 40], none⟩,
  ⟨some 41, .ext 0, [.t 36], none⟩,
  ⟨some 42, .ext 1, [.t 36], none⟩,
  ⟨some 10, .alloc [(.int .i64 0), (.slice none 0 0)], [], none⟩,
  ⟨none, .store 2, [.t 10, .t 41], none⟩,
  ⟨some 11, .move, [.t 42], none⟩] [] [] [0, 5, 6, 10, 11] true [] []
noncomputable def c21_19 : ACode := .region true [⟨some 43, .load true 2, [.t 10], none⟩,
  ⟨some 44, .move, [.t 0], none⟩,
  ⟨some 45, .addr 2, [.t 5], none⟩,
  ⟨some 46, .load false 1, [.t 45], none⟩,
  ⟨some 47, .call 18, [.t 44, .t 46], none⟩,
  ⟨some 48, .move, [.t 11], none⟩,
  ⟨some 49, .eqB false, [.t 47, .t 48], none⟩,
  ⟨none, .store 2, [.t 6, .t 43], none⟩,
  ⟨some 7, .move, [.t 49], none⟩] [] [] [6, 7] true [6] []
noncomputable def c21_18 : ACode := .seq c21_19 .ret
noncomputable def c21_16 : ACode := .seq c21_17 c21_18
noncomputable def c21_15 : ACode := .cond (.t 34) c21_16 .skip
noncomputable def c21_13 : ACode := .seq c21_14 c21_15
noncomputable def c21_8 : ACode := .cond (.t 14) c21_9 c21_13
noncomputable def c21_6 : ACode := .seq c21_7 c21_8
noncomputable def c21_5 : ACode := .block 0 c21_6
noncomputable def c21_3 : ACode := .seq c21_4 c21_5
noncomputable def c21_21 : ACode := .region false [⟨some 50, .load true 2, [.t 4], none⟩,
  ⟨none, .store 2, [.t 6, .t 50], none⟩,
  ⟨some 7, .move, [.c (.val (.bool true))], none⟩] [] [] [6, 7] true [] []
noncomputable def c21_20 : ACode := .seq c21_21 .ret
noncomputable def c21_2 : ACode := .seq c21_3 c21_20
noncomputable def c21_0 : ACode := .seq c21_1 c21_2
noncomputable def code21 : Code := (Try.f21.body).getD .skip
theorem c21_ok : compC Try.prog 51 code21 = some (strip c21_0) := by kernel_rfl
theorem res21_ok : Try.f21.results.toList.mapM (resC Try.prog) = some [(6, some (true, 2)), (7, none)] := by kernel_rfl
theorem tnew_bad (r : Int) (h : r < 1 ∨ 4096 < r) : ACall Try.prog 14 [I r] [] (Det (.tup [.val (.pointer none), I 1]) []) := by
  by_cases h1 : r < 1
  · have g1 : (r < 1) = True := eq_true h1
    refine ACall.startA c14_ok Try.func14 rfl Try.ntmps14 (by kernel_rfl) res14_ok rfl rfl rfl ?_; simp (maxSteps := 9999999) (disch := omega) only [go_sem]
    (have k9 := And.intro @g1 (k0); (repeat' (first | refine AWpA.seq ?_ | refine AWpA.block ?_ | (with_reducible refine CondP.tt ?_) | (with_reducible refine CondP.ff ?_) | refine AWpA.cg ?_ | ((first | refine AWpA.rg ?_ | refine AWpA.dg [] [] follows ?_ | refine TailK.tg ?_ | refine AWpA.skip ?_ | refine AWpA.exit ?_ | refine AWpA.ret ?_ | (with_reducible refine ARoundsA.succ ?_) | ((first | refine Runs.gkt (fun h9 => ?_) | refine Runs.gkf (fun h9 => ?_) | refine Runs.gnt (fun h9 => ?_) | refine Runs.gnf (fun h9 => ?_) | refine CondP.gt (fun h9 => ?_) | refine CondP.gf (fun h9 => ?_) | refine CondP.gnt (fun h9 => ?_) | refine CondP.gnf (fun h9 => ?_)); (try simp only [h9]); clear h9)); (try simp (maxSteps := 9999999) (disch := omega) only [go_sem, k9]); (try refine cnd ?_)) | ((first | refine CondP.split (fun hif => ?_) (fun hif => ?_) | refine Runs.part (fun hif => ?_) (fun hif => ?_)) <;> ((try simp only [hif]); (try simp only [BL] at hif); (try (have h9 : _ = true := hif; simp only [h9])); (try (have h9 : _ = false := hif; simp only [h9])); (try simp (maxSteps := 9999999) (disch := omega) only [go_sem, k9]); (try refine cnd ?_); (try (exfalso; omega; done)))))); (all_goals (try clear k9)))
    (apply Ret.det []; (focus (first | exact .inl rfl | exact .inr rfl)); (focus (simp (maxSteps := 9999999) (disch := omega) only [go_sem]; rfl)); (simp (maxSteps := 9999999) (disch := omega) only [go_sem]; (try (repeat' (first | done | trivial | rfl | exact leAs_rfl _ | decide | (refine And.intro ?_ ?_) | (simp; done) | omega | (simp; decide))))))
  · have g1 : (r < 1) = False := eq_false h1
    have g2 : (4096 < r) = True := eq_true (by omega)
    refine ACall.startA c14_ok Try.func14 rfl Try.ntmps14 (by kernel_rfl) res14_ok rfl rfl rfl ?_; simp (maxSteps := 9999999) (disch := omega) only [go_sem]
    (have k9 := And.intro @g1 (And.intro @g2 (k0)); (repeat' (first | refine AWpA.seq ?_ | refine AWpA.block ?_ | (with_reducible refine CondP.tt ?_) | (with_reducible refine CondP.ff ?_) | refine AWpA.cg ?_ | ((first | refine AWpA.rg ?_ | refine AWpA.dg [] [] follows ?_ | refine TailK.tg ?_ | refine AWpA.skip ?_ | refine AWpA.exit ?_ | refine AWpA.ret ?_ | (with_reducible refine ARoundsA.succ ?_) | ((first | refine Runs.gkt (fun h9 => ?_) | refine Runs.gkf (fun h9 => ?_) | refine Runs.gnt (fun h9 => ?_) | refine Runs.gnf (fun h9 => ?_) | refine CondP.gt (fun h9 => ?_) | refine CondP.gf (fun h9 => ?_) | refine CondP.gnt (fun h9 => ?_) | refine CondP.gnf (fun h9 => ?_)); (try simp only [h9]); clear h9)); (try simp (maxSteps := 9999999) (disch := omega) only [go_sem, k9]); (try refine cnd ?_)) | ((first | refine CondP.split (fun hif => ?_) (fun hif => ?_) | refine Runs.part (fun hif => ?_) (fun hif => ?_)) <;> ((try simp only [hif]); (try simp only [BL] at hif); (try (have h9 : _ = true := hif; simp only [h9])); (try (have h9 : _ = false := hif; simp only [h9])); (try simp (maxSteps := 9999999) (disch := omega) only [go_sem, k9]); (try refine cnd ?_); (try (exfalso; omega; done)))))); (all_goals (try clear k9)))
    (apply Ret.det []; (focus (first | exact .inl rfl | exact .inr rfl)); (focus (simp (maxSteps := 9999999) (disch := omega) only [go_sem]; rfl)); (simp (maxSteps := 9999999) (disch := omega) only [go_sem]; (try (repeat' (first | done | trivial | rfl | exact leAs_rfl _ | decide | (refine And.intro ?_ ?_) | (simp; done) | omega | (simp; decide))))))
theorem tnew_ok (r : Int) (h : ¬ (r < 1 ∨ 4096 < r)) : ACall Try.prog 14 [I r] [] (Det (.tup [.ptr 0 0, I 0]) [.cells false [I r, .val (.slice none 0 0)]]) := by
  have g1 : (r < 1) = False := eq_false (by omega)
  have g2 : (4096 < r) = False := eq_false (by omega)
  refine ACall.startA c14_ok Try.func14 rfl Try.ntmps14 (by kernel_rfl) res14_ok rfl rfl rfl ?_; simp (maxSteps := 9999999) (disch := omega) only [go_sem]
  (have k9 := And.intro @g1 (And.intro @g2 (k0)); (repeat' (first | refine AWpA.seq ?_ | refine AWpA.block ?_ | (with_reducible refine CondP.tt ?_) | (with_reducible refine CondP.ff ?_) | refine AWpA.cg ?_ | ((first | refine AWpA.rg ?_ | refine AWpA.dg [] [] follows ?_ | refine TailK.tg ?_ | refine AWpA.skip ?_ | refine AWpA.exit ?_ | refine AWpA.ret ?_ | (with_reducible refine ARoundsA.succ ?_) | ((first | refine Runs.gkt (fun h9 => ?_) | refine Runs.gkf (fun h9 => ?_) | refine Runs.gnt (fun h9 => ?_) | refine Runs.gnf (fun h9 => ?_) | refine CondP.gt (fun h9 => ?_) | refine CondP.gf (fun h9 => ?_) | refine CondP.gnt (fun h9 => ?_) | refine CondP.gnf (fun h9 => ?_)); (try simp only [h9]); clear h9)); (try simp (maxSteps := 9999999) (disch := omega) only [go_sem, k9]); (try refine cnd ?_)) | ((first | refine CondP.split (fun hif => ?_) (fun hif => ?_) | refine Runs.part (fun hif => ?_) (fun hif => ?_)) <;> ((try simp only [hif]); (try simp only [BL] at hif); (try (have h9 : _ = true := hif; simp only [h9])); (try (have h9 : _ = false := hif; simp only [h9])); (try simp (maxSteps := 9999999) (disch := omega) only [go_sem, k9]); (try refine cnd ?_); (try (exfalso; omega; done)))))); (all_goals (try clear k9)))
  (apply Ret.det [_]; (focus (first | exact .inl rfl | exact .inr rfl)); (focus (simp (maxSteps := 9999999) (disch := omega) only [go_sem]; rfl)); (simp (maxSteps := 9999999) (disch := omega) only [go_sem]; (try (repeat' (first | done | trivial | rfl | exact leAs_rfl _ | decide | (refine And.intro ?_ ?_) | (simp; done) | omega | (simp; decide))))))
theorem ltK_nil (a : ByteArray) : ltK a ⟨#[]⟩ = false := by
  unfold ltK
  have : (⟨#[]⟩ : ByteArray).toList = [] := by rw [ByteArray.toList, ByteArray.toList.loop, if_neg (by decide)]; rfl
  rw [this]
  cases a.toList <;> simp [Op.bytesLess]
theorem scan_all (l : List Pi) : scanP l ⟨#[]⟩ ((l.length : Int) + 1) = l := by
  have h : rankP l ⟨#[]⟩ = 0 := by
    cases l with
    | nil => rfl
    | cons p l => simp [rankP, List.takeWhile_cons, ltK_nil]
  unfold scanP
  rw [h]
  simp only [List.drop_zero]
  exact List.take_of_length_le (by omega)
theorem tis_any (t : Tb) (ht : t.ok) : ACall Try.prog 22 [.ptr 0 0, .agg [I t.room, .sl 2 0 t.l.length 2 none]] [TbR 1 t, .cells true (Rp 0 t.l), .cells true (Rp 0 t.l)] (Det (Bo true) [TbR 1 t, .cells true (Rp 0 t.l), .cells true (Rp 0 t.l)]) := by
  have c := tscan_any t ⟨#[]⟩ ((t.l.length : Int) + 1) ht
  rw [scan_all] at c
  have d := tlen_any t
  have e := troom_any t
  have hr := rp_ren 0 t.l
  have hL := rp_len 0 t.l
  have hle := ht.2
  refine ACall.startA c22_ok Try.func22 rfl Try.ntmps22 (by kernel_rfl) res22_ok rfl rfl rfl ?_; simp (maxSteps := 9999999) (disch := omega) only [go_sem]
  (have k9 := And.intro @hr (And.intro @hL (k0)); (repeat' (first | refine AWpA.seq ?_ | refine AWpA.block ?_ | (with_reducible refine CondP.tt ?_) | (with_reducible refine CondP.ff ?_) | refine AWpA.cg ?_ | ((first | refine AWpA.rg ?_ | refine AWpA.dg [] [] follows ?_ | refine TailK.tg ?_ | refine AWpA.skip ?_ | refine AWpA.exit ?_ | refine AWpA.ret ?_ | (with_reducible refine ARoundsA.succ ?_) | ((first | refine Runs.gkt (fun h9 => ?_) | refine Runs.gkf (fun h9 => ?_) | refine Runs.gnt (fun h9 => ?_) | refine Runs.gnf (fun h9 => ?_) | refine CondP.gt (fun h9 => ?_) | refine CondP.gf (fun h9 => ?_) | refine CondP.gnt (fun h9 => ?_) | refine CondP.gnf (fun h9 => ?_)); (try simp only [h9]); clear h9) | refine CallG.pg [0, 1] (c) ?_ | refine CallG.pg [0, 1] (d) ?_ | refine CallG.pg [0, 1] (e) ?_ | refine CallG.dg [0, 1] (c) ?_ | refine CallG.dg [0, 1] (d) ?_ | refine CallG.dg [0, 1] (e) ?_); (try simp (maxSteps := 9999999) (disch := omega) only [go_sem, k9]); (try refine cnd ?_)) | ((first | refine CondP.split (fun hif => ?_) (fun hif => ?_) | refine Runs.part (fun hif => ?_) (fun hif => ?_)) <;> ((try simp only [hif]); (try simp only [BL] at hif); (try (have h9 : _ = true := hif; simp only [h9])); (try (have h9 : _ = false := hif; simp only [h9])); (try simp (maxSteps := 9999999) (disch := omega) only [go_sem, k9]); (try refine cnd ?_); (try (exfalso; omega; done)))))); (all_goals (try clear k9)))
  (apply AWpA.loopL (fun i : Nat => [(5, .sl 3 0 t.l.length 2 none), (36, .sl 2 0 t.l.length 2 none), (37, I t.l.length), (38, I i)]) (fun i => [TbR 1 t, .cells true (Rp 0 t.l), .cells true (Rp 0 t.l), .cells false (Rp 0 t.l)]) (fun i => t.l.length - i) (fun i => i ≤ t.l.length) (0) [0, 1, 2, 115]; rotate_left; (focus (simp (maxSteps := 9999999) (disch := omega) only [go_sem, hr]; (try (repeat' (first | done | trivial | rfl | exact leAs_rfl _ | decide | (refine And.intro ?_ ?_) | (simp; done) | omega | (simp; decide)))))); rotate_right)
  · simp
  rintro i hi
  (try simp only at hi)
  by_cases hil : i < t.l.length
  · have g1 : ((i : Int) < (t.l.length : Int)) = True := eq_true (by omega)
    have hat := rp_at 0 t.l i hil
    rw [Nat.zero_add] at hat
    have hk0 := rp_k t.l i hil
    have hv0 := rp_v t.l i hil
    generalize t.l[i] = x at *
    have hbe : (x.key == x.key) = true := (_root_.Go.MapKept.bytes_beq _ _).2 rfl
    (try simp (maxSteps := 9999999) (disch := omega) only [go_sem])
    (have k9 := And.intro @hr (And.intro @hL (And.intro @g1 (And.intro @hat (And.intro @hk0 (And.intro @hv0 (And.intro @hbe (k0))))))); (repeat' (first | refine AWpA.seq ?_ | refine AWpA.block ?_ | (with_reducible refine CondP.tt ?_) | (with_reducible refine CondP.ff ?_) | refine AWpA.cg ?_ | ((first | refine AWpA.rg ?_ | refine AWpA.dg [] [] follows ?_ | refine TailK.tg ?_ | refine AWpA.skip ?_ | refine AWpA.exit ?_ | refine AWpA.ret ?_ | (with_reducible refine ARoundsA.succ ?_) | ((first | refine Runs.gkt (fun h9 => ?_) | refine Runs.gkf (fun h9 => ?_) | refine Runs.gnt (fun h9 => ?_) | refine Runs.gnf (fun h9 => ?_) | refine CondP.gt (fun h9 => ?_) | refine CondP.gf (fun h9 => ?_) | refine CondP.gnt (fun h9 => ?_) | refine CondP.gnf (fun h9 => ?_)); (try simp only [h9]); clear h9)); (try simp (maxSteps := 9999999) (disch := omega) only [go_sem, k9]); (try refine cnd ?_)) | ((first | refine CondP.split (fun hif => ?_) (fun hif => ?_) | refine Runs.part (fun hif => ?_) (fun hif => ?_)) <;> ((try simp only [hif]); (try simp only [BL] at hif); (try (have h9 : _ = true := hif; simp only [h9])); (try (have h9 : _ = false := hif; simp only [h9])); (try simp (maxSteps := 9999999) (disch := omega) only [go_sem, k9]); (try refine cnd ?_); (try (exfalso; omega; done)))))); (all_goals (try clear k9)))
    (apply Back.to (i + 1) [0, 1, 2, 3]; (focus ((try simp (maxSteps := 9999999) (disch := omega) only [go_sem, hr]); first | done | omega)); rotate_left; (focus (simp (maxSteps := 9999999) (disch := omega) only [go_sem, hr]; (try (repeat' (first | done | trivial | rfl | exact leAs_rfl _ | decide | (refine And.intro ?_ ?_) | (simp; done) | omega | (simp; decide)))))))
    all_goals omega
  · obtain rfl : i = t.l.length := by omega
    have g1 : ((t.l.length : Int) < (t.l.length : Int)) = False := eq_false (by omega)
    (try simp (maxSteps := 9999999) (disch := omega) only [go_sem])
    (have k9 := And.intro @hr (And.intro @hL (And.intro @g1 (k0))); (repeat' (first | refine AWpA.seq ?_ | refine AWpA.block ?_ | (with_reducible refine CondP.tt ?_) | (with_reducible refine CondP.ff ?_) | refine AWpA.cg ?_ | ((first | refine AWpA.rg ?_ | refine AWpA.dg [] [] follows ?_ | refine TailK.tg ?_ | refine AWpA.skip ?_ | refine AWpA.exit ?_ | refine AWpA.ret ?_ | (with_reducible refine ARoundsA.succ ?_) | ((first | refine Runs.gkt (fun h9 => ?_) | refine Runs.gkf (fun h9 => ?_) | refine Runs.gnt (fun h9 => ?_) | refine Runs.gnf (fun h9 => ?_) | refine CondP.gt (fun h9 => ?_) | refine CondP.gf (fun h9 => ?_) | refine CondP.gnt (fun h9 => ?_) | refine CondP.gnf (fun h9 => ?_)); (try simp only [h9]); clear h9)); (try simp (maxSteps := 9999999) (disch := omega) only [go_sem, k9]); (try refine cnd ?_)) | ((first | refine CondP.split (fun hif => ?_) (fun hif => ?_) | refine Runs.part (fun hif => ?_) (fun hif => ?_)) <;> ((try simp only [hif]); (try simp only [BL] at hif); (try (have h9 : _ = true := hif; simp only [h9])); (try (have h9 : _ = false := hif; simp only [h9])); (try simp (maxSteps := 9999999) (disch := omega) only [go_sem, k9]); (try refine cnd ?_); (try (exfalso; omega; done)))))); (all_goals (try clear k9)))
    (apply Ret.det [0, 1, 2]; (focus (first | exact .inl rfl | exact .inr rfl)); (focus (simp (maxSteps := 9999999) (disch := omega) only [go_sem, hr]; rfl)); (simp (maxSteps := 9999999) (disch := omega) only [go_sem, hr]; (try (repeat' (first | done | trivial | rfl | exact leAs_rfl _ | decide | (refine And.intro ?_ ?_) | (simp; done) | omega | (simp; decide))))))
/-- An act. -/
def actT (t : Tb) (kind v : Int) (k : ByteArray) : Tb := if kind = 0 then putT t k v else if kind = 1 then ⟨t.room, dropP t.l k⟩ else t
theorem do_any (t : Tb) (kind v N : Int) (k q : ByteArray) (ht : t.ok) (hroom : (t.l.length : Int) ≤ t.room) : ACall Try.prog 21 [.ptr 0 0, .agg [I t.room, .sl 2 0 t.l.length 2 none], .agg [I kind, I v, .val (.string k), .val (.string q), I N]] [TbO 1 t, .cells false (Rp 0 t.l), .cells false (Rp 0 t.l)]
    (Det (.tup [.agg [I (actT t kind v k).room, .sl 4 0 (actT t kind v k).l.length 2 none], Bo true]) [TbO 3 (actT t kind v k), .gone, .gone, .cells false (Rp 0 (actT t kind v k).l), .cells false (Rp 0 (actT t kind v k).l)]) := by
  have hr := rp_ren 0
  by_cases h0 : kind = 0
  · subst h0
    have e : actT t 0 v k = putT t k v := by unfold actT; simp
    have er : (putT t k v).room = t.room := by unfold putT; split <;> rfl
    have c := rput_any t k v ht hroom
    have d := tput_any t k v ht
    rw [e]
    generalize putT t k v = t' at *
    clear e
    refine ACall.startA c21_ok Try.func21 rfl Try.ntmps21 (by kernel_rfl) res21_ok rfl rfl rfl ?_; simp (maxSteps := 9999999) (disch := omega) only [go_sem]
    (have k9 := And.intro @hr (k0); (repeat' (first | refine AWpA.seq ?_ | refine AWpA.block ?_ | (with_reducible refine CondP.tt ?_) | (with_reducible refine CondP.ff ?_) | refine AWpA.cg ?_ | ((first | refine AWpA.rg ?_ | refine AWpA.dg [0, 1] [] follows ?_ | refine TailK.tg ?_ | refine AWpA.skip ?_ | refine AWpA.exit ?_ | refine AWpA.ret ?_ | (with_reducible refine ARoundsA.succ ?_) | ((first | refine Runs.gkt (fun h9 => ?_) | refine Runs.gkf (fun h9 => ?_) | refine Runs.gnt (fun h9 => ?_) | refine Runs.gnf (fun h9 => ?_) | refine CondP.gt (fun h9 => ?_) | refine CondP.gf (fun h9 => ?_) | refine CondP.gnt (fun h9 => ?_) | refine CondP.gnf (fun h9 => ?_)); (try simp only [h9]); clear h9) | refine CallG.pg [2] (c) ?_ | refine CallG.pg [0, 1] (d) ?_ | refine CallG.dg [2] (c) ?_ | refine CallG.dg [0, 1] (d) ?_); (try simp (maxSteps := 9999999) (disch := omega) only [go_sem, k9]); (try refine cnd ?_)) | ((first | refine CondP.split (fun hif => ?_) (fun hif => ?_) | refine Runs.part (fun hif => ?_) (fun hif => ?_)) <;> ((try simp only [hif]); (try simp only [BL] at hif); (try (have h9 : _ = true := hif; simp only [h9])); (try (have h9 : _ = false := hif; simp only [h9])); (try simp (maxSteps := 9999999) (disch := omega) only [go_sem, k9]); (try refine cnd ?_); (try (exfalso; omega; done)))))); (all_goals (try clear k9)))
    (apply Ret.det [0, 1, 2, 419, 211]; (focus (first | exact .inl rfl | exact .inr rfl)); (focus (simp (maxSteps := 9999999) (disch := omega) only [go_sem, hr, er]; rfl)); (simp (maxSteps := 9999999) (disch := omega) only [go_sem, hr, er]; (try (repeat' (first | done | trivial | rfl | exact leAs_rfl _ | decide | (refine And.intro ?_ ?_) | (simp; done) | omega | (simp; decide))))))
  · have g0 : (kind = 0) = False := eq_false h0
    by_cases h1 : kind = 1
    · subst h1
      have e : actT t 1 v k = ⟨t.room, dropP t.l k⟩ := by unfold actT; simp
      have c := rdrop_any t.room t.l k ht.1 ht.2
      have d := tdrop_any t k ht
      rw [e]
      generalize dropP t.l k = l' at *
      clear e h0 g0
      refine ACall.startA c21_ok Try.func21 rfl Try.ntmps21 (by kernel_rfl) res21_ok rfl rfl rfl ?_; simp (maxSteps := 9999999) (disch := omega) only [go_sem]
      (have k9 := And.intro @hr (k0); (repeat' (first | refine AWpA.seq ?_ | refine AWpA.block ?_ | (with_reducible refine CondP.tt ?_) | (with_reducible refine CondP.ff ?_) | refine AWpA.cg ?_ | ((first | refine AWpA.rg ?_ | refine AWpA.dg [0, 1] [] follows ?_ | refine TailK.tg ?_ | refine AWpA.skip ?_ | refine AWpA.exit ?_ | refine AWpA.ret ?_ | (with_reducible refine ARoundsA.succ ?_) | ((first | refine Runs.gkt (fun h9 => ?_) | refine Runs.gkf (fun h9 => ?_) | refine Runs.gnt (fun h9 => ?_) | refine Runs.gnf (fun h9 => ?_) | refine CondP.gt (fun h9 => ?_) | refine CondP.gf (fun h9 => ?_) | refine CondP.gnt (fun h9 => ?_) | refine CondP.gnf (fun h9 => ?_)); (try simp only [h9]); clear h9) | refine CallG.pg [2] (c) ?_ | refine CallG.pg [0, 1] (d) ?_ | refine CallG.dg [2] (c) ?_ | refine CallG.dg [0, 1] (d) ?_); (try simp (maxSteps := 9999999) (disch := omega) only [go_sem, k9]); (try refine cnd ?_)) | ((first | refine CondP.split (fun hif => ?_) (fun hif => ?_) | refine Runs.part (fun hif => ?_) (fun hif => ?_)) <;> ((try simp only [hif]); (try simp only [BL] at hif); (try (have h9 : _ = true := hif; simp only [h9])); (try (have h9 : _ = false := hif; simp only [h9])); (try simp (maxSteps := 9999999) (disch := omega) only [go_sem, k9]); (try refine cnd ?_); (try (exfalso; omega; done)))))); (all_goals (try clear k9)))
      (apply Ret.det [0, 1, 2, 387, 211]; (focus (first | exact .inl rfl | exact .inr rfl)); (focus (simp (maxSteps := 9999999) (disch := omega) only [go_sem, hr]; rfl)); (simp (maxSteps := 9999999) (disch := omega) only [go_sem, hr]; (try (repeat' (first | done | trivial | rfl | exact leAs_rfl _ | decide | (refine And.intro ?_ ?_) | (simp; done) | omega | (simp; decide))))))
    · have g1 : (kind = 1) = False := eq_false h1
      have e : actT t kind v k = t := by unfold actT; rw [if_neg h0, if_neg h1]
      rw [e]
      clear e
      refine ACall.startA c21_ok Try.func21 rfl Try.ntmps21 (by kernel_rfl) res21_ok rfl rfl rfl ?_; simp (maxSteps := 9999999) (disch := omega) only [go_sem]
      (have k9 := And.intro @hr (And.intro @g0 (And.intro @g1 (k0))); (repeat' (first | refine AWpA.seq ?_ | refine AWpA.block ?_ | (with_reducible refine CondP.tt ?_) | (with_reducible refine CondP.ff ?_) | refine AWpA.cg ?_ | ((first | refine AWpA.rg ?_ | refine AWpA.dg [] [] follows ?_ | refine TailK.tg ?_ | refine AWpA.skip ?_ | refine AWpA.exit ?_ | refine AWpA.ret ?_ | (with_reducible refine ARoundsA.succ ?_) | ((first | refine Runs.gkt (fun h9 => ?_) | refine Runs.gkf (fun h9 => ?_) | refine Runs.gnt (fun h9 => ?_) | refine Runs.gnf (fun h9 => ?_) | refine CondP.gt (fun h9 => ?_) | refine CondP.gf (fun h9 => ?_) | refine CondP.gnt (fun h9 => ?_) | refine CondP.gnf (fun h9 => ?_)); (try simp only [h9]); clear h9)); (try simp (maxSteps := 9999999) (disch := omega) only [go_sem, k9]); (try refine cnd ?_)) | ((first | refine CondP.split (fun hif => ?_) (fun hif => ?_) | refine Runs.part (fun hif => ?_) (fun hif => ?_)) <;> ((try simp only [hif]); (try simp only [BL] at hif); (try (have h9 : _ = true := hif; simp only [h9])); (try (have h9 : _ = false := hif; simp only [h9])); (try simp (maxSteps := 9999999) (disch := omega) only [go_sem, k9]); (try refine cnd ?_); (try (exfalso; omega; done)))))); (all_goals (try clear k9)))
      (apply Ret.det [0, 1, 2, 1, 2]; (focus (first | exact .inl rfl | exact .inr rfl)); (focus (simp (maxSteps := 9999999) (disch := omega) only [go_sem, hr]; rfl)); (simp (maxSteps := 9999999) (disch := omega) only [go_sem, hr]; (try (repeat' (first | done | trivial | rfl | exact leAs_rfl _ | decide | (refine And.intro ?_ ?_) | (simp; done) | omega | (simp; decide))))))
end Go.Proofs.Ytodnlihbmgigjaa
