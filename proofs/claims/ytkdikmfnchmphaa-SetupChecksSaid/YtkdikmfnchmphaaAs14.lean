/- The walk of SetupChecks. -/
import Derived.Test.YtkdikmfnchmphaaAs9
namespace Go.Proofs.Ytkdikmfnchmphaa
set_option linter.unusedSimpArgs false
set_option linter.unusedVariables false
set_option maxHeartbeats 4000000
open Go Go.Am Go.RowKit Go.ChangeShapes Go.WideShapes Go.ChangeAt Go.Setup
set_option linter.unusedSimpArgs false
set_option maxHeartbeats 4000000
set_option maxRecDepth 100000
/- quidnunc/setup.Options -/
noncomputable def c37_1 : ACode := .region false [⟨some 1, .box 0, [.t 0], none⟩,
  ⟨some 2, .alloc [(.int .i64 0), (.int .i64 0), (.int .i64 0), (.int .i64 0), (.int .i64 0)], [], none⟩] [] [] [1, 2] true [] []
noncomputable def c37_3 : ACode := .region false [⟨some 3, .addr 0, [.t 1], none⟩,
  ⟨some 4, .load false 1, [.t 3], none⟩,
  ⟨some 5, .addr 1, [.t 1], none⟩,
  ⟨some 6, .load false 1, [.t 5], none⟩,
  ⟨some 7, .addr 2, [.t 1], none⟩,
  ⟨some 8, .load false 1, [.t 7], none⟩,
  ⟨some 9, .addr 3, [.t 1], none⟩,
  ⟨some 10, .load false 1, [.t 9], none⟩,
  ⟨some 11, .addr 4, [.t 1], none⟩,
  ⟨some 12, .load false 1, [.t 11], none⟩,
  ⟨some 13, .build [(.int .i64 0), (.int .i64 0), (.int .i64 0), (.int .i64 0), (.int .i64 0)] [(0, 1), (1, 1), (2, 1), (3, 1), (4, 1)], [.t 4, .t 6, .t 8, .t 10, .t 12], none⟩,
  ⟨none, .store 5, [.t 2, .t 13], none⟩] [] [] [2] true [] []
noncomputable def c37_2 : ACode := .seq c37_3 .ret
noncomputable def c37_0 : ACode := .seq c37_1 c37_2
noncomputable def code37 : Code := (Try.f37.body).getD .skip
theorem c37_ok : compC Try.prog 14 code37 = some (strip c37_0) := by kernel_rfl
theorem res37_ok : Try.f37.results.toList.mapM (resC Try.prog) = some [(2, some (true, 5))] := by kernel_rfl
/- quidnunc/quidnuncref13.Options -/
noncomputable def c39_1 : ACode := .region false [⟨some 1, .box 0, [.t 0], none⟩,
  ⟨some 2, .alloc [(.int .i64 0), (.int .i64 0), (.int .i64 0), (.int .i64 0), (.int .i64 0)], [], none⟩] [] [] [1, 2] true [] []
noncomputable def c39_3 : ACode := .region false [⟨some 3, .ixA 20 1, [.t 1, .c (.val (.int .i64 0))], none⟩,
  ⟨some 4, .load false 1, [.t 3], none⟩,
  ⟨some 5, .ixA 20 1, [.t 1, .c (.val (.int .i64 1))], none⟩,
  ⟨some 6, .load false 1, [.t 5], none⟩,
  ⟨some 7, .ixA 20 1, [.t 1, .c (.val (.int .i64 2))], none⟩,
  ⟨some 8, .load false 1, [.t 7], none⟩,
  ⟨some 9, .ixA 20 1, [.t 1, .c (.val (.int .i64 3))], none⟩,
  ⟨some 10, .load false 1, [.t 9], none⟩,
  ⟨some 11, .ixA 20 1, [.t 1, .c (.val (.int .i64 4))], none⟩,
  ⟨some 12, .load false 1, [.t 11], none⟩,
  ⟨some 13, .build [(.int .i64 0), (.int .i64 0), (.int .i64 0), (.int .i64 0), (.int .i64 0)] [(0, 1), (1, 1), (2, 1), (3, 1), (4, 1)], [.t 4, .t 6, .t 8, .t 10, .t 12], none⟩,
  ⟨none, .store 5, [.t 2, .t 13], none⟩] [] [] [2] true [] []
noncomputable def c39_2 : ACode := .seq c39_3 .ret
noncomputable def c39_0 : ACode := .seq c39_1 c39_2
noncomputable def code39 : Code := (Try.f39.body).getD .skip
theorem c39_ok : compC Try.prog 14 code39 = some (strip c39_0) := by kernel_rfl
theorem res39_ok : Try.f39.results.toList.mapM (resC Try.prog) = some [(2, some (true, 5))] := by kernel_rfl
/- quidnunc/quidnunclaw12.Of -/
noncomputable def c38_1 : ACode := .region false [⟨some 1, .box 0, [.t 0], none⟩,
  ⟨some 2, .alloc [(.int .i64 0), (.int .i64 0), (.int .i64 0), (.int .i64 0), (.int .i64 0)], [], none⟩] [] [] [1, 2] true [] []
noncomputable def c38_3 : ACode := .region false [⟨some 3, .addr 0, [.t 1], none⟩,
  ⟨some 4, .load false 1, [.t 3], none⟩,
  ⟨some 5, .addr 1, [.t 1], none⟩,
  ⟨some 6, .load false 1, [.t 5], none⟩,
  ⟨some 7, .addr 2, [.t 1], none⟩,
  ⟨some 8, .load false 1, [.t 7], none⟩,
  ⟨some 9, .addr 3, [.t 1], none⟩,
  ⟨some 10, .load false 1, [.t 9], none⟩,
  ⟨some 11, .addr 4, [.t 1], none⟩,
  ⟨some 12, .load false 1, [.t 11], none⟩,
  ⟨some 13, .build [(.int .i64 0), (.int .i64 0), (.int .i64 0), (.int .i64 0), (.int .i64 0)] [(0, 1), (1, 1), (2, 1), (3, 1), (4, 1)], [.t 4, .t 6, .t 8, .t 10, .t 12], none⟩,
  ⟨none, .store 5, [.t 2, .t 13], none⟩] [] [] [2] true [] []
noncomputable def c38_2 : ACode := .seq c38_3 .ret
noncomputable def c38_0 : ACode := .seq c38_1 c38_2
noncomputable def code38 : Code := (Try.f38.body).getD .skip
theorem c38_ok : compC Try.prog 14 code38 = some (strip c38_0) := by kernel_rfl
theorem res38_ok : Try.f38.results.toList.mapM (resC Try.prog) = some [(2, some (true, 5))] := by kernel_rfl
/- quidnunc/quidnunclaw13.SetupChecks -/
noncomputable def c8_1 : ACode := .region false [⟨some 1, .box 0, [.t 0], none⟩,
  ⟨some 2, .move, [.c (.val (.bool false))], none⟩] [] [] [1] true [] []
noncomputable def c8_4 : ACode := .region false [⟨some 16, .call 28, [], none⟩,
  ⟨some 17, .un .not, [.t 16], none⟩] [] [] [1, 17] true [] []
noncomputable def c8_7 : ACode := .region false [⟨some 2, .move, [.c (.val (.bool false))], none⟩] [] [] [2] false [] []
noncomputable def c8_6 : ACode := .seq c8_7 .ret
noncomputable def c8_5 : ACode := .cond (.t 17) c8_6 .skip
noncomputable def c8_3 : ACode := .seq c8_4 c8_5
noncomputable def c8_9 : ACode := .region false [⟨some 18, .load true 20, [.t 1], none⟩,
  ⟨some 19, .call 30, [.t 18], none⟩,
  ⟨some 3, .alloc (List.replicate 20 (.int .i64 0)), [], none⟩,
  ⟨none, .store 20, [.t 3, .t 19], none⟩] [] [] [1, 3] true [] []
noncomputable def c8_11 : ACode := .region false [⟨some 21, .load true 20, [.t 3], none⟩,
  ⟨some 22, .call 34, [.t 21], none⟩,
  ⟨some 20, .move, [.t 22], none⟩,
  ⟨some 23, .ext 0, [.t 20], none⟩,
  ⟨some 24, .ext 1, [.t 20], none⟩,
  ⟨some 4, .move, [.t 23], none⟩,
  ⟨some 5, .move, [.t 24], none⟩] [] [] [1, 3, 4, 5] true [] []
noncomputable def c8_13 : ACode := .region false [⟨some 26, .load true 20, [.t 1], none⟩,
  ⟨some 27, .call 36, [.t 26], none⟩,
  ⟨some 25, .move, [.t 27], none⟩,
  ⟨some 28, .ext 0, [.t 25], none⟩,
  ⟨some 29, .ext 1, [.t 25], none⟩,
  ⟨some 6, .move, [.t 28], none⟩,
  ⟨some 7, .move, [.t 29], none⟩] [] [] [1, 3, 4, 5, 6, 7] true [] []
noncomputable def c8_16 : ACode := .region true [⟨some 30, .move, [.t 4], none⟩,
  ⟨some 31, .move, [.t 6], none⟩,
  ⟨some 32, .bin .neq, [.t 30, .t 31], none⟩,
  ⟨some 33, .move, [.t 32], none⟩,
  ⟨some 34, .move, [.t 5], some (some 33, false)⟩,
  ⟨some 35, .move, [.t 7], some (some 33, false)⟩,
  ⟨some 36, .bin .neq, [.t 34, .t 35], some (some 33, false)⟩,
  ⟨some 37, .pick, [.t 33, .c (.val (.bool true)), .t 36], none⟩,
  ⟨some 38, .move, [.t 37], none⟩,
  ⟨some 39, .load true 20, [.t 3], some (some 38, false)⟩,
  ⟨some 40, .call 33, [.t 39], some (some 38, false)⟩,
  ⟨some 41, .load true 20, [.t 1], some (some 38, false)⟩,
  ⟨some 42, .eqA true [(0, 0), (1, 0), (2, 0), (3, 0), (4, 0), (5, 0), (6, 0), (7, 0), (8, 0), (9, 0), (10, 0), (11, 0), (12, 0), (13, 0), (14, 0), (15, 0), (16, 0), (17, 0), (18, 0), (19, 0)], [.t 40, .t 41], some (some 38, false)⟩,
  ⟨some 43, .pick, [.t 38, .c (.val (.bool true)), .t 42], none⟩,
  ⟨some 44, .move, [.t 43], none⟩,
  ⟨some 45, .load true 20, [.t 1], some (some 44, false)⟩,
  ⟨some 46, .call 35, [.t 45], some (some 44, false)⟩,
  ⟨some 47, .load true 20, [.t 3], some (some 44, false)⟩,
  ⟨some 48, .eqA true [(0, 0), (1, 0), (2, 0), (3, 0), (4, 0), (5, 0), (6, 0), (7, 0), (8, 0), (9, 0), (10, 0), (11, 0), (12, 0), (13, 0), (14, 0), (15, 0), (16, 0), (17, 0), (18, 0), (19, 0)], [.t 46, .t 47], some (some 44, false)⟩,
  ⟨some 49, .pick, [.t 44, .c (.val (.bool true)), .t 48], none⟩,
  ⟨some 50, .move, [.t 49], none⟩,
  ⟨some 51, .load true 20, [.t 3], some (some 50, false)⟩,
  ⟨some 52, .call 37, [.t 51], some (some 50, false)⟩,
  ⟨some 53, .load true 20, [.t 1], some (some 50, false)⟩,
  ⟨some 54, .call 39, [.t 53], some (some 50, false)⟩,
  ⟨some 55, .call 38, [.t 54], some (some 50, false)⟩,
  ⟨some 56, .eqA true [(0, 0), (1, 0), (2, 0), (3, 0), (4, 0)], [.t 52, .t 55], some (some 50, false)⟩,
  ⟨some 57, .pick, [.t 50, .c (.val (.bool true)), .t 56], none⟩] [] [] [1, 3, 57] true [] []
noncomputable def c8_19 : ACode := .region false [⟨some 2, .move, [.c (.val (.bool false))], none⟩] [] [] [2] false [] []
noncomputable def c8_18 : ACode := .seq c8_19 .ret
noncomputable def c8_17 : ACode := .cond (.t 57) c8_18 .skip
noncomputable def c8_15 : ACode := .seq c8_16 c8_17
noncomputable def c8_21 : ACode := .region false [⟨some 59, .load true 20, [.t 3], none⟩,
  ⟨some 60, .call 31, [.t 59], none⟩,
  ⟨some 58, .move, [.t 60], none⟩,
  ⟨some 61, .ext 0, [.t 58], none⟩,
  ⟨some 62, .ext 1, [.t 58], none⟩,
  ⟨some 8, .move, [.t 61], none⟩,
  ⟨some 9, .move, [.t 62], none⟩] [] [] [1, 3, 8, 9] true [] []
noncomputable def c8_23 : ACode := .region false [⟨some 64, .load true 20, [.t 1], none⟩,
  ⟨some 65, .call 40, [.t 64], none⟩,
  ⟨some 63, .move, [.t 65], none⟩,
  ⟨some 66, .ext 0, [.t 63], none⟩,
  ⟨some 67, .ext 1, [.t 63], none⟩,
  ⟨some 10, .move, [.t 66], none⟩,
  ⟨some 11, .move, [.t 67], none⟩] [] [] [1, 3, 8, 9, 10, 11] true [] []
noncomputable def c8_25 : ACode := .region false [⟨some 69, .load true 20, [.t 3], none⟩,
  ⟨some 70, .call 41, [.t 69], none⟩,
  ⟨some 68, .move, [.t 70], none⟩,
  ⟨some 71, .ext 0, [.t 68], none⟩,
  ⟨some 72, .ext 1, [.t 68], none⟩,
  ⟨some 12, .move, [.t 71], none⟩,
  ⟨some 13, .move, [.t 72], none⟩] [] [] [1, 3, 8, 9, 10, 11, 12, 13] true [] []
noncomputable def c8_27 : ACode := .region false [⟨some 74, .load true 20, [.t 1], none⟩,
  ⟨some 75, .call 42, [.t 74], none⟩,
  ⟨some 73, .move, [.t 75], none⟩,
  ⟨some 76, .ext 0, [.t 73], none⟩,
  ⟨some 77, .ext 1, [.t 73], none⟩,
  ⟨some 14, .move, [.t 76], none⟩,
  ⟨some 15, .move, [.t 77], none⟩] [] [] [1, 3, 8, 9, 10, 11, 12, 13, 14, 15] true [] []
noncomputable def c8_29 : ACode := .region true [⟨some 78, .load true 20, [.t 3], none⟩,
  ⟨some 79, .call 43, [.t 78], none⟩,
  ⟨some 80, .load true 20, [.t 1], none⟩,
  ⟨some 81, .call 44, [.t 80], none⟩,
  ⟨some 82, .eqB false, [.t 79, .t 81], none⟩,
  ⟨some 83, .move, [.t 82], none⟩,
  ⟨some 84, .load true 20, [.t 3], some (some 83, true)⟩,
  ⟨some 85, .call 32, [.t 84], some (some 83, true)⟩,
  ⟨some 86, .load true 20, [.t 1], some (some 83, true)⟩,
  ⟨some 87, .call 45, [.t 86], some (some 83, true)⟩,
  ⟨some 88, .bin .eql, [.t 85, .t 87], some (some 83, true)⟩,
  ⟨some 89, .pick, [.t 83, .t 88, .c (.val (.bool false))], none⟩,
  ⟨some 90, .move, [.t 89], none⟩,
  ⟨some 91, .move, [.t 8], some (some 90, true)⟩,
  ⟨some 92, .move, [.t 10], some (some 90, true)⟩,
  ⟨some 93, .bin .eql, [.t 91, .t 92], some (some 90, true)⟩,
  ⟨some 94, .pick, [.t 90, .t 93, .c (.val (.bool false))], none⟩,
  ⟨some 95, .move, [.t 94], none⟩,
  ⟨some 96, .move, [.t 9], some (some 95, true)⟩,
  ⟨some 97, .move, [.t 11], some (some 95, true)⟩,
  ⟨some 98, .eqB false, [.t 96, .t 97], some (some 95, true)⟩,
  ⟨some 99, .pick, [.t 95, .t 98, .c (.val (.bool false))], none⟩,
  ⟨some 100, .move, [.t 99], none⟩,
  ⟨some 101, .move, [.t 12], some (some 100, true)⟩,
  ⟨some 102, .move, [.t 14], some (some 100, true)⟩,
  ⟨some 103, .bin .eql, [.t 101, .t 102], some (some 100, true)⟩,
  ⟨some 104, .pick, [.t 100, .t 103, .c (.val (.bool false))], none⟩,
  ⟨some 105, .move, [.t 104], none⟩,
  ⟨some 106, .move, [.t 13], some (some 105, true)⟩,
  ⟨some 107, .move, [.t 15], some (some 105, true)⟩,
  ⟨some 108, .eqB false, [.t 106, .t 107], some (some 105, true)⟩,
  ⟨some 109, .pick, [.t 105, .t 108, .c (.val (.bool false))], none⟩,
  ⟨some 2, .move, [.t 109], none⟩] [] [] [2] true [] []
noncomputable def c8_28 : ACode := .seq c8_29 .ret
noncomputable def c8_26 : ACode := .seq c8_27 c8_28
noncomputable def c8_24 : ACode := .seq c8_25 c8_26
noncomputable def c8_22 : ACode := .seq c8_23 c8_24
noncomputable def c8_20 : ACode := .seq c8_21 c8_22
noncomputable def c8_14 : ACode := .seq c8_15 c8_20
noncomputable def c8_12 : ACode := .seq c8_13 c8_14
noncomputable def c8_10 : ACode := .seq c8_11 c8_12
noncomputable def c8_8 : ACode := .seq c8_9 c8_10
noncomputable def c8_2 : ACode := .seq c8_3 c8_8
noncomputable def c8_0 : ACode := .seq c8_1 c8_2
noncomputable def code8 : Code := (Try.f8.body).getD .skip
theorem c8_ok : compC Try.prog 110 code8 = some (strip c8_0) := by kernel_rfl
theorem res8_ok : Try.f8.results.toList.mapM (resC Try.prog) = some [(2, none)] := by kernel_rfl
theorem options_any (l : List Int) (hl : l.length = 20) : ACall Try.prog 37 [.agg (cI l)] [] (Det (.agg [I (l.getD 0 0), I (l.getD 1 0), I (l.getD 2 0), I (l.getD 3 0), I (l.getD 4 0)]) []) := by
  have hc := cI_len l
  refine ACall.startA c37_ok Try.func37 rfl Try.ntmps37 (by kernel_rfl) res37_ok rfl rfl rfl ?_; simp (maxSteps := 9999999) (disch := omega) only [go_sem]
  (repeat' (first | refine AWpA.seq ?_ | refine AWpA.block ?_ | (with_reducible refine CondP.tt ?_) | (with_reducible refine CondP.ff ?_) | refine AWpA.condv (by simp (maxSteps := 9999999) (disch := omega) only [go_sem, cI_ren, hc, hl, cI_get]; rfl) ?_ | ((first | (apply AWpA.region; (focus (simp (maxSteps := 9999999) (disch := omega) only [go_sem, cI_ren, hc, hl, cI_get]; rfl))) | (apply AWpA.draw [] follows; (focus (simp (maxSteps := 9999999) (disch := omega) only [go_sem, cI_ren, hc, hl, cI_get]; rfl)); (focus (simp (maxSteps := 9999999) (disch := omega) only [go_sem, cI_ren, hc, hl, cI_get]; first | done | trivial)); (focus (simp (maxSteps := 9999999) (disch := omega) only [go_sem, cI_ren, hc, hl, cI_get]; rfl))) | (apply TailK.go; (focus (simp (maxSteps := 9999999) (disch := omega) only [go_sem, cI_ren, hc, hl, cI_get]; rfl))) | refine AWpA.skip ?_ | refine AWpA.exit ?_ | refine AWpA.ret ?_ | (with_reducible refine ARoundsA.succ ?_) | ((first | refine Runs.kt (by assumption) (fun h9 => ?_) | refine Runs.kf (by assumption) (fun h9 => ?_) | refine Runs.nt (by assumption) (fun h9 => ?_) | refine Runs.nf (by assumption) (fun h9 => ?_) | refine CondP.ht (by assumption) (fun h9 => ?_) | refine CondP.hf (by assumption) (fun h9 => ?_) | refine CondP.nt (by assumption) (fun h9 => ?_) | refine CondP.nf (by assumption) (fun h9 => ?_)); (try simp only [h9]); clear h9)); (try simp (maxSteps := 9999999) (disch := omega) only [go_sem, cI_ren, hc, hl, cI_get]); (try (refine And.intro ?_ ?_; (focus (first | omega | (simp only [go_sem]; done) | (simp; done) | (simp; omega) | assumption))))) | ((first | refine CondP.split (fun hif => ?_) (fun hif => ?_) | refine Runs.part (fun hif => ?_) (fun hif => ?_)) <;> ((try simp only [hif]); (try simp only [decide_eq_true_eq, decide_eq_false_iff_not, Bool.not_eq_true, Bool.not_eq_false, Bool.not_eq_true', Bool.not_eq_false', beq_iff_eq, bne_iff_ne, bne_eq_false_iff_eq, beq_eq_false_iff_ne, ne_eq, Bool.and_eq_true, Bool.or_eq_true, Bool.or_eq_false_iff] at hif); (try (have h9 : _ = true := hif; simp only [h9])); (try (have h9 : _ = false := hif; simp only [h9])); (try simp (maxSteps := 9999999) (disch := omega) only [go_sem, cI_ren, hc, hl, cI_get]); (try (refine And.intro ?_ ?_; (focus (first | omega | (simp only [go_sem]; done) | (simp; done) | (simp; omega) | assumption)))); (try (exfalso; omega; done))))))
  (apply Ret.det []; (focus (first | exact .inl rfl | exact .inr rfl)); (focus (simp (maxSteps := 9999999) (disch := omega) only [go_sem]; rfl)); (simp (maxSteps := 9999999) (disch := omega) only [go_sem]; (try (repeat' (first | done | trivial | rfl | exact leAs_rfl _ | decide | (refine And.intro ?_ ?_) | (simp; done) | omega | (simp; decide))))))
theorem roptions_any (l : List Int) (hl : l.length = 20) : ACall Try.prog 39 [.agg (cI l)] [] (Det (.agg [I (l.getD 0 0), I (l.getD 1 0), I (l.getD 2 0), I (l.getD 3 0), I (l.getD 4 0)]) []) := by
  have hc := cI_len l
  refine ACall.startA c39_ok Try.func39 rfl Try.ntmps39 (by kernel_rfl) res39_ok rfl rfl rfl ?_; simp (maxSteps := 9999999) (disch := omega) only [go_sem]
  (repeat' (first | refine AWpA.seq ?_ | refine AWpA.block ?_ | (with_reducible refine CondP.tt ?_) | (with_reducible refine CondP.ff ?_) | refine AWpA.condv (by simp (maxSteps := 9999999) (disch := omega) only [go_sem, cI_ren, hc, hl, cI_get]; rfl) ?_ | ((first | (apply AWpA.region; (focus (simp (maxSteps := 9999999) (disch := omega) only [go_sem, cI_ren, hc, hl, cI_get]; rfl))) | (apply AWpA.draw [] follows; (focus (simp (maxSteps := 9999999) (disch := omega) only [go_sem, cI_ren, hc, hl, cI_get]; rfl)); (focus (simp (maxSteps := 9999999) (disch := omega) only [go_sem, cI_ren, hc, hl, cI_get]; first | done | trivial)); (focus (simp (maxSteps := 9999999) (disch := omega) only [go_sem, cI_ren, hc, hl, cI_get]; rfl))) | (apply TailK.go; (focus (simp (maxSteps := 9999999) (disch := omega) only [go_sem, cI_ren, hc, hl, cI_get]; rfl))) | refine AWpA.skip ?_ | refine AWpA.exit ?_ | refine AWpA.ret ?_ | (with_reducible refine ARoundsA.succ ?_) | ((first | refine Runs.kt (by assumption) (fun h9 => ?_) | refine Runs.kf (by assumption) (fun h9 => ?_) | refine Runs.nt (by assumption) (fun h9 => ?_) | refine Runs.nf (by assumption) (fun h9 => ?_) | refine CondP.ht (by assumption) (fun h9 => ?_) | refine CondP.hf (by assumption) (fun h9 => ?_) | refine CondP.nt (by assumption) (fun h9 => ?_) | refine CondP.nf (by assumption) (fun h9 => ?_)); (try simp only [h9]); clear h9)); (try simp (maxSteps := 9999999) (disch := omega) only [go_sem, cI_ren, hc, hl, cI_get]); (try (refine And.intro ?_ ?_; (focus (first | omega | (simp only [go_sem]; done) | (simp; done) | (simp; omega) | assumption))))) | ((first | refine CondP.split (fun hif => ?_) (fun hif => ?_) | refine Runs.part (fun hif => ?_) (fun hif => ?_)) <;> ((try simp only [hif]); (try simp only [decide_eq_true_eq, decide_eq_false_iff_not, Bool.not_eq_true, Bool.not_eq_false, Bool.not_eq_true', Bool.not_eq_false', beq_iff_eq, bne_iff_ne, bne_eq_false_iff_eq, beq_eq_false_iff_ne, ne_eq, Bool.and_eq_true, Bool.or_eq_true, Bool.or_eq_false_iff] at hif); (try (have h9 : _ = true := hif; simp only [h9])); (try (have h9 : _ = false := hif; simp only [h9])); (try simp (maxSteps := 9999999) (disch := omega) only [go_sem, cI_ren, hc, hl, cI_get]); (try (refine And.intro ?_ ?_; (focus (first | omega | (simp only [go_sem]; done) | (simp; done) | (simp; omega) | assumption)))); (try (exfalso; omega; done))))))
  (apply Ret.det []; (focus (first | exact .inl rfl | exact .inr rfl)); (focus (simp (maxSteps := 9999999) (disch := omega) only [go_sem]; rfl)); (simp (maxSteps := 9999999) (disch := omega) only [go_sem]; (try (repeat' (first | done | trivial | rfl | exact leAs_rfl _ | decide | (refine And.intro ?_ ?_) | (simp; done) | omega | (simp; decide))))))
theorem of12_any (a b c d e : Int) : ACall Try.prog 38 [.agg [I a, I b, I c, I d, I e]] [] (Det (.agg [I a, I b, I c, I d, I e]) []) := by
  refine ACall.startA c38_ok Try.func38 rfl Try.ntmps38 (by kernel_rfl) res38_ok rfl rfl rfl ?_; simp (maxSteps := 9999999) (disch := omega) only [go_sem]
  (repeat' (first | refine AWpA.seq ?_ | refine AWpA.block ?_ | (with_reducible refine CondP.tt ?_) | (with_reducible refine CondP.ff ?_) | refine AWpA.condv (by simp (maxSteps := 9999999) (disch := omega) only [go_sem]; rfl) ?_ | ((first | (apply AWpA.region; (focus (simp (maxSteps := 9999999) (disch := omega) only [go_sem]; rfl))) | (apply AWpA.draw [] follows; (focus (simp (maxSteps := 9999999) (disch := omega) only [go_sem]; rfl)); (focus (simp (maxSteps := 9999999) (disch := omega) only [go_sem]; first | done | trivial)); (focus (simp (maxSteps := 9999999) (disch := omega) only [go_sem]; rfl))) | (apply TailK.go; (focus (simp (maxSteps := 9999999) (disch := omega) only [go_sem]; rfl))) | refine AWpA.skip ?_ | refine AWpA.exit ?_ | refine AWpA.ret ?_ | (with_reducible refine ARoundsA.succ ?_) | ((first | refine Runs.kt (by assumption) (fun h9 => ?_) | refine Runs.kf (by assumption) (fun h9 => ?_) | refine Runs.nt (by assumption) (fun h9 => ?_) | refine Runs.nf (by assumption) (fun h9 => ?_) | refine CondP.ht (by assumption) (fun h9 => ?_) | refine CondP.hf (by assumption) (fun h9 => ?_) | refine CondP.nt (by assumption) (fun h9 => ?_) | refine CondP.nf (by assumption) (fun h9 => ?_)); (try simp only [h9]); clear h9)); (try simp (maxSteps := 9999999) (disch := omega) only [go_sem]); (try (refine And.intro ?_ ?_; (focus (first | omega | (simp only [go_sem]; done) | (simp; done) | (simp; omega) | assumption))))) | ((first | refine CondP.split (fun hif => ?_) (fun hif => ?_) | refine Runs.part (fun hif => ?_) (fun hif => ?_)) <;> ((try simp only [hif]); (try simp only [decide_eq_true_eq, decide_eq_false_iff_not, Bool.not_eq_true, Bool.not_eq_false, Bool.not_eq_true', Bool.not_eq_false', beq_iff_eq, bne_iff_ne, bne_eq_false_iff_eq, beq_eq_false_iff_ne, ne_eq, Bool.and_eq_true, Bool.or_eq_true, Bool.or_eq_false_iff] at hif); (try (have h9 : _ = true := hif; simp only [h9])); (try (have h9 : _ = false := hif; simp only [h9])); (try simp (maxSteps := 9999999) (disch := omega) only [go_sem]); (try (refine And.intro ?_ ?_; (focus (first | omega | (simp only [go_sem]; done) | (simp; done) | (simp; omega) | assumption)))); (try (exfalso; omega; done))))))
  (apply Ret.det []; (focus (first | exact .inl rfl | exact .inr rfl)); (focus (simp (maxSteps := 9999999) (disch := omega) only [go_sem]; rfl)); (simp (maxSteps := 9999999) (disch := omega) only [go_sem]; (try (repeat' (first | done | trivial | rfl | exact leAs_rfl _ | decide | (refine And.intro ?_ ?_) | (simp; done) | omega | (simp; decide))))))
theorem checks_walk (W : World) (l : List Int) (hl : l.length = 20 ∧ ∀ a ∈ l, IntKind.i64.min ≤ a ∧ a ≤ IntKind.i64.max) :
    Calls Try.prog 8 #[.agg (l.flatMap fun n : Int => [Value.int .i64 n]).toArray] W fun e W' => e = .returned (.bool true) ∧ Below W.heap.size W W' := by
  obtain ⟨hl, hb⟩ := hl
  have hv := vals_cI l
  have ho := one_cI l
  have hc := cI_len l
  have ht := cI_take hl
  have h1 := check_any l hl
  have h2 := rcheck_any l hl
  have h3 := list_any l hl
  have h4 := of_any l hl
  have h5 := options_any l hl
  have h6 := roptions_any l hl
  have h7 := of12_any (l.getD 0 0) (l.getD 1 0) (l.getD 2 0) (l.getD 3 0) (l.getD 4 0)
  have h8 := bound_any l hl
  have h9 := rbound_any l hl
  have h10 := long_any l hl
  have h11 := rlong_any l hl
  have h12 := roomy_any l hl
  have h13 := rroomy_any l hl
  have h14 := steps_any l hl
  have h15 := rsteps_any l hl
  have h16 := lawof_any l hl
  generalize ck l = c at h1 h2
  generalize boundI l = bi at h8 h9
  generalize boundB l = bb at h8 h9
  generalize longI l = li at h10 h11
  generalize longB l = lb at h10 h11
  generalize roomy l = ry at h12 h13
  generalize steps l = st at h14 h15
  refine top_call c8_ok Try.func8 rfl Try.ntmps8 res8_ok [ .agg (cI l)] (by simp) (by (repeat' (first | exact VRs_nil' _ | exact VR_val' _ _ | (refine VRs_cons' ?_ ?_) | (refine VR_agg' (by first | rfl | assumption) ?_; first | assumption | simp [Value.oneCell'])))) ?_; try simp (maxSteps := 9999999) (disch := omega) only [go_sem]
  (repeat' (first | refine AWpA.seq ?_ | refine AWpA.block ?_ | (with_reducible refine CondP.tt ?_) | (with_reducible refine CondP.ff ?_) | refine AWpA.condv (by simp (maxSteps := 9999999) (disch := omega) only [go_sem, cI_ren, hc, hl, ht, cI_get]; rfl) ?_ | ((first | (apply AWpA.region; (focus (simp (maxSteps := 9999999) (disch := omega) only [go_sem, cI_ren, hc, hl, ht, cI_get]; rfl))) | (apply AWpA.draw [] follows; (focus (simp (maxSteps := 9999999) (disch := omega) only [go_sem, cI_ren, hc, hl, ht, cI_get]; rfl)); (focus (simp (maxSteps := 9999999) (disch := omega) only [go_sem, cI_ren, hc, hl, ht, cI_get]; first | done | trivial)); (focus (simp (maxSteps := 9999999) (disch := omega) only [go_sem, cI_ren, hc, hl, ht, cI_get]; rfl))) | (apply TailK.go; (focus (simp (maxSteps := 9999999) (disch := omega) only [go_sem, cI_ren, hc, hl, ht, cI_get]; rfl))) | refine AWpA.skip ?_ | refine AWpA.exit ?_ | refine AWpA.ret ?_ | (with_reducible refine ARoundsA.succ ?_) | ((first | refine Runs.kt (by assumption) (fun h9 => ?_) | refine Runs.kf (by assumption) (fun h9 => ?_) | refine Runs.nt (by assumption) (fun h9 => ?_) | refine Runs.nf (by assumption) (fun h9 => ?_) | refine CondP.ht (by assumption) (fun h9 => ?_) | refine CondP.hf (by assumption) (fun h9 => ?_) | refine CondP.nt (by assumption) (fun h9 => ?_) | refine CondP.nf (by assumption) (fun h9 => ?_)); (try simp only [h9]); clear h9) | ((first | (with_reducible apply CallG.plain1 [] (speaks13_any)) | (with_reducible apply CallG.plain1 [] (h1)) | (with_reducible apply CallG.plain1 [] (h2)) | (with_reducible apply CallG.plain1 [] (h3)) | (with_reducible apply CallG.plain1 [] (h4)) | (with_reducible apply CallG.plain1 [] (h5)) | (with_reducible apply CallG.plain1 [] (h6)) | (with_reducible apply CallG.plain1 [] (h7)) | (with_reducible apply CallG.plain1 [] (h8)) | (with_reducible apply CallG.plain1 [] (h9)) | (with_reducible apply CallG.plain1 [] (h10)) | (with_reducible apply CallG.plain1 [] (h11)) | (with_reducible apply CallG.plain1 [] (h12)) | (with_reducible apply CallG.plain1 [] (h13)) | (with_reducible apply CallG.plain1 [] (h14)) | (with_reducible apply CallG.plain1 [] (h15)) | (with_reducible apply CallG.plain1 [] (h16)) | (with_reducible apply CallG.draw1 [] (speaks13_any)) | (with_reducible apply CallG.draw1 [] (h1)) | (with_reducible apply CallG.draw1 [] (h2)) | (with_reducible apply CallG.draw1 [] (h3)) | (with_reducible apply CallG.draw1 [] (h4)) | (with_reducible apply CallG.draw1 [] (h5)) | (with_reducible apply CallG.draw1 [] (h6)) | (with_reducible apply CallG.draw1 [] (h7)) | (with_reducible apply CallG.draw1 [] (h8)) | (with_reducible apply CallG.draw1 [] (h9)) | (with_reducible apply CallG.draw1 [] (h10)) | (with_reducible apply CallG.draw1 [] (h11)) | (with_reducible apply CallG.draw1 [] (h12)) | (with_reducible apply CallG.draw1 [] (h13)) | (with_reducible apply CallG.draw1 [] (h14)) | (with_reducible apply CallG.draw1 [] (h15)) | (with_reducible apply CallG.draw1 [] (h16))); (focus ((try refine And.intro (leAs_of_eq rfl) ?_); (try refine And.intro (leOL_of_eq rfl) ?_); simp (maxSteps := 9999999) (disch := omega) only [go_sem, cI_ren, hc, hl, ht, cI_get]; first | done | (repeat' (first | rfl | (refine And.intro ?_ ?_))))); (focus (simp (maxSteps := 9999999) (disch := omega) only [go_sem, cI_ren, hc, hl, ht, cI_get]; rfl)))); (try simp (maxSteps := 9999999) (disch := omega) only [go_sem, cI_ren, hc, hl, ht, cI_get]); (try (refine And.intro ?_ ?_; (focus (first | omega | (simp only [go_sem]; done) | (simp; done) | (simp; omega) | assumption))))) | ((first | refine CondP.split (fun hif => ?_) (fun hif => ?_) | refine Runs.part (fun hif => ?_) (fun hif => ?_)) <;> ((try simp only [hif]); (try simp only [decide_eq_true_eq, decide_eq_false_iff_not, Bool.not_eq_true, Bool.not_eq_false, Bool.not_eq_true', Bool.not_eq_false', beq_iff_eq, bne_iff_ne, bne_eq_false_iff_eq, beq_eq_false_iff_ne, ne_eq, Bool.and_eq_true, Bool.or_eq_true, Bool.or_eq_false_iff] at hif); (try (have h9 : _ = true := hif; simp only [h9])); (try (have h9 : _ = false := hif; simp only [h9])); (try simp (maxSteps := 9999999) (disch := omega) only [go_sem, cI_ren, hc, hl, ht, cI_get]); (try (refine And.intro ?_ ?_; (focus (first | omega | (simp only [go_sem]; done) | (simp; done) | (simp; omega) | assumption)))); (try (exfalso; omega; done))))))
  all_goals (refine TopPost.of (by first | exact .inl rfl | exact .inr rfl) (by (try simp (maxSteps := 9999999) (disch := omega) only [go_sem]); rfl) ?_; (try simp (maxSteps := 9999999) (disch := omega) only [go_sem]); (try (first | trivial | decide | (simp; done))))
end Go.Proofs.Ytkdikmfnchmphaa
