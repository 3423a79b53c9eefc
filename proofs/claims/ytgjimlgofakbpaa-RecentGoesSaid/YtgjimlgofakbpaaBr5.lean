/- Contracts: an index of marks. -/
import Derived.Test.YtgjimlgofakbpaaBr4
namespace Go.Proofs.Ytgjimlgofakbpaa
set_option linter.unusedSimpArgs false
set_option linter.unusedVariables false
set_option maxHeartbeats 4000000
open Go Go.Am Go.RowKit
set_option maxRecDepth 100000
abbrev IxO (i j : Nat) (l : List Mk) : AObj := .cells false [.mp j, .sl i 0 l.length 3 none]
abbrev IxR (i j : Nat) (l : List Mk) : AObj := .cells true [.mp j, .sl i 0 l.length 3 none]
/- quidnunc/recent.New -/
noncomputable def c16_1 : ACode := .region false [⟨some 0, .move, [.c (.val (.pointer none))], none⟩] [] [] [] false [] []
noncomputable def c16_3 : ACode := .region false [⟨some 1, .makeMap, [], none⟩,
  ⟨some 2, .build [(.map none), (.slice none 0 0)] [(0, 1)], [.t 1], none⟩,
  ⟨some 3, .box 0, [.t 2], none⟩,
  ⟨some 0, .move, [.t 3], none⟩] [] [] [0] true [] []
noncomputable def c16_2 : ACode := .seq c16_3 .ret
noncomputable def c16_0 : ACode := .seq c16_1 c16_2
noncomputable def code16 : Code := (Try.f16.body).getD .skip
theorem c16_ok : compC Try.prog 4 code16 = some (strip c16_0) := by kernel_rfl
theorem res16_ok : Try.f16.results.toList.mapM (resC Try.prog) = some [(0, none)] := by kernel_rfl
/- (*quidnunc/recent.Index).Get -/
noncomputable def c22_1 : ACode := .region false [⟨some 4, .alloc [(.int .i64 0), (.int .i64 0), (.string ⟨#[]⟩)], [], none⟩,
  ⟨some 5, .move, [.c (.val (.bool false))], none⟩] [] [] [0, 1, 4] true [] []
noncomputable def c22_3 : ACode := .region false [⟨some 9, .move, [.t 0], none⟩,
  ⟨some 10, .nilChk, [.t 9], none⟩,
  ⟨some 11, .addr 0, [.t 10], none⟩,
  ⟨some 12, .load false 1, [.t 11], none⟩,
  ⟨some 13, .move, [.t 1], none⟩,
  ⟨some 14, .lookup [(0, 1)] (.agg #[(.int .i64 0), (.int .i64 0)]) true, [.t 12, .t 13], none⟩,
  ⟨some 8, .move, [.t 14], none⟩,
  ⟨some 15, .ext 0, [.t 8], none⟩,
  ⟨some 16, .ext 1, [.t 8], none⟩,
  ⟨some 6, .alloc [(.int .i64 0), (.int .i64 0)], [], none⟩,
  ⟨none, .store 2, [.t 6, .t 15], none⟩,
  ⟨some 7, .move, [.t 16], none⟩] [] [] [1, 4, 6, 7] true [] []
noncomputable def c22_6 : ACode := .region false [⟨some 17, .move, [.t 7], none⟩,
  ⟨some 18, .un .not, [.t 17], none⟩] [] [] [1, 4, 6, 18] false [] []
noncomputable def c22_9 : ACode := .region false [⟨some 19, .build [(.int .i64 0), (.int .i64 0), (.string ⟨#[]⟩)] [], [], none⟩,
  ⟨none, .store 3, [.t 4, .t 19], none⟩,
  ⟨some 5, .move, [.c (.val (.bool false))], none⟩] [] [] [4, 5] true [] []
noncomputable def c22_8 : ACode := .seq c22_9 .ret
noncomputable def c22_7 : ACode := .cond (.t 18) c22_8 .skip
noncomputable def c22_5 : ACode := .seq c22_6 c22_7
noncomputable def c22_11 : ACode := .region false [⟨some 20, .load true 2, [.t 6], none⟩,
  ⟨some 21, .move, [.t 1], none⟩,
  ⟨some 22, .build [(.int .i64 0), (.int .i64 0), (.string ⟨#[]⟩)] [(0, 2), (2, 1)], [.t 20, .t 21], none⟩,
  ⟨none, .store 3, [.t 4, .t 22], none⟩,
  ⟨some 5, .move, [.c (.val (.bool true))], none⟩] [] [] [4, 5] true [] []
noncomputable def c22_10 : ACode := .seq c22_11 .ret
noncomputable def c22_4 : ACode := .seq c22_5 c22_10
noncomputable def c22_2 : ACode := .seq c22_3 c22_4
noncomputable def c22_0 : ACode := .seq c22_1 c22_2
noncomputable def code22 : Code := (Try.f22.body).getD .skip
theorem c22_ok : compC Try.prog 23 code22 = some (strip c22_0) := by kernel_rfl
theorem res22_ok : Try.f22.results.toList.mapM (resC Try.prog) = some [(4, some (true, 3)), (5, none)] := by kernel_rfl
/- (*quidnunc/recent.Index).Len -/
noncomputable def c24_1 : ACode := .region false [⟨some 2, .move, [.c (.val (.int .i64 0))], none⟩] [] [] [0] false [] []
noncomputable def c24_3 : ACode := .region false [⟨some 3, .move, [.t 0], none⟩,
  ⟨some 4, .nilChk, [.t 3], none⟩,
  ⟨some 5, .addr 1, [.t 4], none⟩,
  ⟨some 6, .load false 1, [.t 5], none⟩,
  ⟨some 7, .len, [.t 6], none⟩,
  ⟨some 2, .move, [.t 7], none⟩] [] [] [2] false [] []
noncomputable def c24_2 : ACode := .seq c24_3 .ret
noncomputable def c24_0 : ACode := .seq c24_1 c24_2
noncomputable def code24 : Code := (Try.f24.body).getD .skip
theorem c24_ok : compC Try.prog 8 code24 = some (strip c24_0) := by kernel_rfl
theorem res24_ok : Try.f24.results.toList.mapM (resC Try.prog) = some [(2, none)] := by kernel_rfl
/- (*quidnunc/recent.Index).Below -/
noncomputable def c29_1 : ACode := .region false [⟨some 4, .box 0, [.t 1], none⟩,
  ⟨some 6, .move, [.c (.val (.slice none 0 0))], none⟩] [] [] [0, 2, 4] true [] []
noncomputable def c29_3 : ACode := .region false [⟨some 10, .move, [.t 0], none⟩,
  ⟨some 11, .nilChk, [.t 10], none⟩,
  ⟨some 12, .addr 1, [.t 11], none⟩,
  ⟨some 13, .load false 1, [.t 12], none⟩,
  ⟨some 7, .move, [.t 13], none⟩] [] [] [0, 2, 4, 7] false [] []
noncomputable def c29_6 : ACode := .region false [⟨some 14, .load true 3, [.t 4], none⟩,
  ⟨some 15, .build [(.int .i64 0), (.int .i64 0), (.string ⟨#[]⟩)] [], [], none⟩,
  ⟨some 16, .eqA true [(0, 0), (1, 0), (2, 1)], [.t 14, .t 15], none⟩] [] [] [0, 2, 4, 7, 16] false [] []
noncomputable def c29_9 : ACode := .region false [⟨some 18, .move, [.t 0], none⟩,
  ⟨some 19, .load true 3, [.t 4], none⟩,
  ⟨some 20, .call 57, [.t 18, .t 19], none⟩,
  ⟨some 17, .move, [.t 20], none⟩,
  ⟨some 21, .ext 0, [.t 17], none⟩,
  ⟨some 22, .ext 1, [.t 17], none⟩,
  ⟨some 8, .move, [.t 21], none⟩,
  ⟨some 9, .move, [.t 22], none⟩] [] [] [2, 7, 8, 9] true [] []
noncomputable def c29_12 : ACode := .region false [⟨some 23, .move, [.t 9], none⟩] [] [] [2, 7, 8, 23] false [] []
noncomputable def c29_14 : ACode := .region false [⟨some 24, .move, [.t 8], none⟩,
  ⟨some 25, .bin .add, [.t 24, .c (.val (.int .i64 1))], none⟩,
  ⟨some 8, .move, [.t 25], none⟩] [] [] [2, 7, 8] false [] []
noncomputable def c29_13 : ACode := .cond (.t 23) c29_14 .skip
noncomputable def c29_11 : ACode := .seq c29_12 c29_13
noncomputable def c29_15 : ACode := .region false [⟨some 26, .move, [.t 7], none⟩,
  ⟨some 27, .move, [.t 8], none⟩,
  ⟨some 28, .slS 3 true false false, [.t 26, .t 27], none⟩,
  ⟨some 7, .move, [.t 28], none⟩] [] [] [2, 7] false [] []
noncomputable def c29_10 : ACode := .seq c29_11 c29_15
noncomputable def c29_8 : ACode := .seq c29_9 c29_10
noncomputable def c29_7 : ACode := .cond (.t 16) c29_8 .skip
noncomputable def c29_5 : ACode := .seq c29_6 c29_7
noncomputable def c29_17 : ACode := .region false [⟨some 29, .move, [.t 7], none⟩,
  ⟨some 30, .move, [.t 2], none⟩,
  ⟨some 31, .max, [.t 30, .c (.val (.int .i64 0))], none⟩,
  ⟨some 32, .move, [.t 7], none⟩,
  ⟨some 33, .len, [.t 32], none⟩,
  ⟨some 34, .min, [.t 31, .t 33], none⟩,
  ⟨some 35, .slS 3 false true false, [.t 29, .t 34], none⟩,
  ⟨some 36, .call 61, [.t 35], none⟩,
  ⟨some 6, .move, [.t 36], none⟩] [] [] [6] true [] []
noncomputable def c29_16 : ACode := .seq c29_17 .ret
noncomputable def c29_4 : ACode := .seq c29_5 c29_16
noncomputable def c29_2 : ACode := .seq c29_3 c29_4
noncomputable def c29_0 : ACode := .seq c29_1 c29_2
noncomputable def code29 : Code := (Try.f29.body).getD .skip
theorem c29_ok : compC Try.prog 37 code29 = some (strip c29_0) := by kernel_rfl
theorem res29_ok : Try.f29.results.toList.mapM (resC Try.prog) = some [(6, none)] := by kernel_rfl
/- (*quidnunc/recent.Index).Newest -/
noncomputable def c27_1 : ACode := .region false [⟨some 4, .move, [.c (.val (.slice none 0 0))], none⟩] [] [] [0, 1] false [] []
noncomputable def c27_3 : ACode := .region false [⟨some 5, .move, [.t 0], none⟩,
  ⟨some 6, .build [(.int .i64 0), (.int .i64 0), (.string ⟨#[]⟩)] [], [], none⟩,
  ⟨some 7, .move, [.t 1], none⟩,
  ⟨some 8, .call 29, [.t 5, .t 6, .t 7], none⟩,
  ⟨some 4, .move, [.t 8], none⟩] [] [] [4] true [] []
noncomputable def c27_2 : ACode := .seq c27_3 .ret
noncomputable def c27_0 : ACode := .seq c27_1 c27_2
noncomputable def code27 : Code := (Try.f27.body).getD .skip
theorem c27_ok : compC Try.prog 9 code27 = some (strip c27_0) := by kernel_rfl
theorem res27_ok : Try.f27.results.toList.mapM (resC Try.prog) = some [(4, none)] := by kernel_rfl
/- (*quidnunc/recent.Index).Drop -/
noncomputable def c21_1 : ACode := .region false [⟨some 4, .move, [.c (.val (.bool false))], none⟩] [] [] [0, 1] false [] []
noncomputable def c21_3 : ACode := .region false [⟨some 10, .move, [.t 0], none⟩,
  ⟨some 11, .move, [.t 1], none⟩,
  ⟨some 12, .call 22, [.t 10, .t 11], none⟩,
  ⟨some 9, .move, [.t 12], none⟩,
  ⟨some 13, .ext 0, [.t 9], none⟩,
  ⟨some 14, .ext 1, [.t 9], none⟩,
  ⟨some 5, .alloc [(.int .i64 0), (.int .i64 0), (.string ⟨#[]⟩)], [], none⟩,
  ⟨none, .store 3, [.t 5, .t 13], none⟩,
  ⟨some 6, .move, [.t 14], none⟩] [] [] [0, 1, 5, 6] true [] []
noncomputable def c21_6 : ACode := .region false [⟨some 15, .move, [.t 6], none⟩,
  ⟨some 16, .un .not, [.t 15], none⟩] [] [] [0, 1, 5, 16] false [] []
noncomputable def c21_9 : ACode := .region false [⟨some 4, .move, [.c (.val (.bool false))], none⟩] [] [] [4] false [] []
noncomputable def c21_8 : ACode := .seq c21_9 .ret
noncomputable def c21_7 : ACode := .cond (.t 16) c21_8 .skip
noncomputable def c21_5 : ACode := .seq c21_6 c21_7
noncomputable def c21_11 : ACode := .region false [⟨some 18, .move, [.t 0], none⟩,
  ⟨some 19, .load true 3, [.t 5], none⟩,
  ⟨some 20, .call 57, [.t 18, .t 19], none⟩,
  ⟨some 17, .move, [.t 20], none⟩,
  ⟨some 21, .ext 0, [.t 17], none⟩,
  ⟨some 22, .ext 1, [.t 17], none⟩,
  ⟨some 7, .move, [.t 21], none⟩,
  ⟨some 8, .move, [.t 22], none⟩] [] [] [0, 1, 7] true [] []
noncomputable def c21_13 : ACode := .region false [⟨some 23, .move, [.t 0], none⟩,
  ⟨some 24, .move, [.t 0], none⟩,
  ⟨some 25, .nilChk, [.t 24], none⟩,
  ⟨some 26, .addr 1, [.t 25], none⟩,
  ⟨some 27, .load false 1, [.t 26], none⟩,
  ⟨some 28, .move, [.t 7], none⟩,
  ⟨some 29, .move, [.t 7], none⟩,
  ⟨some 30, .bin .add, [.t 29, .c (.val (.int .i64 1))], none⟩,
  ⟨some 31, .call 59, [.t 27, .t 28, .t 30], none⟩,
  ⟨some 32, .nilChk, [.t 23], none⟩,
  ⟨some 33, .addr 1, [.t 32], none⟩,
  ⟨none, .store 1, [.t 33, .t 31], none⟩] [] [] [0, 1] true [] []
noncomputable def c21_15 : ACode := .region false [⟨some 34, .move, [.t 0], none⟩,
  ⟨some 35, .nilChk, [.t 34], none⟩,
  ⟨some 36, .addr 0, [.t 35], none⟩,
  ⟨some 37, .load false 1, [.t 36], none⟩,
  ⟨some 38, .move, [.t 1], none⟩,
  ⟨none, .delete [(0, 1)], [.t 37, .t 38], none⟩] [] [] [] true [] []
noncomputable def c21_17 : ACode := .region false [⟨some 4, .move, [.c (.val (.bool true))], none⟩] [] [] [4] false [] []
noncomputable def c21_16 : ACode := .seq c21_17 .ret
noncomputable def c21_14 : ACode := .seq c21_15 c21_16
noncomputable def c21_12 : ACode := .seq c21_13 c21_14
noncomputable def c21_10 : ACode := .seq c21_11 c21_12
noncomputable def c21_4 : ACode := .seq c21_5 c21_10
noncomputable def c21_2 : ACode := .seq c21_3 c21_4
noncomputable def c21_0 : ACode := .seq c21_1 c21_2
noncomputable def code21 : Code := (Try.f21.body).getD .skip
theorem c21_ok : compC Try.prog 39 code21 = some (strip c21_0) := by kernel_rfl
theorem res21_ok : Try.f21.results.toList.mapM (resC Try.prog) = some [(4, none)] := by kernel_rfl
/- (*quidnunc/recent.Index).Put -/
noncomputable def c19_1 : ACode := .region false [⟨some 3, .box 0, [.t 1], none⟩,
  ⟨some 4, .move, [.c (.val (.bool false))], none⟩] [] [] [0, 3] true [] []
noncomputable def c19_3 : ACode := .region false [⟨some 8, .move, [.t 0], none⟩,
  ⟨some 9, .addr 2, [.t 3], none⟩,
  ⟨some 10, .load false 1, [.t 9], none⟩,
  ⟨some 11, .call 21, [.t 8, .t 10], none⟩,
  ⟨some 5, .move, [.t 11], none⟩] [] [] [0, 3, 5] true [] []
noncomputable def c19_5 : ACode := .region false [⟨some 13, .move, [.t 0], none⟩,
  ⟨some 14, .load true 3, [.t 3], none⟩,
  ⟨some 15, .call 57, [.t 13, .t 14], none⟩,
  ⟨some 12, .move, [.t 15], none⟩,
  ⟨some 16, .ext 0, [.t 12], none⟩,
  ⟨some 17, .ext 1, [.t 12], none⟩,
  ⟨some 6, .move, [.t 16], none⟩,
  ⟨some 7, .move, [.t 17], none⟩] [] [] [0, 3, 5, 6] true [] []
noncomputable def c19_7 : ACode := .region true [⟨some 18, .move, [.t 0], none⟩,
  ⟨some 19, .move, [.t 0], none⟩,
  ⟨some 20, .nilChk, [.t 19], none⟩,
  ⟨some 21, .addr 1, [.t 20], none⟩,
  ⟨some 22, .load false 1, [.t 21], none⟩,
  ⟨some 23, .move, [.t 6], none⟩,
  ⟨some 24, .load true 3, [.t 3], none⟩,
  ⟨some 25, .buildSl 3 1 [(.int .i64 0), (.int .i64 0), (.string ⟨#[]⟩)] [(0, 3)], [.t 24], none⟩,
  ⟨some 26, .call 58, [.t 22, .t 23, .t 25], none⟩,
  ⟨some 27, .nilChk, [.t 18], none⟩,
  ⟨some 28, .addr 1, [.t 27], none⟩,
  ⟨none, .store 1, [.t 28, .t 26], none⟩] [4] [(4, 7)] [0, 3, 5] true [0] []
noncomputable def c19_9 : ACode := .region true [⟨some 29, .move, [.t 0], none⟩,
  ⟨some 30, .nilChk, [.t 29], none⟩,
  ⟨some 31, .addr 0, [.t 30], none⟩,
  ⟨some 32, .load false 1, [.t 31], none⟩,
  ⟨some 33, .addr 2, [.t 3], none⟩,
  ⟨some 34, .load false 1, [.t 33], none⟩,
  ⟨some 35, .addr 0, [.t 3], none⟩,
  ⟨some 36, .load true 2, [.t 35], none⟩,
  ⟨none, .mapUpd [(0, 1)], [.t 32, .t 34, .t 36], none⟩] [] [] [5] true [] []
noncomputable def c19_11 : ACode := .region false [⟨some 37, .move, [.t 5], none⟩,
  ⟨some 4, .move, [.t 37], none⟩] [] [] [4] false [] []
noncomputable def c19_10 : ACode := .seq c19_11 .ret
noncomputable def c19_8 : ACode := .seq c19_9 c19_10
noncomputable def c19_6 : ACode := .seq c19_7 c19_8
noncomputable def c19_4 : ACode := .seq c19_5 c19_6
noncomputable def c19_2 : ACode := .seq c19_3 c19_4
noncomputable def c19_0 : ACode := .seq c19_1 c19_2
noncomputable def code19 : Code := (Try.f19.body).getD .skip
theorem c19_ok : compC Try.prog 38 code19 = some (strip c19_0) := by kernel_rfl
theorem res19_ok : Try.f19.results.toList.mapM (resC Try.prog) = some [(4, none)] := by kernel_rfl
theorem mnew_any : ACall Try.prog 16 [] [] (Det (.ptr 0 0) [.cells false [.mp 1, .val (.slice none 0 0)], .map false (EsI [])]) := by
  refine ACall.startA c16_ok Try.func16 rfl Try.ntmps16 (by kernel_rfl) res16_ok rfl rfl rfl ?_; simp (maxSteps := 9999999) (disch := omega) only [go_sem]
  (repeat' (first | refine AWpA.seq ?_ | refine AWpA.block ?_ | (with_reducible refine CondP.tt ?_) | (with_reducible refine CondP.ff ?_) | refine AWpA.condv (by simp (maxSteps := 9999999) (disch := omega) only [go_sem]; rfl) ?_ | ((first | (apply AWpA.region; (focus (simp (maxSteps := 9999999) (disch := omega) only [go_sem]; rfl))) | (apply AWpA.draw [] [] follows; (focus (first | rfl | decide)); (focus (simp (maxSteps := 9999999) (disch := omega) only [go_sem]; rfl)); (focus (simp (maxSteps := 9999999) (disch := omega) only [go_sem]; first | done | trivial)); (focus (simp (maxSteps := 9999999) (disch := omega) only [go_sem]; rfl))) | (apply TailK.go; (focus (simp (maxSteps := 9999999) (disch := omega) only [go_sem]; rfl))) | refine AWpA.skip ?_ | refine AWpA.exit ?_ | refine AWpA.ret ?_ | (with_reducible refine ARoundsA.succ ?_) | ((first | refine Runs.kt (by assumption) (fun h9 => ?_) | refine Runs.kf (by assumption) (fun h9 => ?_) | refine Runs.nt (by assumption) (fun h9 => ?_) | refine Runs.nf (by assumption) (fun h9 => ?_) | refine CondP.ht (by assumption) (fun h9 => ?_) | refine CondP.hf (by assumption) (fun h9 => ?_) | refine CondP.nt (by assumption) (fun h9 => ?_) | refine CondP.nf (by assumption) (fun h9 => ?_)); (try simp only [h9]); clear h9)); (try simp (maxSteps := 9999999) (disch := omega) only [go_sem]); (try (refine And.intro ?_ ?_; (focus (first | omega | (simp only [go_sem]; done) | (simp; done) | (simp; omega) | assumption))))) | ((first | refine CondP.split (fun hif => ?_) (fun hif => ?_) | refine Runs.part (fun hif => ?_) (fun hif => ?_)) <;> ((try simp only [hif]); (try simp only [decide_eq_true_eq, decide_eq_false_iff_not, Bool.not_eq_true, Bool.not_eq_false, Bool.not_eq_true', Bool.not_eq_false', beq_iff_eq, bne_iff_ne, bne_eq_false_iff_eq, beq_eq_false_iff_ne, ne_eq, Bool.and_eq_true, Bool.or_eq_true, Bool.or_eq_false_iff] at hif); (try (have h9 : _ = true := hif; simp only [h9])); (try (have h9 : _ = false := hif; simp only [h9])); (try simp (maxSteps := 9999999) (disch := omega) only [go_sem]); (try (refine And.intro ?_ ?_; (focus (first | omega | (simp only [go_sem]; done) | (simp; done) | (simp; omega) | assumption)))); (try (exfalso; omega; done))))))
  (apply Ret.det [_, _]; (focus (first | exact .inl rfl | exact .inr rfl)); (focus (simp (maxSteps := 9999999) (disch := omega) only [go_sem, EsI]; rfl)); (simp (maxSteps := 9999999) (disch := omega) only [go_sem, EsI]; (try (repeat' (first | done | trivial | rfl | exact leAs_rfl _ | decide | (refine And.intro ?_ ?_) | (simp; done) | omega | (simp; decide))))))
theorem mlen_any (x : Ix) : ACall Try.prog 24 [.ptr 0 0] [IxR 2 1 x.l, .map true (EsI x.e), .cells true (Rm 0 x.l)] (Det (I x.l.length) [IxR 2 1 x.l, .map true (EsI x.e), .cells true (Rm 0 x.l)]) := by
  have hr := rm_ren 0 x.l
  have he := esI_ren x.e
  refine ACall.startA c24_ok Try.func24 rfl Try.ntmps24 (by kernel_rfl) res24_ok rfl rfl rfl ?_; simp (maxSteps := 9999999) (disch := omega) only [go_sem]
  (repeat' (first | refine AWpA.seq ?_ | refine AWpA.block ?_ | (with_reducible refine CondP.tt ?_) | (with_reducible refine CondP.ff ?_) | refine AWpA.condv (by simp (maxSteps := 9999999) (disch := omega) only [go_sem, hr, he]; rfl) ?_ | ((first | (apply AWpA.region; (focus (simp (maxSteps := 9999999) (disch := omega) only [go_sem, hr, he]; rfl))) | (apply AWpA.draw [] [] follows; (focus (first | rfl | decide)); (focus (simp (maxSteps := 9999999) (disch := omega) only [go_sem, hr, he]; rfl)); (focus (simp (maxSteps := 9999999) (disch := omega) only [go_sem, hr, he]; first | done | trivial)); (focus (simp (maxSteps := 9999999) (disch := omega) only [go_sem, hr, he]; rfl))) | (apply TailK.go; (focus (simp (maxSteps := 9999999) (disch := omega) only [go_sem, hr, he]; rfl))) | refine AWpA.skip ?_ | refine AWpA.exit ?_ | refine AWpA.ret ?_ | (with_reducible refine ARoundsA.succ ?_) | ((first | refine Runs.kt (by assumption) (fun h9 => ?_) | refine Runs.kf (by assumption) (fun h9 => ?_) | refine Runs.nt (by assumption) (fun h9 => ?_) | refine Runs.nf (by assumption) (fun h9 => ?_) | refine CondP.ht (by assumption) (fun h9 => ?_) | refine CondP.hf (by assumption) (fun h9 => ?_) | refine CondP.nt (by assumption) (fun h9 => ?_) | refine CondP.nf (by assumption) (fun h9 => ?_)); (try simp only [h9]); clear h9)); (try simp (maxSteps := 9999999) (disch := omega) only [go_sem, hr, he]); (try (refine And.intro ?_ ?_; (focus (first | omega | (simp only [go_sem]; done) | (simp; done) | (simp; omega) | assumption))))) | ((first | refine CondP.split (fun hif => ?_) (fun hif => ?_) | refine Runs.part (fun hif => ?_) (fun hif => ?_)) <;> ((try simp only [hif]); (try simp only [decide_eq_true_eq, decide_eq_false_iff_not, Bool.not_eq_true, Bool.not_eq_false, Bool.not_eq_true', Bool.not_eq_false', beq_iff_eq, bne_iff_ne, bne_eq_false_iff_eq, beq_eq_false_iff_ne, ne_eq, Bool.and_eq_true, Bool.or_eq_true, Bool.or_eq_false_iff] at hif); (try (have h9 : _ = true := hif; simp only [h9])); (try (have h9 : _ = false := hif; simp only [h9])); (try simp (maxSteps := 9999999) (disch := omega) only [go_sem, hr, he]); (try (refine And.intro ?_ ?_; (focus (first | omega | (simp only [go_sem]; done) | (simp; done) | (simp; omega) | assumption)))); (try (exfalso; omega; done))))))
  (apply Ret.det [0, 1, 2]; (focus (first | exact .inl rfl | exact .inr rfl)); (focus (simp (maxSteps := 9999999) (disch := omega) only [go_sem, hr, he]; rfl)); (simp (maxSteps := 9999999) (disch := omega) only [go_sem, hr, he]; (try (repeat' (first | done | trivial | rfl | exact leAs_rfl _ | decide | (refine And.intro ?_ ?_) | (simp; done) | omega | (simp; decide))))))
theorem mplace_any (x : Ix) (m : Mk) (hs : RiseM x.l) (hl : x.l.length ≤ 1099511627776) : ACall Try.prog 57 [.ptr 0 0, MkG m] [IxR 2 1 x.l, .map true (EsI x.e), .cells true (Rm 0 x.l)] (Det (.tup [I (rankM x.l m), Bo (hasM x.l m)]) [IxR 2 1 x.l, .map true (EsI x.e), .cells true (Rm 0 x.l)]) := by
  have hr := rm_ren 0 x.l
  have he := esI_ren x.e
  have c := bsfm_any 0 x.l m hs hl
  refine ACall.startA c57_ok Try.func57 rfl Try.ntmps57 (by kernel_rfl) res57_ok rfl rfl rfl ?_; simp (maxSteps := 9999999) (disch := omega) only [go_sem]
  (repeat' (first | refine AWpA.seq ?_ | refine AWpA.block ?_ | (with_reducible refine CondP.tt ?_) | (with_reducible refine CondP.ff ?_) | refine AWpA.condv (by simp (maxSteps := 9999999) (disch := omega) only [go_sem, hr, he]; rfl) ?_ | ((first | (apply AWpA.region; (focus (simp (maxSteps := 9999999) (disch := omega) only [go_sem, hr, he]; rfl))) | (apply AWpA.draw [] [] follows; (focus (first | rfl | decide)); (focus (simp (maxSteps := 9999999) (disch := omega) only [go_sem, hr, he]; rfl)); (focus (simp (maxSteps := 9999999) (disch := omega) only [go_sem, hr, he]; first | done | trivial)); (focus (simp (maxSteps := 9999999) (disch := omega) only [go_sem, hr, he]; rfl))) | (apply TailK.go; (focus (simp (maxSteps := 9999999) (disch := omega) only [go_sem, hr, he]; rfl))) | refine AWpA.skip ?_ | refine AWpA.exit ?_ | refine AWpA.ret ?_ | (with_reducible refine ARoundsA.succ ?_) | ((first | refine Runs.kt (by assumption) (fun h9 => ?_) | refine Runs.kf (by assumption) (fun h9 => ?_) | refine Runs.nt (by assumption) (fun h9 => ?_) | refine Runs.nf (by assumption) (fun h9 => ?_) | refine CondP.ht (by assumption) (fun h9 => ?_) | refine CondP.hf (by assumption) (fun h9 => ?_) | refine CondP.nt (by assumption) (fun h9 => ?_) | refine CondP.nf (by assumption) (fun h9 => ?_)); (try simp only [h9]); clear h9) | ((first | (with_reducible apply CallG.plain1 [2] (c)) | (with_reducible apply CallG.draw1 [2] (c))); (focus ((try refine And.intro (leAs_of_eq rfl) ?_); (try refine And.intro (leOL_of_eq rfl) ?_); simp (maxSteps := 9999999) (disch := omega) only [go_sem, hr, he]; first | done | (repeat' (first | rfl | (refine And.intro ?_ ?_))))); (focus (simp (maxSteps := 9999999) (disch := omega) only [go_sem, hr, he]; rfl)))); (try simp (maxSteps := 9999999) (disch := omega) only [go_sem, hr, he]); (try (refine And.intro ?_ ?_; (focus (first | omega | (simp only [go_sem]; done) | (simp; done) | (simp; omega) | assumption))))) | ((first | refine CondP.split (fun hif => ?_) (fun hif => ?_) | refine Runs.part (fun hif => ?_) (fun hif => ?_)) <;> ((try simp only [hif]); (try simp only [decide_eq_true_eq, decide_eq_false_iff_not, Bool.not_eq_true, Bool.not_eq_false, Bool.not_eq_true', Bool.not_eq_false', beq_iff_eq, bne_iff_ne, bne_eq_false_iff_eq, beq_eq_false_iff_ne, ne_eq, Bool.and_eq_true, Bool.or_eq_true, Bool.or_eq_false_iff] at hif); (try (have h9 : _ = true := hif; simp only [h9])); (try (have h9 : _ = false := hif; simp only [h9])); (try simp (maxSteps := 9999999) (disch := omega) only [go_sem, hr, he]); (try (refine And.intro ?_ ?_; (focus (first | omega | (simp only [go_sem]; done) | (simp; done) | (simp; omega) | assumption)))); (try (exfalso; omega; done))))))
  (apply Ret.det [0, 1, 2]; (focus (first | exact .inl rfl | exact .inr rfl)); (focus (simp (maxSteps := 9999999) (disch := omega) only [go_sem, hr, he]; rfl)); (simp (maxSteps := 9999999) (disch := omega) only [go_sem, hr, he]; (try (repeat' (first | done | trivial | rfl | exact leAs_rfl _ | decide | (refine And.intro ?_ ?_) | (simp; done) | omega | (simp; decide))))))
theorem mget_any (x : Ix) (k : ByteArray) : ACall Try.prog 22 [.ptr 0 0, Str k] [IxR 2 1 x.l, .map true (EsI x.e), .cells true (Rm 0 x.l)] (Det (.tup [MkG ((getX x.e k).getD zeroM), Bo (getX x.e k).isSome]) [IxR 2 1 x.l, .map true (EsI x.e), .cells true (Rm 0 x.l)]) := by
  have hr := rm_ren 0 x.l
  have he := esI_ren x.e
  have hk := key_same k
  have hf := find_ix k x.e
  cases hg : getX x.e k with
  | none =>
    rw [hg] at hf
    simp only [Option.map_none] at hf
    clear hg
    simp only [Option.getD_none, Option.isSome_none]
    refine ACall.startA c22_ok Try.func22 rfl Try.ntmps22 (by kernel_rfl) res22_ok rfl rfl rfl ?_; simp (maxSteps := 9999999) (disch := omega) only [go_sem]
    (repeat' (first | refine AWpA.seq ?_ | refine AWpA.block ?_ | (with_reducible refine CondP.tt ?_) | (with_reducible refine CondP.ff ?_) | refine AWpA.condv (by simp (maxSteps := 9999999) (disch := omega) only [go_sem, hr, he, hk, hf]; rfl) ?_ | ((first | (apply AWpA.region; (focus (simp (maxSteps := 9999999) (disch := omega) only [go_sem, hr, he, hk, hf]; rfl))) | (apply AWpA.draw [] [] follows; (focus (first | rfl | decide)); (focus (simp (maxSteps := 9999999) (disch := omega) only [go_sem, hr, he, hk, hf]; rfl)); (focus (simp (maxSteps := 9999999) (disch := omega) only [go_sem, hr, he, hk, hf]; first | done | trivial)); (focus (simp (maxSteps := 9999999) (disch := omega) only [go_sem, hr, he, hk, hf]; rfl))) | (apply TailK.go; (focus (simp (maxSteps := 9999999) (disch := omega) only [go_sem, hr, he, hk, hf]; rfl))) | refine AWpA.skip ?_ | refine AWpA.exit ?_ | refine AWpA.ret ?_ | (with_reducible refine ARoundsA.succ ?_) | ((first | refine Runs.kt (by assumption) (fun h9 => ?_) | refine Runs.kf (by assumption) (fun h9 => ?_) | refine Runs.nt (by assumption) (fun h9 => ?_) | refine Runs.nf (by assumption) (fun h9 => ?_) | refine CondP.ht (by assumption) (fun h9 => ?_) | refine CondP.hf (by assumption) (fun h9 => ?_) | refine CondP.nt (by assumption) (fun h9 => ?_) | refine CondP.nf (by assumption) (fun h9 => ?_)); (try simp only [h9]); clear h9)); (try simp (maxSteps := 9999999) (disch := omega) only [go_sem, hr, he, hk, hf]); (try (refine And.intro ?_ ?_; (focus (first | omega | (simp only [go_sem]; done) | (simp; done) | (simp; omega) | assumption))))) | ((first | refine CondP.split (fun hif => ?_) (fun hif => ?_) | refine Runs.part (fun hif => ?_) (fun hif => ?_)) <;> ((try simp only [hif]); (try simp only [decide_eq_true_eq, decide_eq_false_iff_not, Bool.not_eq_true, Bool.not_eq_false, Bool.not_eq_true', Bool.not_eq_false', beq_iff_eq, bne_iff_ne, bne_eq_false_iff_eq, beq_eq_false_iff_ne, ne_eq, Bool.and_eq_true, Bool.or_eq_true, Bool.or_eq_false_iff] at hif); (try (have h9 : _ = true := hif; simp only [h9])); (try (have h9 : _ = false := hif; simp only [h9])); (try simp (maxSteps := 9999999) (disch := omega) only [go_sem, hr, he, hk, hf]); (try (refine And.intro ?_ ?_; (focus (first | omega | (simp only [go_sem]; done) | (simp; done) | (simp; omega) | assumption)))); (try (exfalso; omega; done))))))
    (apply Ret.det [0, 1, 2]; (focus (first | exact .inl rfl | exact .inr rfl)); (focus (simp (maxSteps := 9999999) (disch := omega) only [go_sem, hr, he]; rfl)); (simp (maxSteps := 9999999) (disch := omega) only [go_sem, hr, he]; (try (repeat' (first | done | trivial | rfl | exact leAs_rfl _ | decide | (refine And.intro ?_ ?_) | (simp; done) | omega | (simp; decide))))))
  | some m =>
    rw [hg] at hf
    simp only [Option.map_some] at hf
    obtain rfl := (getX_some hg).2
    clear hg
    simp only [Option.getD_some, Option.isSome_some]
    refine ACall.startA c22_ok Try.func22 rfl Try.ntmps22 (by kernel_rfl) res22_ok rfl rfl rfl ?_; simp (maxSteps := 9999999) (disch := omega) only [go_sem]
    (repeat' (first | refine AWpA.seq ?_ | refine AWpA.block ?_ | (with_reducible refine CondP.tt ?_) | (with_reducible refine CondP.ff ?_) | refine AWpA.condv (by simp (maxSteps := 9999999) (disch := omega) only [go_sem, hr, he, hk, hf]; rfl) ?_ | ((first | (apply AWpA.region; (focus (simp (maxSteps := 9999999) (disch := omega) only [go_sem, hr, he, hk, hf]; rfl))) | (apply AWpA.draw [] [] follows; (focus (first | rfl | decide)); (focus (simp (maxSteps := 9999999) (disch := omega) only [go_sem, hr, he, hk, hf]; rfl)); (focus (simp (maxSteps := 9999999) (disch := omega) only [go_sem, hr, he, hk, hf]; first | done | trivial)); (focus (simp (maxSteps := 9999999) (disch := omega) only [go_sem, hr, he, hk, hf]; rfl))) | (apply TailK.go; (focus (simp (maxSteps := 9999999) (disch := omega) only [go_sem, hr, he, hk, hf]; rfl))) | refine AWpA.skip ?_ | refine AWpA.exit ?_ | refine AWpA.ret ?_ | (with_reducible refine ARoundsA.succ ?_) | ((first | refine Runs.kt (by assumption) (fun h9 => ?_) | refine Runs.kf (by assumption) (fun h9 => ?_) | refine Runs.nt (by assumption) (fun h9 => ?_) | refine Runs.nf (by assumption) (fun h9 => ?_) | refine CondP.ht (by assumption) (fun h9 => ?_) | refine CondP.hf (by assumption) (fun h9 => ?_) | refine CondP.nt (by assumption) (fun h9 => ?_) | refine CondP.nf (by assumption) (fun h9 => ?_)); (try simp only [h9]); clear h9)); (try simp (maxSteps := 9999999) (disch := omega) only [go_sem, hr, he, hk, hf]); (try (refine And.intro ?_ ?_; (focus (first | omega | (simp only [go_sem]; done) | (simp; done) | (simp; omega) | assumption))))) | ((first | refine CondP.split (fun hif => ?_) (fun hif => ?_) | refine Runs.part (fun hif => ?_) (fun hif => ?_)) <;> ((try simp only [hif]); (try simp only [decide_eq_true_eq, decide_eq_false_iff_not, Bool.not_eq_true, Bool.not_eq_false, Bool.not_eq_true', Bool.not_eq_false', beq_iff_eq, bne_iff_ne, bne_eq_false_iff_eq, beq_eq_false_iff_ne, ne_eq, Bool.and_eq_true, Bool.or_eq_true, Bool.or_eq_false_iff] at hif); (try (have h9 : _ = true := hif; simp only [h9])); (try (have h9 : _ = false := hif; simp only [h9])); (try simp (maxSteps := 9999999) (disch := omega) only [go_sem, hr, he, hk, hf]); (try (refine And.intro ?_ ?_; (focus (first | omega | (simp only [go_sem]; done) | (simp; done) | (simp; omega) | assumption)))); (try (exfalso; omega; done))))))
    (apply Ret.det [0, 1, 2]; (focus (first | exact .inl rfl | exact .inr rfl)); (focus (simp (maxSteps := 9999999) (disch := omega) only [go_sem, hr, he]; rfl)); (simp (maxSteps := 9999999) (disch := omega) only [go_sem, hr, he]; (try (repeat' (first | done | trivial | rfl | exact leAs_rfl _ | decide | (refine And.intro ?_ ?_) | (simp; done) | omega | (simp; decide))))))
theorem mbelow_any (x : Ix) (m : Mk) (n : Int) (hs : RiseM x.l) (hl : x.l.length ≤ 1099511627776) : ACall Try.prog 29 [.ptr 0 0, MkG m, I n] [IxR 2 1 x.l, .map true (EsI x.e), .cells true (Rm 0 x.l)] (Det (.sl 3 0 (belowM x.l m n).length 3 none) [IxR 2 1 x.l, .map true (EsI x.e), .cells true (Rm 0 x.l), .cells false (Rm 0 (belowM x.l m n))]) := by
  have hr := rm_ren 0
  have he := esI_ren x.e
  have hlen := rm_len 0 x.l
  have hcl := cutM_le x.l m
  have c := mplace_any x m hs hl
  have hrk := rankM_le x.l m
  obtain ⟨q, hq⟩ : ∃ q, q = min (max n 0).toNat (x.l.length - cutM x.l m) := ⟨_, rfl⟩
  have hql : q ≤ x.l.length - cutM x.l m := by omega
  have hsl : (belowM x.l m n).length = q := by unfold belowM; rw [← hq]; simp; omega
  have hseg : List.take ((belowM x.l m n).length * 3) (List.drop (cutM x.l m * 3) (Rm 0 x.l)) = Rm 0 (belowM x.l m n) := by
    rw [rm_drop x.l (cutM x.l m) rfl hcl, hsl]
    unfold belowM
    rw [← hq]
    exact rm_take _ q rfl (by simp; omega)
  have d := clonem_any (Rm 0 x.l) (cutM x.l m * 3) (belowM x.l m n) (by omega) (hr _) (by omega) hseg
  generalize belowM x.l m n = l' at *
  have hqq : (if ((x.l.length - cutM x.l m : Nat) : Int) < (if n < 0 then 0 else n) then ((x.l.length - cutM x.l m : Nat) : Int) else (if n < 0 then 0 else n)) = (q : Int) := by (repeat' split) <;> omega
  rw [hsl] at d ⊢
  clear hseg hq
  have hbe : ∀ x : ByteArray, (x == x) = true := fun x => (_root_.Go.MapKept.bytes_beq _ _).2 rfl
  by_cases hz : m = zeroM
  · have hc : cutM x.l m = 0 := by unfold cutM; rw [if_pos hz]
    rw [hc] at d hqq hcl hql
    subst hz
    simp only [Nat.sub_zero, Nat.zero_mul] at d hqq hql
    clear hc
    refine ACall.startA c29_ok Try.func29 rfl Try.ntmps29 (by kernel_rfl) res29_ok rfl rfl rfl ?_; simp (maxSteps := 9999999) (disch := omega) only [go_sem]
    (repeat' (first | refine AWpA.seq ?_ | refine AWpA.block ?_ | (with_reducible refine CondP.tt ?_) | (with_reducible refine CondP.ff ?_) | refine AWpA.condv (by simp (maxSteps := 9999999) (disch := omega) only [go_sem, hr, he, hlen, hbe, hqq]; rfl) ?_ | ((first | (apply AWpA.region; (focus (simp (maxSteps := 9999999) (disch := omega) only [go_sem, hr, he, hlen, hbe, hqq]; rfl))) | (apply AWpA.draw [] [] follows; (focus (first | rfl | decide)); (focus (simp (maxSteps := 9999999) (disch := omega) only [go_sem, hr, he, hlen, hbe, hqq]; rfl)); (focus (simp (maxSteps := 9999999) (disch := omega) only [go_sem, hr, he, hlen, hbe, hqq]; first | done | trivial)); (focus (simp (maxSteps := 9999999) (disch := omega) only [go_sem, hr, he, hlen, hbe, hqq]; rfl))) | (apply TailK.go; (focus (simp (maxSteps := 9999999) (disch := omega) only [go_sem, hr, he, hlen, hbe, hqq]; rfl))) | refine AWpA.skip ?_ | refine AWpA.exit ?_ | refine AWpA.ret ?_ | (with_reducible refine ARoundsA.succ ?_) | ((first | refine Runs.kt (by assumption) (fun h9 => ?_) | refine Runs.kf (by assumption) (fun h9 => ?_) | refine Runs.nt (by assumption) (fun h9 => ?_) | refine Runs.nf (by assumption) (fun h9 => ?_) | refine CondP.ht (by assumption) (fun h9 => ?_) | refine CondP.hf (by assumption) (fun h9 => ?_) | refine CondP.nt (by assumption) (fun h9 => ?_) | refine CondP.nf (by assumption) (fun h9 => ?_)); (try simp only [h9]); clear h9) | ((first | (with_reducible apply CallG.plain1 [2] (d)) | (with_reducible apply CallG.draw1 [2] (d))); (focus ((try refine And.intro (leAs_of_eq rfl) ?_); (try refine And.intro (leOL_of_eq rfl) ?_); simp (maxSteps := 9999999) (disch := omega) only [go_sem, hr, he, hlen, hbe, hqq]; first | done | (repeat' (first | rfl | (refine And.intro ?_ ?_))))); (focus (simp (maxSteps := 9999999) (disch := omega) only [go_sem, hr, he, hlen, hbe, hqq]; rfl)))); (try simp (maxSteps := 9999999) (disch := omega) only [go_sem, hr, he, hlen, hbe, hqq]); (try (refine And.intro ?_ ?_; (focus (first | omega | (simp only [go_sem]; done) | (simp; done) | (simp; omega) | assumption))))) | ((first | refine CondP.split (fun hif => ?_) (fun hif => ?_) | refine Runs.part (fun hif => ?_) (fun hif => ?_)) <;> ((try simp only [hif]); (try simp only [decide_eq_true_eq, decide_eq_false_iff_not, Bool.not_eq_true, Bool.not_eq_false, Bool.not_eq_true', Bool.not_eq_false', beq_iff_eq, bne_iff_ne, bne_eq_false_iff_eq, beq_eq_false_iff_ne, ne_eq, Bool.and_eq_true, Bool.or_eq_true, Bool.or_eq_false_iff] at hif); (try (have h9 : _ = true := hif; simp only [h9])); (try (have h9 : _ = false := hif; simp only [h9])); (try simp (maxSteps := 9999999) (disch := omega) only [go_sem, hr, he, hlen, hbe, hqq]); (try (refine And.intro ?_ ?_; (focus (first | omega | (simp only [go_sem]; done) | (simp; done) | (simp; omega) | assumption)))); (try (exfalso; omega; done))))))
    (apply Ret.det [0, 1, 2, _]; (focus (first | exact .inl rfl | exact .inr rfl)); (focus (simp (maxSteps := 9999999) (disch := omega) only [go_sem, hr, he]; rfl)); (simp (maxSteps := 9999999) (disch := omega) only [go_sem, hr, he]; (try (repeat' (first | done | trivial | rfl | exact leAs_rfl _ | decide | (refine And.intro ?_ ?_) | (simp; done) | omega | (simp; decide))))))
  · have hzz : mkE m zeroM = false := by rw [mkE_dec, decide_eq_false hz]
    by_cases hh : hasM x.l m = true
    · have hc : cutM x.l m = rankM x.l m + 1 := by unfold cutM; rw [if_neg hz, if_pos hh]
      rw [hc] at d hqq hcl hql
      rw [hh] at c
      clear hc hh hz
      generalize rankM x.l m = r at *
      have hr1 : ((r : Int) + 1).toNat = r + 1 := by omega
      refine ACall.startA c29_ok Try.func29 rfl Try.ntmps29 (by kernel_rfl) res29_ok rfl rfl rfl ?_; simp (maxSteps := 9999999) (disch := omega) only [go_sem]
      (repeat' (first | refine AWpA.seq ?_ | refine AWpA.block ?_ | (with_reducible refine CondP.tt ?_) | (with_reducible refine CondP.ff ?_) | refine AWpA.condv (by simp (maxSteps := 9999999) (disch := omega) only [go_sem, hr, he, hlen, hzz, hr1, hqq]; rfl) ?_ | ((first | (apply AWpA.region; (focus (simp (maxSteps := 9999999) (disch := omega) only [go_sem, hr, he, hlen, hzz, hr1, hqq]; rfl))) | (apply AWpA.draw [] [] follows; (focus (first | rfl | decide)); (focus (simp (maxSteps := 9999999) (disch := omega) only [go_sem, hr, he, hlen, hzz, hr1, hqq]; rfl)); (focus (simp (maxSteps := 9999999) (disch := omega) only [go_sem, hr, he, hlen, hzz, hr1, hqq]; first | done | trivial)); (focus (simp (maxSteps := 9999999) (disch := omega) only [go_sem, hr, he, hlen, hzz, hr1, hqq]; rfl))) | (apply TailK.go; (focus (simp (maxSteps := 9999999) (disch := omega) only [go_sem, hr, he, hlen, hzz, hr1, hqq]; rfl))) | refine AWpA.skip ?_ | refine AWpA.exit ?_ | refine AWpA.ret ?_ | (with_reducible refine ARoundsA.succ ?_) | ((first | refine Runs.kt (by assumption) (fun h9 => ?_) | refine Runs.kf (by assumption) (fun h9 => ?_) | refine Runs.nt (by assumption) (fun h9 => ?_) | refine Runs.nf (by assumption) (fun h9 => ?_) | refine CondP.ht (by assumption) (fun h9 => ?_) | refine CondP.hf (by assumption) (fun h9 => ?_) | refine CondP.nt (by assumption) (fun h9 => ?_) | refine CondP.nf (by assumption) (fun h9 => ?_)); (try simp only [h9]); clear h9) | ((first | (with_reducible apply CallG.plain1 [0, 1, 2] (c)) | (with_reducible apply CallG.draw1 [0, 1, 2] (c))); (focus ((try refine And.intro (leAs_of_eq rfl) ?_); (try refine And.intro (leOL_of_eq rfl) ?_); simp (maxSteps := 9999999) (disch := omega) only [go_sem, hr, he, hlen, hzz, hr1, hqq]; first | done | (repeat' (first | rfl | (refine And.intro ?_ ?_))))); (focus (simp (maxSteps := 9999999) (disch := omega) only [go_sem, hr, he, hlen, hzz, hr1, hqq]; rfl))) | ((first | (with_reducible apply CallG.plain1 [2] (d)) | (with_reducible apply CallG.draw1 [2] (d))); (focus ((try refine And.intro (leAs_of_eq rfl) ?_); (try refine And.intro (leOL_of_eq rfl) ?_); simp (maxSteps := 9999999) (disch := omega) only [go_sem, hr, he, hlen, hzz, hr1, hqq]; first | done | (repeat' (first | rfl | (refine And.intro ?_ ?_))))); (focus (simp (maxSteps := 9999999) (disch := omega) only [go_sem, hr, he, hlen, hzz, hr1, hqq]; rfl)))); (try simp (maxSteps := 9999999) (disch := omega) only [go_sem, hr, he, hlen, hzz, hr1, hqq]); (try (refine And.intro ?_ ?_; (focus (first | omega | (simp only [go_sem]; done) | (simp; done) | (simp; omega) | assumption))))) | ((first | refine CondP.split (fun hif => ?_) (fun hif => ?_) | refine Runs.part (fun hif => ?_) (fun hif => ?_)) <;> ((try simp only [hif]); (try simp only [decide_eq_true_eq, decide_eq_false_iff_not, Bool.not_eq_true, Bool.not_eq_false, Bool.not_eq_true', Bool.not_eq_false', beq_iff_eq, bne_iff_ne, bne_eq_false_iff_eq, beq_eq_false_iff_ne, ne_eq, Bool.and_eq_true, Bool.or_eq_true, Bool.or_eq_false_iff] at hif); (try (have h9 : _ = true := hif; simp only [h9])); (try (have h9 : _ = false := hif; simp only [h9])); (try simp (maxSteps := 9999999) (disch := omega) only [go_sem, hr, he, hlen, hzz, hr1, hqq]); (try (refine And.intro ?_ ?_; (focus (first | omega | (simp only [go_sem]; done) | (simp; done) | (simp; omega) | assumption)))); (try (exfalso; omega; done))))))
      (apply Ret.det [0, 1, 2, _]; (focus (first | exact .inl rfl | exact .inr rfl)); (focus (simp (maxSteps := 9999999) (disch := omega) only [go_sem, hr, he]; rfl)); (simp (maxSteps := 9999999) (disch := omega) only [go_sem, hr, he]; (try (repeat' (first | done | trivial | rfl | exact leAs_rfl _ | decide | (refine And.intro ?_ ?_) | (simp; done) | omega | (simp; decide))))))
    · have hc : cutM x.l m = rankM x.l m := by unfold cutM; rw [if_neg hz, if_neg hh]; rfl
      rw [hc] at d hqq hcl hql
      rw [Bool.eq_false_iff.2 hh] at c
      clear hc hh hz
      generalize rankM x.l m = r at *
      refine ACall.startA c29_ok Try.func29 rfl Try.ntmps29 (by kernel_rfl) res29_ok rfl rfl rfl ?_; simp (maxSteps := 9999999) (disch := omega) only [go_sem]
      (repeat' (first | refine AWpA.seq ?_ | refine AWpA.block ?_ | (with_reducible refine CondP.tt ?_) | (with_reducible refine CondP.ff ?_) | refine AWpA.condv (by simp (maxSteps := 9999999) (disch := omega) only [go_sem, hr, he, hlen, hzz, hqq]; rfl) ?_ | ((first | (apply AWpA.region; (focus (simp (maxSteps := 9999999) (disch := omega) only [go_sem, hr, he, hlen, hzz, hqq]; rfl))) | (apply AWpA.draw [] [] follows; (focus (first | rfl | decide)); (focus (simp (maxSteps := 9999999) (disch := omega) only [go_sem, hr, he, hlen, hzz, hqq]; rfl)); (focus (simp (maxSteps := 9999999) (disch := omega) only [go_sem, hr, he, hlen, hzz, hqq]; first | done | trivial)); (focus (simp (maxSteps := 9999999) (disch := omega) only [go_sem, hr, he, hlen, hzz, hqq]; rfl))) | (apply TailK.go; (focus (simp (maxSteps := 9999999) (disch := omega) only [go_sem, hr, he, hlen, hzz, hqq]; rfl))) | refine AWpA.skip ?_ | refine AWpA.exit ?_ | refine AWpA.ret ?_ | (with_reducible refine ARoundsA.succ ?_) | ((first | refine Runs.kt (by assumption) (fun h9 => ?_) | refine Runs.kf (by assumption) (fun h9 => ?_) | refine Runs.nt (by assumption) (fun h9 => ?_) | refine Runs.nf (by assumption) (fun h9 => ?_) | refine CondP.ht (by assumption) (fun h9 => ?_) | refine CondP.hf (by assumption) (fun h9 => ?_) | refine CondP.nt (by assumption) (fun h9 => ?_) | refine CondP.nf (by assumption) (fun h9 => ?_)); (try simp only [h9]); clear h9) | ((first | (with_reducible apply CallG.plain1 [0, 1, 2] (c)) | (with_reducible apply CallG.draw1 [0, 1, 2] (c))); (focus ((try refine And.intro (leAs_of_eq rfl) ?_); (try refine And.intro (leOL_of_eq rfl) ?_); simp (maxSteps := 9999999) (disch := omega) only [go_sem, hr, he, hlen, hzz, hqq]; first | done | (repeat' (first | rfl | (refine And.intro ?_ ?_))))); (focus (simp (maxSteps := 9999999) (disch := omega) only [go_sem, hr, he, hlen, hzz, hqq]; rfl))) | ((first | (with_reducible apply CallG.plain1 [2] (d)) | (with_reducible apply CallG.draw1 [2] (d))); (focus ((try refine And.intro (leAs_of_eq rfl) ?_); (try refine And.intro (leOL_of_eq rfl) ?_); simp (maxSteps := 9999999) (disch := omega) only [go_sem, hr, he, hlen, hzz, hqq]; first | done | (repeat' (first | rfl | (refine And.intro ?_ ?_))))); (focus (simp (maxSteps := 9999999) (disch := omega) only [go_sem, hr, he, hlen, hzz, hqq]; rfl)))); (try simp (maxSteps := 9999999) (disch := omega) only [go_sem, hr, he, hlen, hzz, hqq]); (try (refine And.intro ?_ ?_; (focus (first | omega | (simp only [go_sem]; done) | (simp; done) | (simp; omega) | assumption))))) | ((first | refine CondP.split (fun hif => ?_) (fun hif => ?_) | refine Runs.part (fun hif => ?_) (fun hif => ?_)) <;> ((try simp only [hif]); (try simp only [decide_eq_true_eq, decide_eq_false_iff_not, Bool.not_eq_true, Bool.not_eq_false, Bool.not_eq_true', Bool.not_eq_false', beq_iff_eq, bne_iff_ne, bne_eq_false_iff_eq, beq_eq_false_iff_ne, ne_eq, Bool.and_eq_true, Bool.or_eq_true, Bool.or_eq_false_iff] at hif); (try (have h9 : _ = true := hif; simp only [h9])); (try (have h9 : _ = false := hif; simp only [h9])); (try simp (maxSteps := 9999999) (disch := omega) only [go_sem, hr, he, hlen, hzz, hqq]); (try (refine And.intro ?_ ?_; (focus (first | omega | (simp only [go_sem]; done) | (simp; done) | (simp; omega) | assumption)))); (try (exfalso; omega; done))))))
      (apply Ret.det [0, 1, 2, _]; (focus (first | exact .inl rfl | exact .inr rfl)); (focus (simp (maxSteps := 9999999) (disch := omega) only [go_sem, hr, he]; rfl)); (simp (maxSteps := 9999999) (disch := omega) only [go_sem, hr, he]; (try (repeat' (first | done | trivial | rfl | exact leAs_rfl _ | decide | (refine And.intro ?_ ?_) | (simp; done) | omega | (simp; decide))))))
theorem mnewest_any (x : Ix) (n : Int) (hs : RiseM x.l) (hl : x.l.length ≤ 1099511627776) : ACall Try.prog 27 [.ptr 0 0, I n] [IxR 2 1 x.l, .map true (EsI x.e), .cells true (Rm 0 x.l)] (Det (.sl 3 0 (belowM x.l zeroM n).length 3 none) [IxR 2 1 x.l, .map true (EsI x.e), .cells true (Rm 0 x.l), .cells false (Rm 0 (belowM x.l zeroM n))]) := by
  have hr := rm_ren 0
  have he := esI_ren x.e
  have c := mbelow_any x zeroM n hs hl
  generalize belowM x.l zeroM n = l' at *
  refine ACall.startA c27_ok Try.func27 rfl Try.ntmps27 (by kernel_rfl) res27_ok rfl rfl rfl ?_; simp (maxSteps := 9999999) (disch := omega) only [go_sem]
  (repeat' (first | refine AWpA.seq ?_ | refine AWpA.block ?_ | (with_reducible refine CondP.tt ?_) | (with_reducible refine CondP.ff ?_) | refine AWpA.condv (by simp (maxSteps := 9999999) (disch := omega) only [go_sem, hr, he]; rfl) ?_ | ((first | (apply AWpA.region; (focus (simp (maxSteps := 9999999) (disch := omega) only [go_sem, hr, he]; rfl))) | (apply AWpA.draw [] [] follows; (focus (first | rfl | decide)); (focus (simp (maxSteps := 9999999) (disch := omega) only [go_sem, hr, he]; rfl)); (focus (simp (maxSteps := 9999999) (disch := omega) only [go_sem, hr, he]; first | done | trivial)); (focus (simp (maxSteps := 9999999) (disch := omega) only [go_sem, hr, he]; rfl))) | (apply TailK.go; (focus (simp (maxSteps := 9999999) (disch := omega) only [go_sem, hr, he]; rfl))) | refine AWpA.skip ?_ | refine AWpA.exit ?_ | refine AWpA.ret ?_ | (with_reducible refine ARoundsA.succ ?_) | ((first | refine Runs.kt (by assumption) (fun h9 => ?_) | refine Runs.kf (by assumption) (fun h9 => ?_) | refine Runs.nt (by assumption) (fun h9 => ?_) | refine Runs.nf (by assumption) (fun h9 => ?_) | refine CondP.ht (by assumption) (fun h9 => ?_) | refine CondP.hf (by assumption) (fun h9 => ?_) | refine CondP.nt (by assumption) (fun h9 => ?_) | refine CondP.nf (by assumption) (fun h9 => ?_)); (try simp only [h9]); clear h9) | ((first | (with_reducible apply CallG.plain1 [0, 1, 2] (c)) | (with_reducible apply CallG.draw1 [0, 1, 2] (c))); (focus ((try refine And.intro (leAs_of_eq rfl) ?_); (try refine And.intro (leOL_of_eq rfl) ?_); simp (maxSteps := 9999999) (disch := omega) only [go_sem, hr, he]; first | done | (repeat' (first | rfl | (refine And.intro ?_ ?_))))); (focus (simp (maxSteps := 9999999) (disch := omega) only [go_sem, hr, he]; rfl)))); (try simp (maxSteps := 9999999) (disch := omega) only [go_sem, hr, he]); (try (refine And.intro ?_ ?_; (focus (first | omega | (simp only [go_sem]; done) | (simp; done) | (simp; omega) | assumption))))) | ((first | refine CondP.split (fun hif => ?_) (fun hif => ?_) | refine Runs.part (fun hif => ?_) (fun hif => ?_)) <;> ((try simp only [hif]); (try simp only [decide_eq_true_eq, decide_eq_false_iff_not, Bool.not_eq_true, Bool.not_eq_false, Bool.not_eq_true', Bool.not_eq_false', beq_iff_eq, bne_iff_ne, bne_eq_false_iff_eq, beq_eq_false_iff_ne, ne_eq, Bool.and_eq_true, Bool.or_eq_true, Bool.or_eq_false_iff] at hif); (try (have h9 : _ = true := hif; simp only [h9])); (try (have h9 : _ = false := hif; simp only [h9])); (try simp (maxSteps := 9999999) (disch := omega) only [go_sem, hr, he]); (try (refine And.intro ?_ ?_; (focus (first | omega | (simp only [go_sem]; done) | (simp; done) | (simp; omega) | assumption)))); (try (exfalso; omega; done))))))
  (apply Ret.det [0, 1, 2, _]; (focus (first | exact .inl rfl | exact .inr rfl)); (focus (simp (maxSteps := 9999999) (disch := omega) only [go_sem, hr, he]; rfl)); (simp (maxSteps := 9999999) (disch := omega) only [go_sem, hr, he]; (try (repeat' (first | done | trivial | rfl | exact leAs_rfl _ | decide | (refine And.intro ?_ ?_) | (simp; done) | omega | (simp; decide))))))
end Go.Proofs.Ytgjimlgofakbpaa
