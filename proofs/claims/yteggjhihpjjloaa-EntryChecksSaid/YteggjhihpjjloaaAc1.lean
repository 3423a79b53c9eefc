/- Contracts, small functions. -/
import Derived.Test.YteggjhihpjjloaaAc0
namespace Go.Proofs.Yteggjhihpjjloaa
set_option linter.unusedSimpArgs false
set_option linter.unusedVariables false
set_option maxHeartbeats 4000000
open Go Go.Am
set_option maxRecDepth 100000
/- cmp.isNaN[int] -/
noncomputable def c114_1 : ACode := .region false [⟨some 2, .move, [.c (.val (.bool false))], none⟩] [] [] [0] false [] []
noncomputable def c114_3 : ACode := .region false [⟨some 3, .move, [.t 0], none⟩,
  ⟨some 4, .move, [.t 0], none⟩,
  ⟨some 5, .bin .neq, [.t 3, .t 4], none⟩,
  ⟨some 2, .move, [.t 5], none⟩] [] [] [2] false [] []
noncomputable def c114_2 : ACode := .seq c114_3 .ret
noncomputable def c114_0 : ACode := .seq c114_1 c114_2
noncomputable def code114 : Code := (Try.f114.body).getD .skip
theorem c114_ok : compC Try.prog 6 code114 = some (strip c114_0) := by kernel_rfl
theorem res114_ok : Try.f114.results.toList.mapM (resC Try.prog) = some [(2, none)] := by kernel_rfl
/- cmp.Compare[int] -/
noncomputable def c112_1 : ACode := .region false [⟨some 4, .move, [.c (.val (.int .i64 0))], none⟩] [] [] [0, 1] false [] []
noncomputable def c112_3 : ACode := .region false [⟨some 7, .move, [.t 0], none⟩,
  ⟨some 8, .call 114, [.t 7], none⟩,
  ⟨some 5, .move, [.t 8], none⟩] [] [] [0, 1, 5] true [] []
noncomputable def c112_5 : ACode := .region false [⟨some 9, .move, [.t 1], none⟩,
  ⟨some 10, .call 114, [.t 9], none⟩,
  ⟨some 6, .move, [.t 10], none⟩] [] [] [0, 1, 5, 6] true [] []
noncomputable def c112_8 : ACode := .region false [⟨some 11, .move, [.t 5], none⟩] [] [] [0, 1, 6, 11] false [] []
noncomputable def c112_12 : ACode := .region false [⟨some 12, .move, [.t 6], none⟩] [] [] [12] false [] []
noncomputable def c112_15 : ACode := .region false [⟨some 4, .move, [.c (.val (.int .i64 0))], none⟩] [] [] [4] false [] []
noncomputable def c112_14 : ACode := .seq c112_15 .ret
noncomputable def c112_13 : ACode := .cond (.t 12) c112_14 .skip
noncomputable def c112_11 : ACode := .seq c112_12 c112_13
noncomputable def c112_17 : ACode := .region false [⟨some 4, .move, [.c (.val (.int .i64 (-1)))], none⟩] [] [] [4] false [] []
noncomputable def c112_16 : ACode := .seq c112_17 .ret
noncomputable def c112_10 : ACode := .seq c112_11 c112_16
noncomputable def c112_9 : ACode := .cond (.t 11) c112_10 .skip
noncomputable def c112_7 : ACode := .seq c112_8 c112_9
noncomputable def c112_20 : ACode := .region false [⟨some 13, .move, [.t 6], none⟩] [] [] [0, 1, 13] false [] []
noncomputable def c112_23 : ACode := .region false [⟨some 4, .move, [.c (.val (.int .i64 1))], none⟩] [] [] [4] false [] []
noncomputable def c112_22 : ACode := .seq c112_23 .ret
noncomputable def c112_21 : ACode := .cond (.t 13) c112_22 .skip
noncomputable def c112_19 : ACode := .seq c112_20 c112_21
noncomputable def c112_26 : ACode := .region false [⟨some 14, .move, [.t 0], none⟩,
  ⟨some 15, .move, [.t 1], none⟩,
  ⟨some 16, .bin .lss, [.t 14, .t 15], none⟩] [] [] [0, 1, 16] false [] []
noncomputable def c112_29 : ACode := .region false [⟨some 4, .move, [.c (.val (.int .i64 (-1)))], none⟩] [] [] [4] false [] []
noncomputable def c112_28 : ACode := .seq c112_29 .ret
noncomputable def c112_27 : ACode := .cond (.t 16) c112_28 .skip
noncomputable def c112_25 : ACode := .seq c112_26 c112_27
noncomputable def c112_32 : ACode := .region false [⟨some 17, .move, [.t 0], none⟩,
  ⟨some 18, .move, [.t 1], none⟩,
  ⟨some 19, .bin .gtr, [.t 17, .t 18], none⟩] [] [] [19] false [] []
noncomputable def c112_35 : ACode := .region false [⟨some 4, .move, [.c (.val (.int .i64 1))], none⟩] [] [] [4] false [] []
noncomputable def c112_34 : ACode := .seq c112_35 .ret
noncomputable def c112_33 : ACode := .cond (.t 19) c112_34 .skip
noncomputable def c112_31 : ACode := .seq c112_32 c112_33
noncomputable def c112_37 : ACode := .region false [⟨some 4, .move, [.c (.val (.int .i64 0))], none⟩] [] [] [4] false [] []
noncomputable def c112_36 : ACode := .seq c112_37 .ret
noncomputable def c112_30 : ACode := .seq c112_31 c112_36
noncomputable def c112_24 : ACode := .seq c112_25 c112_30
noncomputable def c112_18 : ACode := .seq c112_19 c112_24
noncomputable def c112_6 : ACode := .seq c112_7 c112_18
noncomputable def c112_4 : ACode := .seq c112_5 c112_6
noncomputable def c112_2 : ACode := .seq c112_3 c112_4
noncomputable def c112_0 : ACode := .seq c112_1 c112_2
noncomputable def code112 : Code := (Try.f112.body).getD .skip
theorem c112_ok : compC Try.prog 20 code112 = some (strip c112_0) := by kernel_rfl
theorem res112_ok : Try.f112.results.toList.mapM (resC Try.prog) = some [(4, none)] := by kernel_rfl
/- quidnunc/quidnuncref04.Site -/
noncomputable def c100_1 : ACode := .region false [⟨some 2, .move, [.c (.val (.bool false))], none⟩] [] [] [0] false [] []
noncomputable def c100_3 : ACode := .region false [⟨some 3, .move, [.t 0], none⟩,
  ⟨some 4, .bin .geq, [.t 3, .c (.val (.int .i64 0))], none⟩,
  ⟨some 5, .move, [.t 4], none⟩,
  ⟨some 6, .move, [.t 0], some (some 5, true)⟩,
  ⟨some 7, .bin .lss, [.t 6, .c (.val (.int .i64 12))], some (some 5, true)⟩,
  ⟨some 8, .pick, [.t 5, .t 7, .c (.val (.bool false))], none⟩,
  ⟨some 2, .move, [.t 8], none⟩] [] [] [2] false [] []
noncomputable def c100_2 : ACode := .seq c100_3 .ret
noncomputable def c100_0 : ACode := .seq c100_1 c100_2
noncomputable def code100 : Code := (Try.f100.body).getD .skip
theorem c100_ok : compC Try.prog 9 code100 = some (strip c100_0) := by kernel_rfl
theorem res100_ok : Try.f100.results.toList.mapM (resC Try.prog) = some [(2, none)] := by kernel_rfl
/- quidnunc/quidnuncref04.Later -/
noncomputable def c52_1 : ACode := .region false [⟨some 2, .box 0, [.t 0], none⟩,
  ⟨some 3, .box 0, [.t 1], none⟩,
  ⟨some 4, .move, [.c (.val (.bool false))], none⟩] [] [] [2, 3] true [] []
noncomputable def c52_4 : ACode := .region false [⟨some 5, .addr 0, [.t 2], none⟩,
  ⟨some 6, .load false 1, [.t 5], none⟩,
  ⟨some 7, .addr 0, [.t 3], none⟩,
  ⟨some 8, .load false 1, [.t 7], none⟩,
  ⟨some 9, .bin .neq, [.t 6, .t 8], none⟩] [] [] [2, 3, 9] false [] []
noncomputable def c52_7 : ACode := .region false [⟨some 10, .addr 0, [.t 2], none⟩,
  ⟨some 11, .load false 1, [.t 10], none⟩,
  ⟨some 12, .addr 0, [.t 3], none⟩,
  ⟨some 13, .load false 1, [.t 12], none⟩,
  ⟨some 14, .bin .gtr, [.t 11, .t 13], none⟩,
  ⟨some 4, .move, [.t 14], none⟩] [] [] [4] false [] []
noncomputable def c52_6 : ACode := .seq c52_7 .ret
noncomputable def c52_5 : ACode := .cond (.t 9) c52_6 .skip
noncomputable def c52_3 : ACode := .seq c52_4 c52_5
noncomputable def c52_9 : ACode := .region false [⟨some 15, .addr 1, [.t 2], none⟩,
  ⟨some 16, .load false 1, [.t 15], none⟩,
  ⟨some 17, .addr 1, [.t 3], none⟩,
  ⟨some 18, .load false 1, [.t 17], none⟩,
  ⟨some 19, .bin .gtr, [.t 16, .t 18], none⟩,
  ⟨some 4, .move, [.t 19], none⟩] [] [] [4] false [] []
noncomputable def c52_8 : ACode := .seq c52_9 .ret
noncomputable def c52_2 : ACode := .seq c52_3 c52_8
noncomputable def c52_0 : ACode := .seq c52_1 c52_2
noncomputable def code52 : Code := (Try.f52.body).getD .skip
theorem c52_ok : compC Try.prog 20 code52 = some (strip c52_0) := by kernel_rfl
theorem res52_ok : Try.f52.results.toList.mapM (resC Try.prog) = some [(4, none)] := by kernel_rfl
/- quidnunc/quidnunclaw04.Of -/
noncomputable def c48_1 : ACode := .region false [⟨some 1, .box 0, [.t 0], none⟩,
  ⟨some 2, .alloc [(.int .i64 0), (.int .i64 0)], [], none⟩] [] [] [1, 2] true [] []
noncomputable def c48_3 : ACode := .region false [⟨some 3, .addr 0, [.t 1], none⟩,
  ⟨some 4, .load false 1, [.t 3], none⟩,
  ⟨some 5, .addr 1, [.t 1], none⟩,
  ⟨some 6, .load false 1, [.t 5], none⟩,
  ⟨some 7, .build [(.int .i64 0), (.int .i64 0)] [(0, 1), (1, 1)], [.t 4, .t 6], none⟩,
  ⟨none, .store 2, [.t 2, .t 7], none⟩] [] [] [2] true [] []
noncomputable def c48_2 : ACode := .seq c48_3 .ret
noncomputable def c48_0 : ACode := .seq c48_1 c48_2
noncomputable def code48 : Code := (Try.f48.body).getD .skip
theorem c48_ok : compC Try.prog 8 code48 = some (strip c48_0) := by kernel_rfl
theorem res48_ok : Try.f48.results.toList.mapM (resC Try.prog) = some [(2, some (true, 2))] := by kernel_rfl
/- quidnunc/quidnunclaw04.To -/
noncomputable def c99_1 : ACode := .region false [⟨some 1, .box 0, [.t 0], none⟩,
  ⟨some 2, .alloc [(.int .i64 0), (.int .i64 0)], [], none⟩] [] [] [1, 2] true [] []
noncomputable def c99_3 : ACode := .region false [⟨some 3, .addr 0, [.t 1], none⟩,
  ⟨some 4, .load false 1, [.t 3], none⟩,
  ⟨some 5, .addr 1, [.t 1], none⟩,
  ⟨some 6, .load false 1, [.t 5], none⟩,
  ⟨some 7, .build [(.int .i64 0), (.int .i64 0)] [(0, 1), (1, 1)], [.t 4, .t 6], none⟩,
  ⟨none, .store 2, [.t 2, .t 7], none⟩] [] [] [2] true [] []
noncomputable def c99_2 : ACode := .seq c99_3 .ret
noncomputable def c99_0 : ACode := .seq c99_1 c99_2
noncomputable def code99 : Code := (Try.f99.body).getD .skip
theorem c99_ok : compC Try.prog 8 code99 = some (strip c99_0) := by kernel_rfl
theorem res99_ok : Try.f99.results.toList.mapM (resC Try.prog) = some [(2, some (true, 2))] := by kernel_rfl
/- quidnunc/quidnuncref04.Good -/
noncomputable def c53_1 : ACode := .region false [⟨some 1, .box 0, [.t 0], none⟩,
  ⟨some 2, .move, [.c (.val (.bool false))], none⟩] [] [] [1] true [] []
noncomputable def c53_3 : ACode := .region false [⟨some 3, .addr 0, [.t 1], none⟩,
  ⟨some 4, .load false 1, [.t 3], none⟩,
  ⟨some 5, .bin .geq, [.t 4, .c (.val (.int .i64 1))], none⟩,
  ⟨some 6, .move, [.t 5], none⟩,
  ⟨some 7, .addr 0, [.t 1], some (some 6, true)⟩,
  ⟨some 8, .load false 1, [.t 7], some (some 6, true)⟩,
  ⟨some 9, .bin .leq, [.t 8, .c (.val (.int .i64 4294967295))], some (some 6, true)⟩,
  ⟨some 10, .pick, [.t 6, .t 9, .c (.val (.bool false))], none⟩,
  ⟨some 11, .move, [.t 10], none⟩,
  ⟨some 12, .addr 1, [.t 1], some (some 11, true)⟩,
  ⟨some 13, .load false 1, [.t 12], some (some 11, true)⟩,
  ⟨some 14, .call 100, [.t 13], some (some 11, true)⟩,
  ⟨some 15, .pick, [.t 11, .t 14, .c (.val (.bool false))], none⟩,
  ⟨some 2, .move, [.t 15], none⟩] [] [] [2] true [] []
noncomputable def c53_2 : ACode := .seq c53_3 .ret
noncomputable def c53_0 : ACode := .seq c53_1 c53_2
noncomputable def code53 : Code := (Try.f53.body).getD .skip
theorem c53_ok : compC Try.prog 16 code53 = some (strip c53_0) := by kernel_rfl
theorem res53_ok : Try.f53.results.toList.mapM (resC Try.prog) = some [(2, none)] := by kernel_rfl
/- quidnunc/stamp.Good -/
noncomputable def c97_1 : ACode := .region false [⟨some 1, .box 0, [.t 0], none⟩,
  ⟨some 2, .move, [.c (.val (.bool false))], none⟩] [] [] [1] true [] []
noncomputable def c97_3 : ACode := .region false [⟨some 3, .addr 0, [.t 1], none⟩,
  ⟨some 4, .load false 1, [.t 3], none⟩,
  ⟨some 5, .bin .geq, [.t 4, .c (.val (.int .i64 1))], none⟩,
  ⟨some 6, .move, [.t 5], none⟩,
  ⟨some 7, .addr 0, [.t 1], some (some 6, true)⟩,
  ⟨some 8, .load false 1, [.t 7], some (some 6, true)⟩,
  ⟨some 9, .bin .leq, [.t 8, .c (.val (.int .i64 4294967295))], some (some 6, true)⟩,
  ⟨some 10, .pick, [.t 6, .t 9, .c (.val (.bool false))], none⟩,
  ⟨some 11, .move, [.t 10], none⟩,
  ⟨some 12, .addr 1, [.t 1], some (some 11, true)⟩,
  ⟨some 13, .load false 1, [.t 12], some (some 11, true)⟩,
  ⟨some 14, .bin .geq, [.t 13, .c (.val (.int .i64 0))], some (some 11, true)⟩,
  ⟨some 15, .pick, [.t 11, .t 14, .c (.val (.bool false))], none⟩,
  ⟨some 16, .move, [.t 15], none⟩,
  ⟨some 17, .addr 1, [.t 1], some (some 16, true)⟩,
  ⟨some 18, .load false 1, [.t 17], some (some 16, true)⟩,
  ⟨some 19, .bin .lss, [.t 18, .c (.val (.int .i64 12))], some (some 16, true)⟩,
  ⟨some 20, .pick, [.t 16, .t 19, .c (.val (.bool false))], none⟩,
  ⟨some 2, .move, [.t 20], none⟩] [] [] [2] false [] []
noncomputable def c97_2 : ACode := .seq c97_3 .ret
noncomputable def c97_0 : ACode := .seq c97_1 c97_2
noncomputable def code97 : Code := (Try.f97.body).getD .skip
theorem c97_ok : compC Try.prog 21 code97 = some (strip c97_0) := by kernel_rfl
theorem res97_ok : Try.f97.results.toList.mapM (resC Try.prog) = some [(2, none)] := by kernel_rfl
def cmpI (x y : Int) : Int := if x < y then -1 else if y < x then 1 else 0
theorem isNaN_any (a : Int) : ACall Try.prog 114 [I a] [] (Det (Bo false) []) := by
  refine ACall.startA c114_ok Try.func114 rfl Try.ntmps114 (by kernel_rfl) res114_ok rfl rfl rfl ?_; simp (maxSteps := 9999999) (disch := omega) only [go_sem]
  (repeat' (first | refine AWpA.seq ?_ | refine AWpA.block ?_ | (with_reducible refine CondP.tt ?_) | (with_reducible refine CondP.ff ?_) | refine AWpA.condv (by simp (maxSteps := 9999999) (disch := omega) only [go_sem]; rfl) ?_ | ((first | (apply AWpA.region; (focus (simp (maxSteps := 9999999) (disch := omega) only [go_sem]; rfl))) | (apply AWpA.draw [] follows; (focus (simp (maxSteps := 9999999) (disch := omega) only [go_sem]; rfl)); (focus (simp (maxSteps := 9999999) (disch := omega) only [go_sem]; first | done | trivial)); (focus (simp (maxSteps := 9999999) (disch := omega) only [go_sem]; rfl))) | (apply TailK.go; (focus (simp (maxSteps := 9999999) (disch := omega) only [go_sem]; rfl))) | refine AWpA.skip ?_ | refine AWpA.exit ?_ | refine AWpA.ret ?_ | (with_reducible refine ARoundsA.succ ?_) | ((first | refine Runs.kt (by assumption) (fun h9 => ?_) | refine Runs.kf (by assumption) (fun h9 => ?_) | refine Runs.nt (by assumption) (fun h9 => ?_) | refine Runs.nf (by assumption) (fun h9 => ?_) | refine CondP.ht (by assumption) (fun h9 => ?_) | refine CondP.hf (by assumption) (fun h9 => ?_) | refine CondP.nt (by assumption) (fun h9 => ?_) | refine CondP.nf (by assumption) (fun h9 => ?_)); (try simp only [h9]); clear h9)); (try simp (maxSteps := 9999999) (disch := omega) only [go_sem]); (try (refine And.intro ?_ ?_; (focus (first | omega | (simp only [go_sem]; done) | (simp; done) | (simp; omega) | assumption))))) | ((first | refine CondP.split (fun hif => ?_) (fun hif => ?_) | refine Runs.part (fun hif => ?_) (fun hif => ?_)) <;> ((try simp only [hif]); (try simp only [decide_eq_true_eq, decide_eq_false_iff_not, Bool.not_eq_true, Bool.not_eq_false, Bool.not_eq_true', Bool.not_eq_false', beq_iff_eq, bne_iff_ne, bne_eq_false_iff_eq, beq_eq_false_iff_ne, ne_eq, Bool.and_eq_true, Bool.or_eq_true, Bool.or_eq_false_iff] at hif); (try (have h9 : _ = true := hif; simp only [h9])); (try (have h9 : _ = false := hif; simp only [h9])); (try simp (maxSteps := 9999999) (disch := omega) only [go_sem]); (try (refine And.intro ?_ ?_; (focus (first | omega | (simp only [go_sem]; done) | (simp; done) | (simp; omega) | assumption)))); (try (exfalso; omega; done))))))
  (apply Ret.det []; (focus (first | exact .inl rfl | exact .inr rfl)); (focus (simp (maxSteps := 9999999) (disch := omega) only [go_sem]; rfl)); (simp (maxSteps := 9999999) (disch := omega) only [go_sem]; (try (repeat' (first | done | trivial | rfl | exact leAs_rfl _ | decide | (refine And.intro ?_ ?_) | (simp; done) | omega | (simp; decide))))))
  all_goals (simp)
theorem cmp_any (a b : Int) : ACall Try.prog 112 [I a, I b] [] (Det (I (cmpI a b)) []) := by
  refine ACall.startA c112_ok Try.func112 rfl Try.ntmps112 (by kernel_rfl) res112_ok rfl rfl rfl ?_; simp (maxSteps := 9999999) (disch := omega) only [go_sem]
  (repeat' (first | refine AWpA.seq ?_ | refine AWpA.block ?_ | (with_reducible refine CondP.tt ?_) | (with_reducible refine CondP.ff ?_) | refine AWpA.condv (by simp (maxSteps := 9999999) (disch := omega) only [go_sem]; rfl) ?_ | ((first | (apply AWpA.region; (focus (simp (maxSteps := 9999999) (disch := omega) only [go_sem]; rfl))) | (apply AWpA.draw [] follows; (focus (simp (maxSteps := 9999999) (disch := omega) only [go_sem]; rfl)); (focus (simp (maxSteps := 9999999) (disch := omega) only [go_sem]; first | done | trivial)); (focus (simp (maxSteps := 9999999) (disch := omega) only [go_sem]; rfl))) | (apply TailK.go; (focus (simp (maxSteps := 9999999) (disch := omega) only [go_sem]; rfl))) | refine AWpA.skip ?_ | refine AWpA.exit ?_ | refine AWpA.ret ?_ | (with_reducible refine ARoundsA.succ ?_) | ((first | refine Runs.kt (by assumption) (fun h9 => ?_) | refine Runs.kf (by assumption) (fun h9 => ?_) | refine Runs.nt (by assumption) (fun h9 => ?_) | refine Runs.nf (by assumption) (fun h9 => ?_) | refine CondP.ht (by assumption) (fun h9 => ?_) | refine CondP.hf (by assumption) (fun h9 => ?_) | refine CondP.nt (by assumption) (fun h9 => ?_) | refine CondP.nf (by assumption) (fun h9 => ?_)); (try simp only [h9]); clear h9) | ((first | (with_reducible apply CallG.plain1 [] (isNaN_any _)) | (with_reducible apply CallG.draw1 [] (isNaN_any _))); (focus ((try refine And.intro (leAs_of_eq rfl) ?_); (try refine And.intro (leOL_of_eq rfl) ?_); simp (maxSteps := 9999999) (disch := omega) only [go_sem]; first | done | (repeat' (first | rfl | (refine And.intro ?_ ?_))))); (focus (simp (maxSteps := 9999999) (disch := omega) only [go_sem]; rfl)))); (try simp (maxSteps := 9999999) (disch := omega) only [go_sem]); (try (refine And.intro ?_ ?_; (focus (first | omega | (simp only [go_sem]; done) | (simp; done) | (simp; omega) | assumption))))) | ((first | refine CondP.split (fun hif => ?_) (fun hif => ?_) | refine Runs.part (fun hif => ?_) (fun hif => ?_)) <;> ((try simp only [hif]); (try simp only [decide_eq_true_eq, decide_eq_false_iff_not, Bool.not_eq_true, Bool.not_eq_false, Bool.not_eq_true', Bool.not_eq_false', beq_iff_eq, bne_iff_ne, bne_eq_false_iff_eq, beq_eq_false_iff_ne, ne_eq, Bool.and_eq_true, Bool.or_eq_true, Bool.or_eq_false_iff] at hif); (try (have h9 : _ = true := hif; simp only [h9])); (try (have h9 : _ = false := hif; simp only [h9])); (try simp (maxSteps := 9999999) (disch := omega) only [go_sem]); (try (refine And.intro ?_ ?_; (focus (first | omega | (simp only [go_sem]; done) | (simp; done) | (simp; omega) | assumption)))); (try (exfalso; omega; done))))))
  all_goals
    (apply Ret.det []; (focus (first | exact .inl rfl | exact .inr rfl)); (focus (simp (maxSteps := 9999999) (disch := omega) only [go_sem]; rfl)); (simp (maxSteps := 9999999) (disch := omega) only [go_sem]; (try (repeat' (first | done | trivial | rfl | exact leAs_rfl _ | decide | (refine And.intro ?_ ?_) | (simp; done) | omega | (simp; decide))))))
    all_goals (simp [cmpI, *])
/-- A stamp. -/
structure St where
  c : Int
  s : Int
abbrev StA (x : St) : AV := .agg [I x.c, I x.s]
def siteB (n : Int) : Bool := decide (0 ≤ n) && decide (n < 12)
def goodB (s : St) : Bool := decide (1 ≤ s.c) && (decide (s.c ≤ 4294967295) && (decide (0 ≤ s.s) && decide (s.s < 12)))
def laterB (a b : St) : Bool := if a.c ≠ b.c then decide (b.c < a.c) else decide (b.s < a.s)
theorem site_any (n : Int) : ACall Try.prog 100 [I n] [] (Det (Bo (siteB n)) []) := by
  refine ACall.startA c100_ok Try.func100 rfl Try.ntmps100 (by kernel_rfl) res100_ok rfl rfl rfl ?_; simp (maxSteps := 9999999) (disch := omega) only [go_sem]
  (repeat' (first | refine AWpA.seq ?_ | refine AWpA.block ?_ | (with_reducible refine CondP.tt ?_) | (with_reducible refine CondP.ff ?_) | refine AWpA.condv (by simp (maxSteps := 9999999) (disch := omega) only [go_sem]; rfl) ?_ | ((first | (apply AWpA.region; (focus (simp (maxSteps := 9999999) (disch := omega) only [go_sem]; rfl))) | (apply AWpA.draw [] follows; (focus (simp (maxSteps := 9999999) (disch := omega) only [go_sem]; rfl)); (focus (simp (maxSteps := 9999999) (disch := omega) only [go_sem]; first | done | trivial)); (focus (simp (maxSteps := 9999999) (disch := omega) only [go_sem]; rfl))) | (apply TailK.go; (focus (simp (maxSteps := 9999999) (disch := omega) only [go_sem]; rfl))) | refine AWpA.skip ?_ | refine AWpA.exit ?_ | refine AWpA.ret ?_ | (with_reducible refine ARoundsA.succ ?_) | ((first | refine Runs.kt (by assumption) (fun h9 => ?_) | refine Runs.kf (by assumption) (fun h9 => ?_) | refine Runs.nt (by assumption) (fun h9 => ?_) | refine Runs.nf (by assumption) (fun h9 => ?_) | refine CondP.ht (by assumption) (fun h9 => ?_) | refine CondP.hf (by assumption) (fun h9 => ?_) | refine CondP.nt (by assumption) (fun h9 => ?_) | refine CondP.nf (by assumption) (fun h9 => ?_)); (try simp only [h9]); clear h9)); (try simp (maxSteps := 9999999) (disch := omega) only [go_sem]); (try (refine And.intro ?_ ?_; (focus (first | omega | (simp only [go_sem]; done) | (simp; done) | (simp; omega) | assumption))))) | ((first | refine CondP.split (fun hif => ?_) (fun hif => ?_) | refine Runs.part (fun hif => ?_) (fun hif => ?_)) <;> ((try simp only [hif]); (try simp only [decide_eq_true_eq, decide_eq_false_iff_not, Bool.not_eq_true, Bool.not_eq_false, Bool.not_eq_true', Bool.not_eq_false', beq_iff_eq, bne_iff_ne, bne_eq_false_iff_eq, beq_eq_false_iff_ne, ne_eq, Bool.and_eq_true, Bool.or_eq_true, Bool.or_eq_false_iff] at hif); (try (have h9 : _ = true := hif; simp only [h9])); (try (have h9 : _ = false := hif; simp only [h9])); (try simp (maxSteps := 9999999) (disch := omega) only [go_sem]); (try (refine And.intro ?_ ?_; (focus (first | omega | (simp only [go_sem]; done) | (simp; done) | (simp; omega) | assumption)))); (try (exfalso; omega; done))))))
  all_goals
    (apply Ret.det []; (focus (first | exact .inl rfl | exact .inr rfl)); (focus (simp (maxSteps := 9999999) (disch := omega) only [go_sem]; rfl)); (simp (maxSteps := 9999999) (disch := omega) only [go_sem]; (try (repeat' (first | done | trivial | rfl | exact leAs_rfl _ | decide | (refine And.intro ?_ ?_) | (simp; done) | omega | (simp; decide))))))
    all_goals (simp_all [siteB]; try omega)
theorem later_any (a b : St) : ACall Try.prog 52 [StA a, StA b] [] (Det (Bo (laterB a b)) []) := by
  refine ACall.startA c52_ok Try.func52 rfl Try.ntmps52 (by kernel_rfl) res52_ok rfl rfl rfl ?_; simp (maxSteps := 9999999) (disch := omega) only [go_sem]
  (repeat' (first | refine AWpA.seq ?_ | refine AWpA.block ?_ | (with_reducible refine CondP.tt ?_) | (with_reducible refine CondP.ff ?_) | refine AWpA.condv (by simp (maxSteps := 9999999) (disch := omega) only [go_sem]; rfl) ?_ | ((first | (apply AWpA.region; (focus (simp (maxSteps := 9999999) (disch := omega) only [go_sem]; rfl))) | (apply AWpA.draw [] follows; (focus (simp (maxSteps := 9999999) (disch := omega) only [go_sem]; rfl)); (focus (simp (maxSteps := 9999999) (disch := omega) only [go_sem]; first | done | trivial)); (focus (simp (maxSteps := 9999999) (disch := omega) only [go_sem]; rfl))) | (apply TailK.go; (focus (simp (maxSteps := 9999999) (disch := omega) only [go_sem]; rfl))) | refine AWpA.skip ?_ | refine AWpA.exit ?_ | refine AWpA.ret ?_ | (with_reducible refine ARoundsA.succ ?_) | ((first | refine Runs.kt (by assumption) (fun h9 => ?_) | refine Runs.kf (by assumption) (fun h9 => ?_) | refine Runs.nt (by assumption) (fun h9 => ?_) | refine Runs.nf (by assumption) (fun h9 => ?_) | refine CondP.ht (by assumption) (fun h9 => ?_) | refine CondP.hf (by assumption) (fun h9 => ?_) | refine CondP.nt (by assumption) (fun h9 => ?_) | refine CondP.nf (by assumption) (fun h9 => ?_)); (try simp only [h9]); clear h9)); (try simp (maxSteps := 9999999) (disch := omega) only [go_sem]); (try (refine And.intro ?_ ?_; (focus (first | omega | (simp only [go_sem]; done) | (simp; done) | (simp; omega) | assumption))))) | ((first | refine CondP.split (fun hif => ?_) (fun hif => ?_) | refine Runs.part (fun hif => ?_) (fun hif => ?_)) <;> ((try simp only [hif]); (try simp only [decide_eq_true_eq, decide_eq_false_iff_not, Bool.not_eq_true, Bool.not_eq_false, Bool.not_eq_true', Bool.not_eq_false', beq_iff_eq, bne_iff_ne, bne_eq_false_iff_eq, beq_eq_false_iff_ne, ne_eq, Bool.and_eq_true, Bool.or_eq_true, Bool.or_eq_false_iff] at hif); (try (have h9 : _ = true := hif; simp only [h9])); (try (have h9 : _ = false := hif; simp only [h9])); (try simp (maxSteps := 9999999) (disch := omega) only [go_sem]); (try (refine And.intro ?_ ?_; (focus (first | omega | (simp only [go_sem]; done) | (simp; done) | (simp; omega) | assumption)))); (try (exfalso; omega; done))))))
  all_goals
    (apply Ret.det []; (focus (first | exact .inl rfl | exact .inr rfl)); (focus (simp (maxSteps := 9999999) (disch := omega) only [go_sem]; rfl)); (simp (maxSteps := 9999999) (disch := omega) only [go_sem]; (try (repeat' (first | done | trivial | rfl | exact leAs_rfl _ | decide | (refine And.intro ?_ ?_) | (simp; done) | omega | (simp; decide))))))
    all_goals (simp [laterB, *])
theorem of04_any (a : St) : ACall Try.prog 48 [StA a] [] (Det (StA a) []) := by
  refine ACall.startA c48_ok Try.func48 rfl Try.ntmps48 (by kernel_rfl) res48_ok rfl rfl rfl ?_; simp (maxSteps := 9999999) (disch := omega) only [go_sem]
  (repeat' (first | refine AWpA.seq ?_ | refine AWpA.block ?_ | (with_reducible refine CondP.tt ?_) | (with_reducible refine CondP.ff ?_) | refine AWpA.condv (by simp (maxSteps := 9999999) (disch := omega) only [go_sem]; rfl) ?_ | ((first | (apply AWpA.region; (focus (simp (maxSteps := 9999999) (disch := omega) only [go_sem]; rfl))) | (apply AWpA.draw [] follows; (focus (simp (maxSteps := 9999999) (disch := omega) only [go_sem]; rfl)); (focus (simp (maxSteps := 9999999) (disch := omega) only [go_sem]; first | done | trivial)); (focus (simp (maxSteps := 9999999) (disch := omega) only [go_sem]; rfl))) | (apply TailK.go; (focus (simp (maxSteps := 9999999) (disch := omega) only [go_sem]; rfl))) | refine AWpA.skip ?_ | refine AWpA.exit ?_ | refine AWpA.ret ?_ | (with_reducible refine ARoundsA.succ ?_) | ((first | refine Runs.kt (by assumption) (fun h9 => ?_) | refine Runs.kf (by assumption) (fun h9 => ?_) | refine Runs.nt (by assumption) (fun h9 => ?_) | refine Runs.nf (by assumption) (fun h9 => ?_) | refine CondP.ht (by assumption) (fun h9 => ?_) | refine CondP.hf (by assumption) (fun h9 => ?_) | refine CondP.nt (by assumption) (fun h9 => ?_) | refine CondP.nf (by assumption) (fun h9 => ?_)); (try simp only [h9]); clear h9)); (try simp (maxSteps := 9999999) (disch := omega) only [go_sem]); (try (refine And.intro ?_ ?_; (focus (first | omega | (simp only [go_sem]; done) | (simp; done) | (simp; omega) | assumption))))) | ((first | refine CondP.split (fun hif => ?_) (fun hif => ?_) | refine Runs.part (fun hif => ?_) (fun hif => ?_)) <;> ((try simp only [hif]); (try simp only [decide_eq_true_eq, decide_eq_false_iff_not, Bool.not_eq_true, Bool.not_eq_false, Bool.not_eq_true', Bool.not_eq_false', beq_iff_eq, bne_iff_ne, bne_eq_false_iff_eq, beq_eq_false_iff_ne, ne_eq, Bool.and_eq_true, Bool.or_eq_true, Bool.or_eq_false_iff] at hif); (try (have h9 : _ = true := hif; simp only [h9])); (try (have h9 : _ = false := hif; simp only [h9])); (try simp (maxSteps := 9999999) (disch := omega) only [go_sem]); (try (refine And.intro ?_ ?_; (focus (first | omega | (simp only [go_sem]; done) | (simp; done) | (simp; omega) | assumption)))); (try (exfalso; omega; done))))))
  all_goals
    (apply Ret.det []; (focus (first | exact .inl rfl | exact .inr rfl)); (focus (simp (maxSteps := 9999999) (disch := omega) only [go_sem]; rfl)); (simp (maxSteps := 9999999) (disch := omega) only [go_sem]; (try (repeat' (first | done | trivial | rfl | exact leAs_rfl _ | decide | (refine And.intro ?_ ?_) | (simp; done) | omega | (simp; decide))))))
theorem to04_any (a : St) : ACall Try.prog 99 [StA a] [] (Det (StA a) []) := by
  refine ACall.startA c99_ok Try.func99 rfl Try.ntmps99 (by kernel_rfl) res99_ok rfl rfl rfl ?_; simp (maxSteps := 9999999) (disch := omega) only [go_sem]
  (repeat' (first | refine AWpA.seq ?_ | refine AWpA.block ?_ | (with_reducible refine CondP.tt ?_) | (with_reducible refine CondP.ff ?_) | refine AWpA.condv (by simp (maxSteps := 9999999) (disch := omega) only [go_sem]; rfl) ?_ | ((first | (apply AWpA.region; (focus (simp (maxSteps := 9999999) (disch := omega) only [go_sem]; rfl))) | (apply AWpA.draw [] follows; (focus (simp (maxSteps := 9999999) (disch := omega) only [go_sem]; rfl)); (focus (simp (maxSteps := 9999999) (disch := omega) only [go_sem]; first | done | trivial)); (focus (simp (maxSteps := 9999999) (disch := omega) only [go_sem]; rfl))) | (apply TailK.go; (focus (simp (maxSteps := 9999999) (disch := omega) only [go_sem]; rfl))) | refine AWpA.skip ?_ | refine AWpA.exit ?_ | refine AWpA.ret ?_ | (with_reducible refine ARoundsA.succ ?_) | ((first | refine Runs.kt (by assumption) (fun h9 => ?_) | refine Runs.kf (by assumption) (fun h9 => ?_) | refine Runs.nt (by assumption) (fun h9 => ?_) | refine Runs.nf (by assumption) (fun h9 => ?_) | refine CondP.ht (by assumption) (fun h9 => ?_) | refine CondP.hf (by assumption) (fun h9 => ?_) | refine CondP.nt (by assumption) (fun h9 => ?_) | refine CondP.nf (by assumption) (fun h9 => ?_)); (try simp only [h9]); clear h9)); (try simp (maxSteps := 9999999) (disch := omega) only [go_sem]); (try (refine And.intro ?_ ?_; (focus (first | omega | (simp only [go_sem]; done) | (simp; done) | (simp; omega) | assumption))))) | ((first | refine CondP.split (fun hif => ?_) (fun hif => ?_) | refine Runs.part (fun hif => ?_) (fun hif => ?_)) <;> ((try simp only [hif]); (try simp only [decide_eq_true_eq, decide_eq_false_iff_not, Bool.not_eq_true, Bool.not_eq_false, Bool.not_eq_true', Bool.not_eq_false', beq_iff_eq, bne_iff_ne, bne_eq_false_iff_eq, beq_eq_false_iff_ne, ne_eq, Bool.and_eq_true, Bool.or_eq_true, Bool.or_eq_false_iff] at hif); (try (have h9 : _ = true := hif; simp only [h9])); (try (have h9 : _ = false := hif; simp only [h9])); (try simp (maxSteps := 9999999) (disch := omega) only [go_sem]); (try (refine And.intro ?_ ?_; (focus (first | omega | (simp only [go_sem]; done) | (simp; done) | (simp; omega) | assumption)))); (try (exfalso; omega; done))))))
  all_goals
    (apply Ret.det []; (focus (first | exact .inl rfl | exact .inr rfl)); (focus (simp (maxSteps := 9999999) (disch := omega) only [go_sem]; rfl)); (simp (maxSteps := 9999999) (disch := omega) only [go_sem]; (try (repeat' (first | done | trivial | rfl | exact leAs_rfl _ | decide | (refine And.intro ?_ ?_) | (simp; done) | omega | (simp; decide))))))
theorem rgood_any (s : St) : ACall Try.prog 53 [StA s] [] (Det (Bo (goodB s)) []) := by
  refine ACall.startA c53_ok Try.func53 rfl Try.ntmps53 (by kernel_rfl) res53_ok rfl rfl rfl ?_; simp (maxSteps := 9999999) (disch := omega) only [go_sem]
  (repeat' (first | refine AWpA.seq ?_ | refine AWpA.block ?_ | (with_reducible refine CondP.tt ?_) | (with_reducible refine CondP.ff ?_) | refine AWpA.condv (by simp (maxSteps := 9999999) (disch := omega) only [go_sem]; rfl) ?_ | ((first | (apply AWpA.region; (focus (simp (maxSteps := 9999999) (disch := omega) only [go_sem]; rfl))) | (apply AWpA.draw [] follows; (focus (simp (maxSteps := 9999999) (disch := omega) only [go_sem]; rfl)); (focus (simp (maxSteps := 9999999) (disch := omega) only [go_sem]; first | done | trivial)); (focus (simp (maxSteps := 9999999) (disch := omega) only [go_sem]; rfl))) | (apply TailK.go; (focus (simp (maxSteps := 9999999) (disch := omega) only [go_sem]; rfl))) | refine AWpA.skip ?_ | refine AWpA.exit ?_ | refine AWpA.ret ?_ | (with_reducible refine ARoundsA.succ ?_) | ((first | refine Runs.kt (by assumption) (fun h9 => ?_) | refine Runs.kf (by assumption) (fun h9 => ?_) | refine Runs.nt (by assumption) (fun h9 => ?_) | refine Runs.nf (by assumption) (fun h9 => ?_) | refine CondP.ht (by assumption) (fun h9 => ?_) | refine CondP.hf (by assumption) (fun h9 => ?_) | refine CondP.nt (by assumption) (fun h9 => ?_) | refine CondP.nf (by assumption) (fun h9 => ?_)); (try simp only [h9]); clear h9) | ((first | (with_reducible apply CallG.plain1 [] (site_any _)) | (with_reducible apply CallG.draw1 [] (site_any _))); (focus ((try refine And.intro (leAs_of_eq rfl) ?_); (try refine And.intro (leOL_of_eq rfl) ?_); simp (maxSteps := 9999999) (disch := omega) only [go_sem]; first | done | (repeat' (first | rfl | (refine And.intro ?_ ?_))))); (focus (simp (maxSteps := 9999999) (disch := omega) only [go_sem]; rfl)))); (try simp (maxSteps := 9999999) (disch := omega) only [go_sem]); (try (refine And.intro ?_ ?_; (focus (first | omega | (simp only [go_sem]; done) | (simp; done) | (simp; omega) | assumption))))) | ((first | refine CondP.split (fun hif => ?_) (fun hif => ?_) | refine Runs.part (fun hif => ?_) (fun hif => ?_)) <;> ((try simp only [hif]); (try simp only [decide_eq_true_eq, decide_eq_false_iff_not, Bool.not_eq_true, Bool.not_eq_false, Bool.not_eq_true', Bool.not_eq_false', beq_iff_eq, bne_iff_ne, bne_eq_false_iff_eq, beq_eq_false_iff_ne, ne_eq, Bool.and_eq_true, Bool.or_eq_true, Bool.or_eq_false_iff] at hif); (try (have h9 : _ = true := hif; simp only [h9])); (try (have h9 : _ = false := hif; simp only [h9])); (try simp (maxSteps := 9999999) (disch := omega) only [go_sem]); (try (refine And.intro ?_ ?_; (focus (first | omega | (simp only [go_sem]; done) | (simp; done) | (simp; omega) | assumption)))); (try (exfalso; omega; done))))))
  all_goals
    (apply Ret.det []; (focus (first | exact .inl rfl | exact .inr rfl)); (focus (simp (maxSteps := 9999999) (disch := omega) only [go_sem]; rfl)); (simp (maxSteps := 9999999) (disch := omega) only [go_sem]; (try (repeat' (first | done | trivial | rfl | exact leAs_rfl _ | decide | (refine And.intro ?_ ?_) | (simp; done) | omega | (simp; decide))))))
    all_goals (simp_all [goodB, siteB]; try omega)
theorem good_any (s : St) : ACall Try.prog 97 [StA s] [] (Det (Bo (goodB s)) []) := by
  refine ACall.startA c97_ok Try.func97 rfl Try.ntmps97 (by kernel_rfl) res97_ok rfl rfl rfl ?_; simp (maxSteps := 9999999) (disch := omega) only [go_sem]
  (repeat' (first | refine AWpA.seq ?_ | refine AWpA.block ?_ | (with_reducible refine CondP.tt ?_) | (with_reducible refine CondP.ff ?_) | refine AWpA.condv (by simp (maxSteps := 9999999) (disch := omega) only [go_sem]; rfl) ?_ | ((first | (apply AWpA.region; (focus (simp (maxSteps := 9999999) (disch := omega) only [go_sem]; rfl))) | (apply AWpA.draw [] follows; (focus (simp (maxSteps := 9999999) (disch := omega) only [go_sem]; rfl)); (focus (simp (maxSteps := 9999999) (disch := omega) only [go_sem]; first | done | trivial)); (focus (simp (maxSteps := 9999999) (disch := omega) only [go_sem]; rfl))) | (apply TailK.go; (focus (simp (maxSteps := 9999999) (disch := omega) only [go_sem]; rfl))) | refine AWpA.skip ?_ | refine AWpA.exit ?_ | refine AWpA.ret ?_ | (with_reducible refine ARoundsA.succ ?_) | ((first | refine Runs.kt (by assumption) (fun h9 => ?_) | refine Runs.kf (by assumption) (fun h9 => ?_) | refine Runs.nt (by assumption) (fun h9 => ?_) | refine Runs.nf (by assumption) (fun h9 => ?_) | refine CondP.ht (by assumption) (fun h9 => ?_) | refine CondP.hf (by assumption) (fun h9 => ?_) | refine CondP.nt (by assumption) (fun h9 => ?_) | refine CondP.nf (by assumption) (fun h9 => ?_)); (try simp only [h9]); clear h9) | ((first | (with_reducible apply CallG.plain1 [] (site_any _)) | (with_reducible apply CallG.draw1 [] (site_any _))); (focus ((try refine And.intro (leAs_of_eq rfl) ?_); (try refine And.intro (leOL_of_eq rfl) ?_); simp (maxSteps := 9999999) (disch := omega) only [go_sem]; first | done | (repeat' (first | rfl | (refine And.intro ?_ ?_))))); (focus (simp (maxSteps := 9999999) (disch := omega) only [go_sem]; rfl)))); (try simp (maxSteps := 9999999) (disch := omega) only [go_sem]); (try (refine And.intro ?_ ?_; (focus (first | omega | (simp only [go_sem]; done) | (simp; done) | (simp; omega) | assumption))))) | ((first | refine CondP.split (fun hif => ?_) (fun hif => ?_) | refine Runs.part (fun hif => ?_) (fun hif => ?_)) <;> ((try simp only [hif]); (try simp only [decide_eq_true_eq, decide_eq_false_iff_not, Bool.not_eq_true, Bool.not_eq_false, Bool.not_eq_true', Bool.not_eq_false', beq_iff_eq, bne_iff_ne, bne_eq_false_iff_eq, beq_eq_false_iff_ne, ne_eq, Bool.and_eq_true, Bool.or_eq_true, Bool.or_eq_false_iff] at hif); (try (have h9 : _ = true := hif; simp only [h9])); (try (have h9 : _ = false := hif; simp only [h9])); (try simp (maxSteps := 9999999) (disch := omega) only [go_sem]); (try (refine And.intro ?_ ?_; (focus (first | omega | (simp only [go_sem]; done) | (simp; done) | (simp; omega) | assumption)))); (try (exfalso; omega; done))))))
  all_goals
    (apply Ret.det []; (focus (first | exact .inl rfl | exact .inr rfl)); (focus (simp (maxSteps := 9999999) (disch := omega) only [go_sem]; rfl)); (simp (maxSteps := 9999999) (disch := omega) only [go_sem]; (try (repeat' (first | done | trivial | rfl | exact leAs_rfl _ | decide | (refine And.intro ?_ ?_) | (simp; done) | omega | (simp; decide))))))
    all_goals (simp_all [goodB]; try omega)
/- cmp.Or[int] -/
noncomputable def c111_1 : ACode := .region false [⟨some 2, .move, [.c (.val (.int .i64 0))], none⟩] [] [] [0] false [] []
noncomputable def c111_3 : ACode := .region false [⟨some 3, .move, [.c (.val (.int .i64 0))], none⟩] [] [] [0, 3] false [] []
noncomputable def c111_6 : ACode := .region false [⟨some 6, .move, [.t 0], none⟩,
  ⟨some 7, .len, [.t 6], none⟩,
  ⟨some 8, .move, [.c (.val (.int .i64 0))], none⟩] [] [] [3, 6, 7, 8] false [] []
noncomputable def c111_10 : ACode := .region false [⟨some 9, .bin .lss, [.t 8, .t 7], none⟩] [] [] [3, 6, 7, 8, 9] false [] []
noncomputable def c111_12 : ACode := .cond (.t 9) .skip (.exit 0)
noncomputable def c111_16 : ACode := .region false [⟨some 10, .ixS 1, [.t 6, .t 8], none⟩,
  ⟨some 11, .load false 1, [.t 10], none⟩,
  ⟨some 5, .move, [.t 11], none⟩] [] [] [3, 5, 6, 7, 8] false [] []
noncomputable def c111_18 : ACode := .region false [⟨some 12, .move, [.t 5], none⟩,
  ⟨some 13, .move, [.t 3], none⟩,
  ⟨some 14, .bin .neq, [.t 12, .t 13], none⟩] [] [] [3, 5, 6, 7, 8, 14] false [] []
noncomputable def c111_21 : ACode := .region false [⟨some 15, .move, [.t 5], none⟩,
  ⟨some 2, .move, [.t 15], none⟩] [] [] [2] false [] []
noncomputable def c111_20 : ACode := .seq c111_21 .ret
noncomputable def c111_19 : ACode := .cond (.t 14) c111_20 .skip
noncomputable def c111_17 : ACode := .seq c111_18 c111_19
noncomputable def c111_15 : ACode := .seq c111_16 c111_17
noncomputable def c111_14 : ACode := .block 1 c111_15
noncomputable def c111_22 : ACode := .region false [⟨some 16, .bin .add, [.t 8, .c (.val (.int .i64 1))], none⟩,
  ⟨some 8, .move, [.t 16], none⟩] [] [] [3, 6, 7, 8] false [] []
noncomputable def c111_13 : ACode := .seq c111_14 c111_22
noncomputable def c111_11 : ACode := .seq c111_12 c111_13
noncomputable def c111_9 : ACode := .seq c111_10 c111_11
noncomputable def c111_8 : ACode := .loop c111_9
noncomputable def c111_7 : ACode := .block 0 c111_8
noncomputable def c111_5 : ACode := .seq c111_6 c111_7
noncomputable def c111_24 : ACode := .region false [⟨some 17, .move, [.t 3], none⟩,
  ⟨some 2, .move, [.t 17], none⟩] [] [] [2] false [] []
noncomputable def c111_23 : ACode := .seq c111_24 .ret
noncomputable def c111_4 : ACode := .seq c111_5 c111_23
noncomputable def c111_2 : ACode := .seq c111_3 c111_4
noncomputable def c111_0 : ACode := .seq c111_1 c111_2
noncomputable def code111 : Code := (Try.f111.body).getD .skip
theorem c111_ok : compC Try.prog 18 code111 = some (strip c111_0) := by kernel_rfl
theorem res111_ok : Try.f111.results.toList.mapM (resC Try.prog) = some [(2, none)] := by kernel_rfl
/- quidnunc/stamp.Compare -/
noncomputable def c98_1 : ACode := .region false [⟨some 2, .box 0, [.t 0], none⟩,
  ⟨some 3, .box 0, [.t 1], none⟩,
  ⟨some 4, .move, [.c (.val (.int .i64 0))], none⟩] [] [] [2, 3] true [] []
noncomputable def c98_3 : ACode := .region true [⟨some 5, .addr 0, [.t 2], none⟩,
  ⟨some 6, .load false 1, [.t 5], none⟩,
  ⟨some 7, .addr 0, [.t 3], none⟩,
  ⟨some 8, .load false 1, [.t 7], none⟩,
  ⟨some 9, .call 112, [.t 6, .t 8], none⟩,
  ⟨some 10, .addr 1, [.t 2], none⟩,
  ⟨some 11, .load false 1, [.t 10], none⟩,
  ⟨some 12, .addr 1, [.t 3], none⟩,
  ⟨some 13, .load false 1, [.t 12], none⟩,
  ⟨some 14, .call 112, [.t 11, .t 13], none⟩,
  ⟨some 15, .buildSl 1 2 [(.int .i64 0)] [(0, 1), (1, 1)], [.t 9, .t 14], none⟩,
  ⟨some 16, .call 111, [.t 15], none⟩,
  ⟨some 4, .move, [.t 16], none⟩] [] [] [4] true [] []
noncomputable def c98_2 : ACode := .seq c98_3 .ret
noncomputable def c98_0 : ACode := .seq c98_1 c98_2
noncomputable def code98 : Code := (Try.f98.body).getD .skip
theorem c98_ok : compC Try.prog 17 code98 = some (strip c98_0) := by kernel_rfl
theorem res98_ok : Try.f98.results.toList.mapM (resC Try.prog) = some [(4, none)] := by kernel_rfl
def orI (x y : Int) : Int := if x = 0 then y else x
theorem or_any (a b : Int) : ACall Try.prog 111 [.sl 0 0 2 1 (some 2)] [.cells true [I a, I b]] (Det (I (orI a b)) [.cells true [I a, I b]]) := by
  refine ACall.startA c111_ok Try.func111 rfl Try.ntmps111 (by kernel_rfl) res111_ok rfl rfl rfl ?_; simp (maxSteps := 9999999) (disch := omega) only [go_sem]
  (repeat' (first | refine AWpA.seq ?_ | refine AWpA.block ?_ | (with_reducible refine CondP.tt ?_) | (with_reducible refine CondP.ff ?_) | refine AWpA.condv (by simp (maxSteps := 9999999) (disch := omega) only [go_sem]; rfl) ?_ | ((first | (apply AWpA.region; (focus (simp (maxSteps := 9999999) (disch := omega) only [go_sem]; rfl))) | (apply AWpA.draw [] follows; (focus (simp (maxSteps := 9999999) (disch := omega) only [go_sem]; rfl)); (focus (simp (maxSteps := 9999999) (disch := omega) only [go_sem]; first | done | trivial)); (focus (simp (maxSteps := 9999999) (disch := omega) only [go_sem]; rfl))) | (apply TailK.go; (focus (simp (maxSteps := 9999999) (disch := omega) only [go_sem]; rfl))) | refine AWpA.skip ?_ | refine AWpA.exit ?_ | refine AWpA.ret ?_ | (with_reducible refine ARoundsA.succ ?_) | ((first | refine Runs.kt (by assumption) (fun h9 => ?_) | refine Runs.kf (by assumption) (fun h9 => ?_) | refine Runs.nt (by assumption) (fun h9 => ?_) | refine Runs.nf (by assumption) (fun h9 => ?_) | refine CondP.ht (by assumption) (fun h9 => ?_) | refine CondP.hf (by assumption) (fun h9 => ?_) | refine CondP.nt (by assumption) (fun h9 => ?_) | refine CondP.nf (by assumption) (fun h9 => ?_)); (try simp only [h9]); clear h9)); (try simp (maxSteps := 9999999) (disch := omega) only [go_sem]); (try (refine And.intro ?_ ?_; (focus (first | omega | (simp only [go_sem]; done) | (simp; done) | (simp; omega) | assumption))))) | ((first | refine CondP.split (fun hif => ?_) (fun hif => ?_) | refine Runs.part (fun hif => ?_) (fun hif => ?_)) <;> ((try simp only [hif]); (try simp only [decide_eq_true_eq, decide_eq_false_iff_not, Bool.not_eq_true, Bool.not_eq_false, Bool.not_eq_true', Bool.not_eq_false', beq_iff_eq, bne_iff_ne, bne_eq_false_iff_eq, beq_eq_false_iff_ne, ne_eq, Bool.and_eq_true, Bool.or_eq_true, Bool.or_eq_false_iff] at hif); (try (have h9 : _ = true := hif; simp only [h9])); (try (have h9 : _ = false := hif; simp only [h9])); (try simp (maxSteps := 9999999) (disch := omega) only [go_sem]); (try (refine And.intro ?_ ?_; (focus (first | omega | (simp only [go_sem]; done) | (simp; done) | (simp; omega) | assumption)))); (try (exfalso; omega; done))))))
  refine AWpA.rounds 3 ?_
  (repeat' (first | refine AWpA.seq ?_ | refine AWpA.block ?_ | (with_reducible refine CondP.tt ?_) | (with_reducible refine CondP.ff ?_) | refine AWpA.condv (by simp (maxSteps := 9999999) (disch := omega) only [go_sem]; rfl) ?_ | ((first | (apply AWpA.region; (focus (simp (maxSteps := 9999999) (disch := omega) only [go_sem]; rfl))) | (apply AWpA.draw [] follows; (focus (simp (maxSteps := 9999999) (disch := omega) only [go_sem]; rfl)); (focus (simp (maxSteps := 9999999) (disch := omega) only [go_sem]; first | done | trivial)); (focus (simp (maxSteps := 9999999) (disch := omega) only [go_sem]; rfl))) | (apply TailK.go; (focus (simp (maxSteps := 9999999) (disch := omega) only [go_sem]; rfl))) | refine AWpA.skip ?_ | refine AWpA.exit ?_ | refine AWpA.ret ?_ | (with_reducible refine ARoundsA.succ ?_) | ((first | refine Runs.kt (by assumption) (fun h9 => ?_) | refine Runs.kf (by assumption) (fun h9 => ?_) | refine Runs.nt (by assumption) (fun h9 => ?_) | refine Runs.nf (by assumption) (fun h9 => ?_) | refine CondP.ht (by assumption) (fun h9 => ?_) | refine CondP.hf (by assumption) (fun h9 => ?_) | refine CondP.nt (by assumption) (fun h9 => ?_) | refine CondP.nf (by assumption) (fun h9 => ?_)); (try simp only [h9]); clear h9)); (try simp (maxSteps := 9999999) (disch := omega) only [go_sem]); (try (refine And.intro ?_ ?_; (focus (first | omega | (simp only [go_sem]; done) | (simp; done) | (simp; omega) | assumption))))) | ((first | refine CondP.split (fun hif => ?_) (fun hif => ?_) | refine Runs.part (fun hif => ?_) (fun hif => ?_)) <;> ((try simp only [hif]); (try simp only [decide_eq_true_eq, decide_eq_false_iff_not, Bool.not_eq_true, Bool.not_eq_false, Bool.not_eq_true', Bool.not_eq_false', beq_iff_eq, bne_iff_ne, bne_eq_false_iff_eq, beq_eq_false_iff_ne, ne_eq, Bool.and_eq_true, Bool.or_eq_true, Bool.or_eq_false_iff] at hif); (try (have h9 : _ = true := hif; simp only [h9])); (try (have h9 : _ = false := hif; simp only [h9])); (try simp (maxSteps := 9999999) (disch := omega) only [go_sem]); (try (refine And.intro ?_ ?_; (focus (first | omega | (simp only [go_sem]; done) | (simp; done) | (simp; omega) | assumption)))); (try (exfalso; omega; done))))))
  all_goals
    (apply Ret.det [0]; (focus (first | exact .inl rfl | exact .inr rfl)); (focus (simp (maxSteps := 9999999) (disch := omega) only [go_sem]; rfl)); (simp (maxSteps := 9999999) (disch := omega) only [go_sem]; (try (repeat' (first | done | trivial | rfl | exact leAs_rfl _ | decide | (refine And.intro ?_ ?_) | (simp; done) | omega | (simp; decide))))))
    all_goals (simp_all [orI])
def cmpS (a b : St) : Int := orI (cmpI a.c b.c) (cmpI a.s b.s)
theorem compare_any (a b : St) : ACall Try.prog 98 [StA a, StA b] [] (Det (I (cmpS a b)) []) := by
  refine ACall.startA c98_ok Try.func98 rfl Try.ntmps98 (by kernel_rfl) res98_ok rfl rfl rfl ?_; simp (maxSteps := 9999999) (disch := omega) only [go_sem]
  (repeat' (first | refine AWpA.seq ?_ | refine AWpA.block ?_ | (with_reducible refine CondP.tt ?_) | (with_reducible refine CondP.ff ?_) | refine AWpA.condv (by simp (maxSteps := 9999999) (disch := omega) only [go_sem]; rfl) ?_ | ((first | (apply AWpA.region; (focus (simp (maxSteps := 9999999) (disch := omega) only [go_sem]; rfl))) | (apply AWpA.draw [] follows; (focus (simp (maxSteps := 9999999) (disch := omega) only [go_sem]; rfl)); (focus (simp (maxSteps := 9999999) (disch := omega) only [go_sem]; first | done | trivial)); (focus (simp (maxSteps := 9999999) (disch := omega) only [go_sem]; rfl))) | (apply TailK.go; (focus (simp (maxSteps := 9999999) (disch := omega) only [go_sem]; rfl))) | refine AWpA.skip ?_ | refine AWpA.exit ?_ | refine AWpA.ret ?_ | (with_reducible refine ARoundsA.succ ?_) | ((first | refine Runs.kt (by assumption) (fun h9 => ?_) | refine Runs.kf (by assumption) (fun h9 => ?_) | refine Runs.nt (by assumption) (fun h9 => ?_) | refine Runs.nf (by assumption) (fun h9 => ?_) | refine CondP.ht (by assumption) (fun h9 => ?_) | refine CondP.hf (by assumption) (fun h9 => ?_) | refine CondP.nt (by assumption) (fun h9 => ?_) | refine CondP.nf (by assumption) (fun h9 => ?_)); (try simp only [h9]); clear h9) | ((first | (with_reducible apply CallG.plain1 [] (cmp_any _ _)) | (with_reducible apply CallG.plain1 [_] (or_any _ _)) | (with_reducible apply CallG.draw1 [] (cmp_any _ _)) | (with_reducible apply CallG.draw1 [_] (or_any _ _))); (focus ((try refine And.intro (leAs_of_eq rfl) ?_); (try refine And.intro (leOL_of_eq rfl) ?_); simp (maxSteps := 9999999) (disch := omega) only [go_sem]; first | done | (repeat' (first | rfl | (refine And.intro ?_ ?_))))); (focus (simp (maxSteps := 9999999) (disch := omega) only [go_sem]; rfl)))); (try simp (maxSteps := 9999999) (disch := omega) only [go_sem]); (try (refine And.intro ?_ ?_; (focus (first | omega | (simp only [go_sem]; done) | (simp; done) | (simp; omega) | assumption))))) | ((first | refine CondP.split (fun hif => ?_) (fun hif => ?_) | refine Runs.part (fun hif => ?_) (fun hif => ?_)) <;> ((try simp only [hif]); (try simp only [decide_eq_true_eq, decide_eq_false_iff_not, Bool.not_eq_true, Bool.not_eq_false, Bool.not_eq_true', Bool.not_eq_false', beq_iff_eq, bne_iff_ne, bne_eq_false_iff_eq, beq_eq_false_iff_ne, ne_eq, Bool.and_eq_true, Bool.or_eq_true, Bool.or_eq_false_iff] at hif); (try (have h9 : _ = true := hif; simp only [h9])); (try (have h9 : _ = false := hif; simp only [h9])); (try simp (maxSteps := 9999999) (disch := omega) only [go_sem]); (try (refine And.intro ?_ ?_; (focus (first | omega | (simp only [go_sem]; done) | (simp; done) | (simp; omega) | assumption)))); (try (exfalso; omega; done))))))
  all_goals
    (apply Ret.det []; (focus (first | exact .inl rfl | exact .inr rfl)); (focus (simp (maxSteps := 9999999) (disch := omega) only [go_sem]; rfl)); (simp (maxSteps := 9999999) (disch := omega) only [go_sem]; (try (repeat' (first | done | trivial | rfl | exact leAs_rfl _ | decide | (refine And.intro ?_ ?_) | (simp; done) | omega | (simp; decide))))))
    all_goals (simp [cmpS])
abbrev nilP : AV := .val (.pointer none)
end Go.Proofs.Yteggjhihpjjloaa
