/- Contracts: the document's Steps, rounds, Roomy, Bound, Long. -/
import Derived.Test.YtkdikmfnchmphaaAs5
namespace Go.Proofs.Ytkdikmfnchmphaa
set_option linter.unusedSimpArgs false
set_option linter.unusedVariables false
set_option maxHeartbeats 4000000
open Go Go.Am Go.RowKit Go.Setup
set_option maxRecDepth 100000
/- quidnunc/quidnuncref13.Steps -/
noncomputable def c45_1 : ACode := .region false [⟨some 1, .box 0, [.t 0], none⟩,
  ⟨some 2, .move, [.c (.val (.int .i64 0))], none⟩] [] [] [1] true [] []
noncomputable def c45_4 : ACode := .region false [⟨some 5, .load true 20, [.t 1], none⟩,
  ⟨some 6, .call 29, [.t 5], none⟩,
  ⟨some 7, .un .not, [.t 6], none⟩] [] [] [1, 7] true [] []
noncomputable def c45_7 : ACode := .region false [⟨some 2, .move, [.c (.val (.int .i64 0))], none⟩] [] [] [2] false [] []
noncomputable def c45_6 : ACode := .seq c45_7 .ret
noncomputable def c45_5 : ACode := .cond (.t 7) c45_6 .skip
noncomputable def c45_3 : ACode := .seq c45_4 c45_5
noncomputable def c45_9 : ACode := .region false [⟨some 8, .ixA 20 1, [.t 1, .c (.val (.int .i64 0))], none⟩,
  ⟨some 9, .load false 1, [.t 8], none⟩,
  ⟨some 10, .ixA 20 1, [.t 1, .c (.val (.int .i64 0))], none⟩,
  ⟨some 11, .load false 1, [.t 10], none⟩,
  ⟨some 12, .bin .mul, [.t 9, .t 11], none⟩,
  ⟨some 13, .ixA 20 1, [.t 1, .c (.val (.int .i64 1))], none⟩,
  ⟨some 14, .load false 1, [.t 13], none⟩,
  ⟨some 15, .bin .mul, [.t 12, .t 14], none⟩,
  ⟨some 3, .move, [.t 15], none⟩] [] [] [1, 3] false [] []
noncomputable def c45_11 : ACode := .region false [⟨some 4, .move, [.c (.val (.int .i64 0))], none⟩] [] [] [1, 3, 4] false [] []
noncomputable def c45_17 : ACode := .region false [⟨some 16, .move, [.t 4], none⟩,
  ⟨some 17, .ixA 20 1, [.t 1, .c (.val (.int .i64 17))], none⟩,
  ⟨some 18, .load false 1, [.t 17], none⟩,
  ⟨some 19, .bin .mul, [.t 16, .t 18], none⟩,
  ⟨some 20, .move, [.t 3], none⟩,
  ⟨some 21, .bin .lss, [.t 19, .t 20], none⟩] [] [] [1, 3, 4, 21] false [] []
noncomputable def c45_18 : ACode := .cond (.t 21) .skip (.exit 0)
noncomputable def c45_16 : ACode := .seq c45_17 c45_18
noncomputable def c45_20 : ACode := .region false [⟨some 22, .move, [.t 4], none⟩,
  ⟨some 23, .bin .add, [.t 22, .c (.val (.int .i64 1))], none⟩,
  ⟨some 4, .move, [.t 23], none⟩] [] [] [1, 3, 4] false [] []
noncomputable def c45_19 : ACode := .block 1 c45_20
noncomputable def c45_15 : ACode := .seq c45_16 c45_19
noncomputable def c45_14 : ACode := .loop c45_15
noncomputable def c45_13 : ACode := .block 0 c45_14
noncomputable def c45_22 : ACode := .region false [⟨some 24, .move, [.t 4], none⟩,
  ⟨some 25, .ixA 20 1, [.t 1, .c (.val (.int .i64 19))], none⟩,
  ⟨some 26, .load false 1, [.t 25], none⟩,
  ⟨some 27, .bin .add, [.t 24, .t 26], none⟩,
  ⟨some 28, .bin .add, [.t 27, .c (.val (.int .i64 2))], none⟩,
  ⟨some 2, .move, [.t 28], none⟩] [] [] [2] false [] []
noncomputable def c45_21 : ACode := .seq c45_22 .ret
noncomputable def c45_12 : ACode := .seq c45_13 c45_21
noncomputable def c45_10 : ACode := .seq c45_11 c45_12
noncomputable def c45_8 : ACode := .seq c45_9 c45_10
noncomputable def c45_2 : ACode := .seq c45_3 c45_8
noncomputable def c45_0 : ACode := .seq c45_1 c45_2
noncomputable def code45 : Code := (Try.f45.body).getD .skip
theorem c45_ok : compC Try.prog 29 code45 = some (strip c45_0) := by kernel_rfl
theorem res45_ok : Try.f45.results.toList.mapM (resC Try.prog) = some [(2, none)] := by kernel_rfl
/- quidnunc/quidnuncref13.rounds -/
noncomputable def c72_1 : ACode := .region false [⟨some 1, .box 0, [.t 0], none⟩,
  ⟨some 2, .move, [.c (.val (.int .i64 0))], none⟩] [] [] [1] true [] []
noncomputable def c72_3 : ACode := .region false [⟨some 5, .load true 20, [.t 1], none⟩,
  ⟨some 6, .call 45, [.t 5], none⟩,
  ⟨some 7, .bin .mul, [.c (.val (.int .i64 2)), .t 6], none⟩,
  ⟨some 8, .bin .add, [.t 7, .c (.val (.int .i64 5))], none⟩,
  ⟨some 3, .move, [.t 8], none⟩] [] [] [1, 3] true [] []
noncomputable def c72_5 : ACode := .region false [⟨some 9, .ixA 20 1, [.t 1, .c (.val (.int .i64 0))], none⟩,
  ⟨some 10, .load false 1, [.t 9], none⟩,
  ⟨some 11, .bin .sub, [.t 10, .c (.val (.int .i64 1))], none⟩,
  ⟨some 4, .move, [.t 11], none⟩] [] [] [1, 3, 4] false [] []
noncomputable def c72_7 : ACode := .region false [⟨some 12, .move, [.t 4], none⟩,
  ⟨some 13, .move, [.t 4], none⟩,
  ⟨some 14, .bin .mul, [.t 12, .t 13], none⟩,
  ⟨some 15, .ixA 20 1, [.t 1, .c (.val (.int .i64 18))], none⟩,
  ⟨some 16, .load false 1, [.t 15], none⟩,
  ⟨some 17, .bin .add, [.t 16, .c (.val (.int .i64 2))], none⟩,
  ⟨some 18, .bin .mul, [.t 14, .t 17], none⟩,
  ⟨some 19, .move, [.t 3], none⟩,
  ⟨some 20, .bin .add, [.t 19, .c (.val (.int .i64 1))], none⟩,
  ⟨some 21, .bin .mul, [.t 18, .t 20], none⟩,
  ⟨some 22, .bin .add, [.c (.val (.int .i64 2)), .t 21], none⟩,
  ⟨some 2, .move, [.t 22], none⟩] [] [] [2] false [] []
noncomputable def c72_6 : ACode := .seq c72_7 .ret
noncomputable def c72_4 : ACode := .seq c72_5 c72_6
noncomputable def c72_2 : ACode := .seq c72_3 c72_4
noncomputable def c72_0 : ACode := .seq c72_1 c72_2
noncomputable def code72 : Code := (Try.f72.body).getD .skip
theorem c72_ok : compC Try.prog 23 code72 = some (strip c72_0) := by kernel_rfl
theorem res72_ok : Try.f72.results.toList.mapM (resC Try.prog) = some [(2, none)] := by kernel_rfl
/- quidnunc/quidnuncref13.Roomy -/
noncomputable def c44_1 : ACode := .region false [⟨some 1, .box 0, [.t 0], none⟩,
  ⟨some 2, .move, [.c (.val (.bool false))], none⟩] [] [] [1] true [] []
noncomputable def c44_3 : ACode := .region false [⟨some 3, .load true 20, [.t 1], none⟩,
  ⟨some 4, .call 29, [.t 3], none⟩,
  ⟨some 5, .move, [.t 4], none⟩,
  ⟨some 6, .ixA 20 1, [.t 1, .c (.val (.int .i64 6))], some (some 5, true)⟩,
  ⟨some 7, .load false 1, [.t 6], some (some 5, true)⟩,
  ⟨some 8, .ixA 20 1, [.t 1, .c (.val (.int .i64 0))], some (some 5, true)⟩,
  ⟨some 9, .load false 1, [.t 8], some (some 5, true)⟩,
  ⟨some 10, .bin .sub, [.t 9, .c (.val (.int .i64 1))], some (some 5, true)⟩,
  ⟨some 11, .bin .geq, [.t 7, .t 10], some (some 5, true)⟩,
  ⟨some 12, .pick, [.t 5, .t 11, .c (.val (.bool false))], none⟩,
  ⟨some 2, .move, [.t 12], none⟩] [] [] [2] true [] []
noncomputable def c44_2 : ACode := .seq c44_3 .ret
noncomputable def c44_0 : ACode := .seq c44_1 c44_2
noncomputable def code44 : Code := (Try.f44.body).getD .skip
theorem c44_ok : compC Try.prog 13 code44 = some (strip c44_0) := by kernel_rfl
theorem res44_ok : Try.f44.results.toList.mapM (resC Try.prog) = some [(2, none)] := by kernel_rfl
/- quidnunc/quidnuncref13.Bound -/
noncomputable def c40_1 : ACode := .region false [⟨some 1, .box 0, [.t 0], none⟩,
  ⟨some 2, .move, [.c (.val (.int .i64 0))], none⟩,
  ⟨some 3, .move, [.c (.val (.bool false))], none⟩] [] [] [1] true [] []
noncomputable def c40_4 : ACode := .region false [⟨some 4, .load true 20, [.t 1], none⟩,
  ⟨some 5, .call 44, [.t 4], none⟩,
  ⟨some 6, .un .not, [.t 5], none⟩,
  ⟨some 7, .move, [.t 6], none⟩,
  ⟨some 8, .ixA 20 1, [.t 1, .c (.val (.int .i64 3))], some (some 7, false)⟩,
  ⟨some 9, .load false 1, [.t 8], some (some 7, false)⟩,
  ⟨some 10, .bin .neq, [.t 9, .c (.val (.int .i64 0))], some (some 7, false)⟩,
  ⟨some 11, .pick, [.t 7, .c (.val (.bool true)), .t 10], none⟩] [] [] [1, 11] true [] []
noncomputable def c40_7 : ACode := .region false [⟨some 2, .move, [.c (.val (.int .i64 0))], none⟩,
  ⟨some 3, .move, [.c (.val (.bool false))], none⟩] [] [] [2, 3] false [] []
noncomputable def c40_6 : ACode := .seq c40_7 .ret
noncomputable def c40_5 : ACode := .cond (.t 11) c40_6 .skip
noncomputable def c40_3 : ACode := .seq c40_4 c40_5
noncomputable def c40_9 : ACode := .region false [⟨some 12, .load true 20, [.t 1], none⟩,
  ⟨some 13, .call 72, [.t 12], none⟩,
  ⟨some 2, .move, [.t 13], none⟩,
  ⟨some 3, .move, [.c (.val (.bool true))], none⟩] [] [] [2, 3] true [] []
noncomputable def c40_8 : ACode := .seq c40_9 .ret
noncomputable def c40_2 : ACode := .seq c40_3 c40_8
noncomputable def c40_0 : ACode := .seq c40_1 c40_2
noncomputable def code40 : Code := (Try.f40.body).getD .skip
theorem c40_ok : compC Try.prog 14 code40 = some (strip c40_0) := by kernel_rfl
theorem res40_ok : Try.f40.results.toList.mapM (resC Try.prog) = some [(2, none), (3, none)] := by kernel_rfl
/- quidnunc/quidnuncref13.Long -/
noncomputable def c42_1 : ACode := .region false [⟨some 1, .box 0, [.t 0], none⟩,
  ⟨some 2, .move, [.c (.val (.int .i64 0))], none⟩,
  ⟨some 3, .move, [.c (.val (.bool false))], none⟩] [] [] [1] true [] []
noncomputable def c42_4 : ACode := .region true [⟨some 4, .load true 20, [.t 1], none⟩,
  ⟨some 5, .call 44, [.t 4], none⟩,
  ⟨some 6, .un .not, [.t 5], none⟩,
  ⟨some 7, .move, [.t 6], none⟩,
  ⟨some 8, .ixA 20 1, [.t 1, .c (.val (.int .i64 3))], some (some 7, false)⟩,
  ⟨some 9, .load false 1, [.t 8], some (some 7, false)⟩,
  ⟨some 10, .bin .eql, [.t 9, .c (.val (.int .i64 0))], some (some 7, false)⟩,
  ⟨some 11, .pick, [.t 7, .c (.val (.bool true)), .t 10], none⟩,
  ⟨some 12, .move, [.t 11], none⟩,
  ⟨some 13, .ixA 20 1, [.t 1, .c (.val (.int .i64 3))], some (some 12, false)⟩,
  ⟨some 14, .load false 1, [.t 13], some (some 12, false)⟩,
  ⟨some 15, .load true 20, [.t 1], some (some 12, false)⟩,
  ⟨some 16, .call 72, [.t 15], some (some 12, false)⟩,
  ⟨some 17, .bin .mul, [.c (.val (.int .i64 2)), .t 16], some (some 12, false)⟩,
  ⟨some 18, .bin .add, [.t 17, .c (.val (.int .i64 4))], some (some 12, false)⟩,
  ⟨some 19, .bin .lss, [.t 14, .t 18], some (some 12, false)⟩,
  ⟨some 20, .pick, [.t 12, .c (.val (.bool true)), .t 19], none⟩] [] [] [1, 20] true [] []
noncomputable def c42_7 : ACode := .region false [⟨some 2, .move, [.c (.val (.int .i64 0))], none⟩,
  ⟨some 3, .move, [.c (.val (.bool false))], none⟩] [] [] [2, 3] false [] []
noncomputable def c42_6 : ACode := .seq c42_7 .ret
noncomputable def c42_5 : ACode := .cond (.t 20) c42_6 .skip
noncomputable def c42_3 : ACode := .seq c42_4 c42_5
noncomputable def c42_9 : ACode := .region false [⟨some 21, .load true 20, [.t 1], none⟩,
  ⟨some 22, .call 72, [.t 21], none⟩,
  ⟨some 23, .bin .mul, [.c (.val (.int .i64 4)), .t 22], none⟩,
  ⟨some 24, .bin .add, [.t 23, .c (.val (.int .i64 4))], none⟩,
  ⟨some 2, .move, [.t 24], none⟩,
  ⟨some 3, .move, [.c (.val (.bool true))], none⟩] [] [] [2, 3] true [] []
noncomputable def c42_8 : ACode := .seq c42_9 .ret
noncomputable def c42_2 : ACode := .seq c42_3 c42_8
noncomputable def c42_0 : ACode := .seq c42_1 c42_2
noncomputable def code42 : Code := (Try.f42.body).getD .skip
theorem c42_ok : compC Try.prog 25 code42 = some (strip c42_0) := by kernel_rfl
theorem res42_ok : Try.f42.results.toList.mapM (resC Try.prog) = some [(2, none), (3, none)] := by kernel_rfl
theorem rsteps_any (l : List Int) (hl : l.length = 20) : ACall Try.prog 45 [.agg (cI l)] [] (Det (I (steps l)) []) := by
  have hc := cI_len l
  have ht := cI_take hl
  have hr := rright_any l hl
  cases h : right l
  · have e : steps l = 0 := by simp [steps, h]
    rw [h] at hr
    refine ACall.startA c45_ok Try.func45 rfl Try.ntmps45 (by kernel_rfl) res45_ok rfl rfl rfl ?_; simp (maxSteps := 9999999) (disch := omega) only [go_sem]
    (repeat' (first | refine AWpA.seq ?_ | refine AWpA.block ?_ | (with_reducible refine CondP.tt ?_) | (with_reducible refine CondP.ff ?_) | refine AWpA.condv (by simp (maxSteps := 9999999) (disch := omega) only [go_sem, cI_ren, hc, hl, ht]; rfl) ?_ | ((first | (apply AWpA.region; (focus (simp (maxSteps := 9999999) (disch := omega) only [go_sem, cI_ren, hc, hl, ht]; rfl))) | (apply AWpA.draw [] follows; (focus (simp (maxSteps := 9999999) (disch := omega) only [go_sem, cI_ren, hc, hl, ht]; rfl)); (focus (simp (maxSteps := 9999999) (disch := omega) only [go_sem, cI_ren, hc, hl, ht]; first | done | trivial)); (focus (simp (maxSteps := 9999999) (disch := omega) only [go_sem, cI_ren, hc, hl, ht]; rfl))) | (apply TailK.go; (focus (simp (maxSteps := 9999999) (disch := omega) only [go_sem, cI_ren, hc, hl, ht]; rfl))) | refine AWpA.skip ?_ | refine AWpA.exit ?_ | refine AWpA.ret ?_ | (with_reducible refine ARoundsA.succ ?_) | ((first | refine Runs.kt (by assumption) (fun h9 => ?_) | refine Runs.kf (by assumption) (fun h9 => ?_) | refine Runs.nt (by assumption) (fun h9 => ?_) | refine Runs.nf (by assumption) (fun h9 => ?_) | refine CondP.ht (by assumption) (fun h9 => ?_) | refine CondP.hf (by assumption) (fun h9 => ?_) | refine CondP.nt (by assumption) (fun h9 => ?_) | refine CondP.nf (by assumption) (fun h9 => ?_)); (try simp only [h9]); clear h9) | ((first | (with_reducible apply CallG.plain1 [] (hr)) | (with_reducible apply CallG.draw1 [] (hr))); (focus ((try refine And.intro (leAs_of_eq rfl) ?_); (try refine And.intro (leOL_of_eq rfl) ?_); simp (maxSteps := 9999999) (disch := omega) only [go_sem, cI_ren, hc, hl, ht]; first | done | (repeat' (first | rfl | (refine And.intro ?_ ?_))))); (focus (simp (maxSteps := 9999999) (disch := omega) only [go_sem, cI_ren, hc, hl, ht]; rfl)))); (try simp (maxSteps := 9999999) (disch := omega) only [go_sem, cI_ren, hc, hl, ht]); (try (refine And.intro ?_ ?_; (focus (first | omega | (simp only [go_sem]; done) | (simp; done) | (simp; omega) | assumption))))) | ((first | refine CondP.split (fun hif => ?_) (fun hif => ?_) | refine Runs.part (fun hif => ?_) (fun hif => ?_)) <;> ((try simp only [hif]); (try simp only [decide_eq_true_eq, decide_eq_false_iff_not, Bool.not_eq_true, Bool.not_eq_false, Bool.not_eq_true', Bool.not_eq_false', beq_iff_eq, bne_iff_ne, bne_eq_false_iff_eq, beq_eq_false_iff_ne, ne_eq, Bool.and_eq_true, Bool.or_eq_true, Bool.or_eq_false_iff] at hif); (try (have h9 : _ = true := hif; simp only [h9])); (try (have h9 : _ = false := hif; simp only [h9])); (try simp (maxSteps := 9999999) (disch := omega) only [go_sem, cI_ren, hc, hl, ht]); (try (refine And.intro ?_ ?_; (focus (first | omega | (simp only [go_sem]; done) | (simp; done) | (simp; omega) | assumption)))); (try (exfalso; omega; done))))))
    (apply Ret.det []; (focus (first | exact .inl rfl | exact .inr rfl)); (focus (simp (maxSteps := 9999999) (disch := omega) only [go_sem, e]; rfl)); (simp (maxSteps := 9999999) (disch := omega) only [go_sem, e]; (try (repeat' (first | done | trivial | rfl | exact leAs_rfl _ | decide | (refine And.intro ?_ ?_) | (simp; done) | omega | (simp; decide))))))
  · have e : steps l = quo l + l.getD 19 0 + 2 := by simp [steps, h]
    have b := right_bd h
    have h1 := nnq_bd b
    have h3 := b.c
    have h4 := b.k
    rw [h] at hr
    have g0 := cI_get (l := l) (k := 0) (by omega)
    have g1 := cI_get (l := l) (k := 1) (by omega)
    have g17 := cI_get (l := l) (k := 17) (by omega)
    have g19 := cI_get (l := l) (k := 19) (by omega)
    have eq : quo l = (l.getD 0 0 * l.getD 0 0 * l.getD 1 0 + l.getD 17 0 - 1).tdiv (l.getD 17 0) := rfl
    rw [e, eq]
    generalize l.getD 0 0 = x0 at *
    generalize l.getD 1 0 = x1 at *
    generalize l.getD 17 0 = x17 at *
    generalize l.getD 19 0 = x19 at *
    clear e eq
    obtain ⟨h1a, h1b⟩ := h1
    refine ACall.startA c45_ok Try.func45 rfl Try.ntmps45 (by kernel_rfl) res45_ok rfl rfl rfl ?_; simp (maxSteps := 9999999) (disch := omega) only [go_sem]
    (repeat' (first | refine AWpA.seq ?_ | refine AWpA.block ?_ | (with_reducible refine CondP.tt ?_) | (with_reducible refine CondP.ff ?_) | refine AWpA.condv (by simp (maxSteps := 9999999) (disch := omega) only [go_sem, cI_ren, hc, hl, ht, g0, g1]; rfl) ?_ | ((first | (apply AWpA.region; (focus (simp (maxSteps := 9999999) (disch := omega) only [go_sem, cI_ren, hc, hl, ht, g0, g1]; rfl))) | (apply AWpA.draw [] follows; (focus (simp (maxSteps := 9999999) (disch := omega) only [go_sem, cI_ren, hc, hl, ht, g0, g1]; rfl)); (focus (simp (maxSteps := 9999999) (disch := omega) only [go_sem, cI_ren, hc, hl, ht, g0, g1]; first | done | trivial)); (focus (simp (maxSteps := 9999999) (disch := omega) only [go_sem, cI_ren, hc, hl, ht, g0, g1]; rfl))) | (apply TailK.go; (focus (simp (maxSteps := 9999999) (disch := omega) only [go_sem, cI_ren, hc, hl, ht, g0, g1]; rfl))) | refine AWpA.skip ?_ | refine AWpA.exit ?_ | refine AWpA.ret ?_ | (with_reducible refine ARoundsA.succ ?_) | ((first | refine Runs.kt (by assumption) (fun h9 => ?_) | refine Runs.kf (by assumption) (fun h9 => ?_) | refine Runs.nt (by assumption) (fun h9 => ?_) | refine Runs.nf (by assumption) (fun h9 => ?_) | refine CondP.ht (by assumption) (fun h9 => ?_) | refine CondP.hf (by assumption) (fun h9 => ?_) | refine CondP.nt (by assumption) (fun h9 => ?_) | refine CondP.nf (by assumption) (fun h9 => ?_)); (try simp only [h9]); clear h9) | ((first | (with_reducible apply CallG.plain1 [] (hr)) | (with_reducible apply CallG.draw1 [] (hr))); (focus ((try refine And.intro (leAs_of_eq rfl) ?_); (try refine And.intro (leOL_of_eq rfl) ?_); simp (maxSteps := 9999999) (disch := omega) only [go_sem, cI_ren, hc, hl, ht, g0, g1]; first | done | (repeat' (first | rfl | (refine And.intro ?_ ?_))))); (focus (simp (maxSteps := 9999999) (disch := omega) only [go_sem, cI_ren, hc, hl, ht, g0, g1]; rfl)))); (try simp (maxSteps := 9999999) (disch := omega) only [go_sem, cI_ren, hc, hl, ht, g0, g1]); (try (refine And.intro ?_ ?_; (focus (first | omega | (simp only [go_sem]; done) | (simp; done) | (simp; omega) | assumption))))) | ((first | refine CondP.split (fun hif => ?_) (fun hif => ?_) | refine Runs.part (fun hif => ?_) (fun hif => ?_)) <;> ((try simp only [hif]); (try simp only [decide_eq_true_eq, decide_eq_false_iff_not, Bool.not_eq_true, Bool.not_eq_false, Bool.not_eq_true', Bool.not_eq_false', beq_iff_eq, bne_iff_ne, bne_eq_false_iff_eq, beq_eq_false_iff_ne, ne_eq, Bool.and_eq_true, Bool.or_eq_true, Bool.or_eq_false_iff] at hif); (try (have h9 : _ = true := hif; simp only [h9])); (try (have h9 : _ = false := hif; simp only [h9])); (try simp (maxSteps := 9999999) (disch := omega) only [go_sem, cI_ren, hc, hl, ht, g0, g1]); (try (refine And.intro ?_ ?_; (focus (first | omega | (simp only [go_sem]; done) | (simp; done) | (simp; omega) | assumption)))); (try (exfalso; omega; done))))))
    generalize x0 * x0 * x1 = n at *
    (apply AWpA.loopL (fun s : Nat => [(1, .ptr 0 0), (3, I n), (4, I s)]) (fun s => [.cells false (cI l)]) (fun s => 2304 - s) (fun s => s ≤ 2304 ∧ (s = 0 ∨ ((s : Int) - 1) * x17 < n)) (0) [0]; rotate_left; (focus (simp (maxSteps := 9999999) (disch := omega) only [go_sem, cI_ren]; (try (repeat' (first | done | trivial | rfl | exact leAs_rfl _ | decide | (refine And.intro ?_ ?_) | (simp; done) | omega | (simp; decide)))))); rotate_right)
    · exact ⟨Nat.zero_le _, .inl rfl⟩
    rintro s ⟨hs, hp⟩
    (try simp only at hs hp)
    have hm := mul_bd (a := (s : Int)) (b := x17) (A := 2304) (B := 8) (by omega) (by omega) (by omega) (by omega)
    by_cases hlt : (s : Int) * x17 < n
    · have q1 : ((s : Int) * x17 < n) = True := eq_true hlt
      have hs2 : s < 2304 := by
        have h7 : (s : Int) * 1 ≤ (s : Int) * x17 := Int.mul_le_mul_of_nonneg_left h3.1 (Int.natCast_nonneg s)
        omega
      (try simp (maxSteps := 9999999) (disch := omega) only [go_sem])
      (repeat' (first | refine AWpA.seq ?_ | refine AWpA.block ?_ | (with_reducible refine CondP.tt ?_) | (with_reducible refine CondP.ff ?_) | refine AWpA.condv (by simp (maxSteps := 9999999) (disch := omega) only [go_sem, cI_ren, hc, hl, g17, q1]; rfl) ?_ | ((first | (apply AWpA.region; (focus (simp (maxSteps := 9999999) (disch := omega) only [go_sem, cI_ren, hc, hl, g17, q1]; rfl))) | (apply AWpA.draw [] follows; (focus (simp (maxSteps := 9999999) (disch := omega) only [go_sem, cI_ren, hc, hl, g17, q1]; rfl)); (focus (simp (maxSteps := 9999999) (disch := omega) only [go_sem, cI_ren, hc, hl, g17, q1]; first | done | trivial)); (focus (simp (maxSteps := 9999999) (disch := omega) only [go_sem, cI_ren, hc, hl, g17, q1]; rfl))) | (apply TailK.go; (focus (simp (maxSteps := 9999999) (disch := omega) only [go_sem, cI_ren, hc, hl, g17, q1]; rfl))) | refine AWpA.skip ?_ | refine AWpA.exit ?_ | refine AWpA.ret ?_ | (with_reducible refine ARoundsA.succ ?_) | ((first | refine Runs.kt (by assumption) (fun h9 => ?_) | refine Runs.kf (by assumption) (fun h9 => ?_) | refine Runs.nt (by assumption) (fun h9 => ?_) | refine Runs.nf (by assumption) (fun h9 => ?_) | refine CondP.ht (by assumption) (fun h9 => ?_) | refine CondP.hf (by assumption) (fun h9 => ?_) | refine CondP.nt (by assumption) (fun h9 => ?_) | refine CondP.nf (by assumption) (fun h9 => ?_)); (try simp only [h9]); clear h9)); (try simp (maxSteps := 9999999) (disch := omega) only [go_sem, cI_ren, hc, hl, g17, q1]); (try (refine And.intro ?_ ?_; (focus (first | omega | (simp only [go_sem]; done) | (simp; done) | (simp; omega) | assumption))))) | ((first | refine CondP.split (fun hif => ?_) (fun hif => ?_) | refine Runs.part (fun hif => ?_) (fun hif => ?_)) <;> ((try simp only [hif]); (try simp only [decide_eq_true_eq, decide_eq_false_iff_not, Bool.not_eq_true, Bool.not_eq_false, Bool.not_eq_true', Bool.not_eq_false', beq_iff_eq, bne_iff_ne, bne_eq_false_iff_eq, beq_eq_false_iff_ne, ne_eq, Bool.and_eq_true, Bool.or_eq_true, Bool.or_eq_false_iff] at hif); (try (have h9 : _ = true := hif; simp only [h9])); (try (have h9 : _ = false := hif; simp only [h9])); (try simp (maxSteps := 9999999) (disch := omega) only [go_sem, cI_ren, hc, hl, g17, q1]); (try (refine And.intro ?_ ?_; (focus (first | omega | (simp only [go_sem]; done) | (simp; done) | (simp; omega) | assumption)))); (try (exfalso; omega; done))))))
      (apply Back.to (s + 1) [0]; (focus ((try simp (maxSteps := 9999999) (disch := omega) only [go_sem, cI_ren]); first | done | omega)); rotate_left; (focus (simp (maxSteps := 9999999) (disch := omega) only [go_sem, cI_ren]; (try (repeat' (first | done | trivial | rfl | exact leAs_rfl _ | decide | (refine And.intro ?_ ?_) | (simp; done) | omega | (simp; decide)))))))
      exact ⟨by omega, .inr (by rw [show ((s + 1 : Nat) : Int) - 1 = (s : Int) by omega]; exact hlt)⟩
    · have q1 : ((s : Int) * x17 < n) = False := eq_false hlt
      have q3 : (s : Int) = 0 ∨ ((s : Int) - 1) * x17 < n := hp.imp (fun h => by omega) id
      have q2 := quo_ceil (n := n) (c := x17) (s := (s : Int)) h1b.1 h3 (by omega) (by omega) q3
      rw [q2]
      (try simp (maxSteps := 9999999) (disch := omega) only [go_sem])
      (repeat' (first | refine AWpA.seq ?_ | refine AWpA.block ?_ | (with_reducible refine CondP.tt ?_) | (with_reducible refine CondP.ff ?_) | refine AWpA.condv (by simp (maxSteps := 9999999) (disch := omega) only [go_sem, cI_ren, hc, hl, g17, g19, q1]; rfl) ?_ | ((first | (apply AWpA.region; (focus (simp (maxSteps := 9999999) (disch := omega) only [go_sem, cI_ren, hc, hl, g17, g19, q1]; rfl))) | (apply AWpA.draw [] follows; (focus (simp (maxSteps := 9999999) (disch := omega) only [go_sem, cI_ren, hc, hl, g17, g19, q1]; rfl)); (focus (simp (maxSteps := 9999999) (disch := omega) only [go_sem, cI_ren, hc, hl, g17, g19, q1]; first | done | trivial)); (focus (simp (maxSteps := 9999999) (disch := omega) only [go_sem, cI_ren, hc, hl, g17, g19, q1]; rfl))) | (apply TailK.go; (focus (simp (maxSteps := 9999999) (disch := omega) only [go_sem, cI_ren, hc, hl, g17, g19, q1]; rfl))) | refine AWpA.skip ?_ | refine AWpA.exit ?_ | refine AWpA.ret ?_ | (with_reducible refine ARoundsA.succ ?_) | ((first | refine Runs.kt (by assumption) (fun h9 => ?_) | refine Runs.kf (by assumption) (fun h9 => ?_) | refine Runs.nt (by assumption) (fun h9 => ?_) | refine Runs.nf (by assumption) (fun h9 => ?_) | refine CondP.ht (by assumption) (fun h9 => ?_) | refine CondP.hf (by assumption) (fun h9 => ?_) | refine CondP.nt (by assumption) (fun h9 => ?_) | refine CondP.nf (by assumption) (fun h9 => ?_)); (try simp only [h9]); clear h9)); (try simp (maxSteps := 9999999) (disch := omega) only [go_sem, cI_ren, hc, hl, g17, g19, q1]); (try (refine And.intro ?_ ?_; (focus (first | omega | (simp only [go_sem]; done) | (simp; done) | (simp; omega) | assumption))))) | ((first | refine CondP.split (fun hif => ?_) (fun hif => ?_) | refine Runs.part (fun hif => ?_) (fun hif => ?_)) <;> ((try simp only [hif]); (try simp only [decide_eq_true_eq, decide_eq_false_iff_not, Bool.not_eq_true, Bool.not_eq_false, Bool.not_eq_true', Bool.not_eq_false', beq_iff_eq, bne_iff_ne, bne_eq_false_iff_eq, beq_eq_false_iff_ne, ne_eq, Bool.and_eq_true, Bool.or_eq_true, Bool.or_eq_false_iff] at hif); (try (have h9 : _ = true := hif; simp only [h9])); (try (have h9 : _ = false := hif; simp only [h9])); (try simp (maxSteps := 9999999) (disch := omega) only [go_sem, cI_ren, hc, hl, g17, g19, q1]); (try (refine And.intro ?_ ?_; (focus (first | omega | (simp only [go_sem]; done) | (simp; done) | (simp; omega) | assumption)))); (try (exfalso; omega; done))))))
      (apply Ret.det []; (focus (first | exact .inl rfl | exact .inr rfl)); (focus (simp (maxSteps := 9999999) (disch := omega) only [go_sem]; rfl)); (simp (maxSteps := 9999999) (disch := omega) only [go_sem]; (try (repeat' (first | done | trivial | rfl | exact leAs_rfl _ | decide | (refine And.intro ?_ ?_) | (simp; done) | omega | (simp; decide))))))
theorem rrounds_any (l : List Int) (hl : l.length = 20) (h : right l = true) : ACall Try.prog 72 [.agg (cI l)] [] (Det (I (rounds l)) []) := by
  have hc := cI_len l
  have ht := cI_take hl
  have hr := rsteps_any l hl
  have h1 := steps_bd l
  obtain ⟨h2, h3, h4⟩ := rounds_bd h
  have b := right_bd h
  have h5 := b.n
  have h6 := b.f
  have g0 := cI_get (l := l) (k := 0) (by omega)
  have g18 := cI_get (l := l) (k := 18) (by omega)
  have e : rounds l = 2 + (l.getD 0 0 - 1) * (l.getD 0 0 - 1) * (l.getD 18 0 + 2) * (2 * steps l + 5 + 1) := rfl
  generalize rounds l = r at *
  generalize steps l = s at *
  generalize l.getD 0 0 = x0 at *
  generalize l.getD 18 0 = x18 at *
  refine ACall.startA c72_ok Try.func72 rfl Try.ntmps72 (by kernel_rfl) res72_ok rfl rfl rfl ?_; simp (maxSteps := 9999999) (disch := omega) only [go_sem]
  (repeat' (first | refine AWpA.seq ?_ | refine AWpA.block ?_ | (with_reducible refine CondP.tt ?_) | (with_reducible refine CondP.ff ?_) | refine AWpA.condv (by simp (maxSteps := 9999999) (disch := omega) only [go_sem, cI_ren, hc, hl, ht, g0, g18]; rfl) ?_ | ((first | (apply AWpA.region; (focus (simp (maxSteps := 9999999) (disch := omega) only [go_sem, cI_ren, hc, hl, ht, g0, g18]; rfl))) | (apply AWpA.draw [] follows; (focus (simp (maxSteps := 9999999) (disch := omega) only [go_sem, cI_ren, hc, hl, ht, g0, g18]; rfl)); (focus (simp (maxSteps := 9999999) (disch := omega) only [go_sem, cI_ren, hc, hl, ht, g0, g18]; first | done | trivial)); (focus (simp (maxSteps := 9999999) (disch := omega) only [go_sem, cI_ren, hc, hl, ht, g0, g18]; rfl))) | (apply TailK.go; (focus (simp (maxSteps := 9999999) (disch := omega) only [go_sem, cI_ren, hc, hl, ht, g0, g18]; rfl))) | refine AWpA.skip ?_ | refine AWpA.exit ?_ | refine AWpA.ret ?_ | (with_reducible refine ARoundsA.succ ?_) | ((first | refine Runs.kt (by assumption) (fun h9 => ?_) | refine Runs.kf (by assumption) (fun h9 => ?_) | refine Runs.nt (by assumption) (fun h9 => ?_) | refine Runs.nf (by assumption) (fun h9 => ?_) | refine CondP.ht (by assumption) (fun h9 => ?_) | refine CondP.hf (by assumption) (fun h9 => ?_) | refine CondP.nt (by assumption) (fun h9 => ?_) | refine CondP.nf (by assumption) (fun h9 => ?_)); (try simp only [h9]); clear h9) | ((first | (with_reducible apply CallG.plain1 [] (hr)) | (with_reducible apply CallG.draw1 [] (hr))); (focus ((try refine And.intro (leAs_of_eq rfl) ?_); (try refine And.intro (leOL_of_eq rfl) ?_); simp (maxSteps := 9999999) (disch := omega) only [go_sem, cI_ren, hc, hl, ht, g0, g18]; first | done | (repeat' (first | rfl | (refine And.intro ?_ ?_))))); (focus (simp (maxSteps := 9999999) (disch := omega) only [go_sem, cI_ren, hc, hl, ht, g0, g18]; rfl)))); (try simp (maxSteps := 9999999) (disch := omega) only [go_sem, cI_ren, hc, hl, ht, g0, g18]); (try (refine And.intro ?_ ?_; (focus (first | omega | (simp only [go_sem]; done) | (simp; done) | (simp; omega) | assumption))))) | ((first | refine CondP.split (fun hif => ?_) (fun hif => ?_) | refine Runs.part (fun hif => ?_) (fun hif => ?_)) <;> ((try simp only [hif]); (try simp only [decide_eq_true_eq, decide_eq_false_iff_not, Bool.not_eq_true, Bool.not_eq_false, Bool.not_eq_true', Bool.not_eq_false', beq_iff_eq, bne_iff_ne, bne_eq_false_iff_eq, beq_eq_false_iff_ne, ne_eq, Bool.and_eq_true, Bool.or_eq_true, Bool.or_eq_false_iff] at hif); (try (have h9 : _ = true := hif; simp only [h9])); (try (have h9 : _ = false := hif; simp only [h9])); (try simp (maxSteps := 9999999) (disch := omega) only [go_sem, cI_ren, hc, hl, ht, g0, g18]); (try (refine And.intro ?_ ?_; (focus (first | omega | (simp only [go_sem]; done) | (simp; done) | (simp; omega) | assumption)))); (try (exfalso; omega; done))))))
  (apply Ret.det []; (focus (first | exact .inl rfl | exact .inr rfl)); (focus (simp (maxSteps := 9999999) (disch := omega) only [go_sem, e]; rfl)); (simp (maxSteps := 9999999) (disch := omega) only [go_sem, e]; (try (repeat' (first | done | trivial | rfl | exact leAs_rfl _ | decide | (refine And.intro ?_ ?_) | (simp; done) | omega | (simp; decide))))))
theorem rroomy_any (l : List Int) (hl : l.length = 20) : ACall Try.prog 44 [.agg (cI l)] [] (Det (Bo (roomy l)) []) := by
  have hc := cI_len l
  have ht := cI_take hl
  have hr := rright_any l hl
  have g0 := cI_get (l := l) (k := 0) (by omega)
  have g6 := cI_get (l := l) (k := 6) (by omega)
  cases h : right l
  · have e : roomy l = false := by simp [roomy, h]
    rw [h] at hr
    refine ACall.startA c44_ok Try.func44 rfl Try.ntmps44 (by kernel_rfl) res44_ok rfl rfl rfl ?_; simp (maxSteps := 9999999) (disch := omega) only [go_sem]
    (repeat' (first | refine AWpA.seq ?_ | refine AWpA.block ?_ | (with_reducible refine CondP.tt ?_) | (with_reducible refine CondP.ff ?_) | refine AWpA.condv (by simp (maxSteps := 9999999) (disch := omega) only [go_sem, cI_ren, hc, hl, ht]; rfl) ?_ | ((first | (apply AWpA.region; (focus (simp (maxSteps := 9999999) (disch := omega) only [go_sem, cI_ren, hc, hl, ht]; rfl))) | (apply AWpA.draw [] follows; (focus (simp (maxSteps := 9999999) (disch := omega) only [go_sem, cI_ren, hc, hl, ht]; rfl)); (focus (simp (maxSteps := 9999999) (disch := omega) only [go_sem, cI_ren, hc, hl, ht]; first | done | trivial)); (focus (simp (maxSteps := 9999999) (disch := omega) only [go_sem, cI_ren, hc, hl, ht]; rfl))) | (apply TailK.go; (focus (simp (maxSteps := 9999999) (disch := omega) only [go_sem, cI_ren, hc, hl, ht]; rfl))) | refine AWpA.skip ?_ | refine AWpA.exit ?_ | refine AWpA.ret ?_ | (with_reducible refine ARoundsA.succ ?_) | ((first | refine Runs.kt (by assumption) (fun h9 => ?_) | refine Runs.kf (by assumption) (fun h9 => ?_) | refine Runs.nt (by assumption) (fun h9 => ?_) | refine Runs.nf (by assumption) (fun h9 => ?_) | refine CondP.ht (by assumption) (fun h9 => ?_) | refine CondP.hf (by assumption) (fun h9 => ?_) | refine CondP.nt (by assumption) (fun h9 => ?_) | refine CondP.nf (by assumption) (fun h9 => ?_)); (try simp only [h9]); clear h9) | ((first | (with_reducible apply CallG.plain1 [] (hr)) | (with_reducible apply CallG.draw1 [] (hr))); (focus ((try refine And.intro (leAs_of_eq rfl) ?_); (try refine And.intro (leOL_of_eq rfl) ?_); simp (maxSteps := 9999999) (disch := omega) only [go_sem, cI_ren, hc, hl, ht]; first | done | (repeat' (first | rfl | (refine And.intro ?_ ?_))))); (focus (simp (maxSteps := 9999999) (disch := omega) only [go_sem, cI_ren, hc, hl, ht]; rfl)))); (try simp (maxSteps := 9999999) (disch := omega) only [go_sem, cI_ren, hc, hl, ht]); (try (refine And.intro ?_ ?_; (focus (first | omega | (simp only [go_sem]; done) | (simp; done) | (simp; omega) | assumption))))) | ((first | refine CondP.split (fun hif => ?_) (fun hif => ?_) | refine Runs.part (fun hif => ?_) (fun hif => ?_)) <;> ((try simp only [hif]); (try simp only [decide_eq_true_eq, decide_eq_false_iff_not, Bool.not_eq_true, Bool.not_eq_false, Bool.not_eq_true', Bool.not_eq_false', beq_iff_eq, bne_iff_ne, bne_eq_false_iff_eq, beq_eq_false_iff_ne, ne_eq, Bool.and_eq_true, Bool.or_eq_true, Bool.or_eq_false_iff] at hif); (try (have h9 : _ = true := hif; simp only [h9])); (try (have h9 : _ = false := hif; simp only [h9])); (try simp (maxSteps := 9999999) (disch := omega) only [go_sem, cI_ren, hc, hl, ht]); (try (refine And.intro ?_ ?_; (focus (first | omega | (simp only [go_sem]; done) | (simp; done) | (simp; omega) | assumption)))); (try (exfalso; omega; done))))))
    (apply Ret.det []; (focus (first | exact .inl rfl | exact .inr rfl)); (focus (simp (maxSteps := 9999999) (disch := omega) only [go_sem, e]; rfl)); (simp (maxSteps := 9999999) (disch := omega) only [go_sem, e]; (try (repeat' (first | done | trivial | rfl | exact leAs_rfl _ | decide | (refine And.intro ?_ ?_) | (simp; done) | omega | (simp; decide))))))
  · have e : roomy l = decide (l.getD 0 0 - 1 ≤ l.getD 6 0) := by simp [roomy, h]
    have b := (right_bd h).n
    rw [h] at hr
    rw [e]
    generalize l.getD 0 0 = x0 at *
    generalize l.getD 6 0 = x6 at *
    refine ACall.startA c44_ok Try.func44 rfl Try.ntmps44 (by kernel_rfl) res44_ok rfl rfl rfl ?_; simp (maxSteps := 9999999) (disch := omega) only [go_sem]
    (repeat' (first | refine AWpA.seq ?_ | refine AWpA.block ?_ | (with_reducible refine CondP.tt ?_) | (with_reducible refine CondP.ff ?_) | refine AWpA.condv (by simp (maxSteps := 9999999) (disch := omega) only [go_sem, cI_ren, hc, hl, ht, g0, g6]; rfl) ?_ | ((first | (apply AWpA.region; (focus (simp (maxSteps := 9999999) (disch := omega) only [go_sem, cI_ren, hc, hl, ht, g0, g6]; rfl))) | (apply AWpA.draw [] follows; (focus (simp (maxSteps := 9999999) (disch := omega) only [go_sem, cI_ren, hc, hl, ht, g0, g6]; rfl)); (focus (simp (maxSteps := 9999999) (disch := omega) only [go_sem, cI_ren, hc, hl, ht, g0, g6]; first | done | trivial)); (focus (simp (maxSteps := 9999999) (disch := omega) only [go_sem, cI_ren, hc, hl, ht, g0, g6]; rfl))) | (apply TailK.go; (focus (simp (maxSteps := 9999999) (disch := omega) only [go_sem, cI_ren, hc, hl, ht, g0, g6]; rfl))) | refine AWpA.skip ?_ | refine AWpA.exit ?_ | refine AWpA.ret ?_ | (with_reducible refine ARoundsA.succ ?_) | ((first | refine Runs.kt (by assumption) (fun h9 => ?_) | refine Runs.kf (by assumption) (fun h9 => ?_) | refine Runs.nt (by assumption) (fun h9 => ?_) | refine Runs.nf (by assumption) (fun h9 => ?_) | refine CondP.ht (by assumption) (fun h9 => ?_) | refine CondP.hf (by assumption) (fun h9 => ?_) | refine CondP.nt (by assumption) (fun h9 => ?_) | refine CondP.nf (by assumption) (fun h9 => ?_)); (try simp only [h9]); clear h9) | ((first | (with_reducible apply CallG.plain1 [] (hr)) | (with_reducible apply CallG.draw1 [] (hr))); (focus ((try refine And.intro (leAs_of_eq rfl) ?_); (try refine And.intro (leOL_of_eq rfl) ?_); simp (maxSteps := 9999999) (disch := omega) only [go_sem, cI_ren, hc, hl, ht, g0, g6]; first | done | (repeat' (first | rfl | (refine And.intro ?_ ?_))))); (focus (simp (maxSteps := 9999999) (disch := omega) only [go_sem, cI_ren, hc, hl, ht, g0, g6]; rfl)))); (try simp (maxSteps := 9999999) (disch := omega) only [go_sem, cI_ren, hc, hl, ht, g0, g6]); (try (refine And.intro ?_ ?_; (focus (first | omega | (simp only [go_sem]; done) | (simp; done) | (simp; omega) | assumption))))) | ((first | refine CondP.split (fun hif => ?_) (fun hif => ?_) | refine Runs.part (fun hif => ?_) (fun hif => ?_)) <;> ((try simp only [hif]); (try simp only [decide_eq_true_eq, decide_eq_false_iff_not, Bool.not_eq_true, Bool.not_eq_false, Bool.not_eq_true', Bool.not_eq_false', beq_iff_eq, bne_iff_ne, bne_eq_false_iff_eq, beq_eq_false_iff_ne, ne_eq, Bool.and_eq_true, Bool.or_eq_true, Bool.or_eq_false_iff] at hif); (try (have h9 : _ = true := hif; simp only [h9])); (try (have h9 : _ = false := hif; simp only [h9])); (try simp (maxSteps := 9999999) (disch := omega) only [go_sem, cI_ren, hc, hl, ht, g0, g6]); (try (refine And.intro ?_ ?_; (focus (first | omega | (simp only [go_sem]; done) | (simp; done) | (simp; omega) | assumption)))); (try (exfalso; omega; done))))))
    (apply Ret.det []; (focus (first | exact .inl rfl | exact .inr rfl)); (focus (simp (maxSteps := 9999999) (disch := omega) only [go_sem]; rfl)); (simp (maxSteps := 9999999) (disch := omega) only [go_sem]; (try (repeat' (first | done | trivial | rfl | exact leAs_rfl _ | decide | (refine And.intro ?_ ?_) | (simp; done) | omega | (simp; decide))))))
theorem roomy_rightr {l : List Int} (h : roomy l = true) : right l = true := by simp [roomy] at h; exact h.1
theorem rbound_any (l : List Int) (hl : l.length = 20) : ACall Try.prog 40 [.agg (cI l)] [] (Det (.tup [I (boundI l), Bo (boundB l)]) []) := by
  have hc := cI_len l
  have ht := cI_take hl
  have hr := rroomy_any l hl
  have g3 := cI_get (l := l) (k := 3) (by omega)
  cases h : roomy l
  · have e1 : boundI l = 0 := by simp [boundI, h]
    have e2 : boundB l = false := by simp [boundB, h]
    rw [h] at hr
    rw [e1, e2]
    refine ACall.startA c40_ok Try.func40 rfl Try.ntmps40 (by kernel_rfl) res40_ok rfl rfl rfl ?_; simp (maxSteps := 9999999) (disch := omega) only [go_sem]
    (repeat' (first | refine AWpA.seq ?_ | refine AWpA.block ?_ | (with_reducible refine CondP.tt ?_) | (with_reducible refine CondP.ff ?_) | refine AWpA.condv (by simp (maxSteps := 9999999) (disch := omega) only [go_sem, cI_ren, hc, hl, ht]; rfl) ?_ | ((first | (apply AWpA.region; (focus (simp (maxSteps := 9999999) (disch := omega) only [go_sem, cI_ren, hc, hl, ht]; rfl))) | (apply AWpA.draw [] follows; (focus (simp (maxSteps := 9999999) (disch := omega) only [go_sem, cI_ren, hc, hl, ht]; rfl)); (focus (simp (maxSteps := 9999999) (disch := omega) only [go_sem, cI_ren, hc, hl, ht]; first | done | trivial)); (focus (simp (maxSteps := 9999999) (disch := omega) only [go_sem, cI_ren, hc, hl, ht]; rfl))) | (apply TailK.go; (focus (simp (maxSteps := 9999999) (disch := omega) only [go_sem, cI_ren, hc, hl, ht]; rfl))) | refine AWpA.skip ?_ | refine AWpA.exit ?_ | refine AWpA.ret ?_ | (with_reducible refine ARoundsA.succ ?_) | ((first | refine Runs.kt (by assumption) (fun h9 => ?_) | refine Runs.kf (by assumption) (fun h9 => ?_) | refine Runs.nt (by assumption) (fun h9 => ?_) | refine Runs.nf (by assumption) (fun h9 => ?_) | refine CondP.ht (by assumption) (fun h9 => ?_) | refine CondP.hf (by assumption) (fun h9 => ?_) | refine CondP.nt (by assumption) (fun h9 => ?_) | refine CondP.nf (by assumption) (fun h9 => ?_)); (try simp only [h9]); clear h9) | ((first | (with_reducible apply CallG.plain1 [] (hr)) | (with_reducible apply CallG.draw1 [] (hr))); (focus ((try refine And.intro (leAs_of_eq rfl) ?_); (try refine And.intro (leOL_of_eq rfl) ?_); simp (maxSteps := 9999999) (disch := omega) only [go_sem, cI_ren, hc, hl, ht]; first | done | (repeat' (first | rfl | (refine And.intro ?_ ?_))))); (focus (simp (maxSteps := 9999999) (disch := omega) only [go_sem, cI_ren, hc, hl, ht]; rfl)))); (try simp (maxSteps := 9999999) (disch := omega) only [go_sem, cI_ren, hc, hl, ht]); (try (refine And.intro ?_ ?_; (focus (first | omega | (simp only [go_sem]; done) | (simp; done) | (simp; omega) | assumption))))) | ((first | refine CondP.split (fun hif => ?_) (fun hif => ?_) | refine Runs.part (fun hif => ?_) (fun hif => ?_)) <;> ((try simp only [hif]); (try simp only [decide_eq_true_eq, decide_eq_false_iff_not, Bool.not_eq_true, Bool.not_eq_false, Bool.not_eq_true', Bool.not_eq_false', beq_iff_eq, bne_iff_ne, bne_eq_false_iff_eq, beq_eq_false_iff_ne, ne_eq, Bool.and_eq_true, Bool.or_eq_true, Bool.or_eq_false_iff] at hif); (try (have h9 : _ = true := hif; simp only [h9])); (try (have h9 : _ = false := hif; simp only [h9])); (try simp (maxSteps := 9999999) (disch := omega) only [go_sem, cI_ren, hc, hl, ht]); (try (refine And.intro ?_ ?_; (focus (first | omega | (simp only [go_sem]; done) | (simp; done) | (simp; omega) | assumption)))); (try (exfalso; omega; done))))))
    (apply Ret.det []; (focus (first | exact .inl rfl | exact .inr rfl)); (focus (simp (maxSteps := 9999999) (disch := omega) only [go_sem]; rfl)); (simp (maxSteps := 9999999) (disch := omega) only [go_sem]; (try (repeat' (first | done | trivial | rfl | exact leAs_rfl _ | decide | (refine And.intro ?_ ?_) | (simp; done) | omega | (simp; decide))))))
  · rw [h] at hr
    have hq := rrounds_any l hl (roomy_rightr h)
    by_cases h3 : l.getD 3 0 = 0
    · have e1 : boundI l = rounds l := by simp only [boundI, h, h3]; rfl
      have e2 : boundB l = true := by simp only [boundB, h, h3]; rfl
      have g4 : (l.getD 3 0 != 0) = false := by rw [h3]; rfl
      rw [e1, e2]
      generalize rounds l = r at *
      generalize l.getD 3 0 = x3 at *
      refine ACall.startA c40_ok Try.func40 rfl Try.ntmps40 (by kernel_rfl) res40_ok rfl rfl rfl ?_; simp (maxSteps := 9999999) (disch := omega) only [go_sem]
      (repeat' (first | refine AWpA.seq ?_ | refine AWpA.block ?_ | (with_reducible refine CondP.tt ?_) | (with_reducible refine CondP.ff ?_) | refine AWpA.condv (by simp (maxSteps := 9999999) (disch := omega) only [go_sem, cI_ren, hc, hl, ht, g3, g4]; rfl) ?_ | ((first | (apply AWpA.region; (focus (simp (maxSteps := 9999999) (disch := omega) only [go_sem, cI_ren, hc, hl, ht, g3, g4]; rfl))) | (apply AWpA.draw [] follows; (focus (simp (maxSteps := 9999999) (disch := omega) only [go_sem, cI_ren, hc, hl, ht, g3, g4]; rfl)); (focus (simp (maxSteps := 9999999) (disch := omega) only [go_sem, cI_ren, hc, hl, ht, g3, g4]; first | done | trivial)); (focus (simp (maxSteps := 9999999) (disch := omega) only [go_sem, cI_ren, hc, hl, ht, g3, g4]; rfl))) | (apply TailK.go; (focus (simp (maxSteps := 9999999) (disch := omega) only [go_sem, cI_ren, hc, hl, ht, g3, g4]; rfl))) | refine AWpA.skip ?_ | refine AWpA.exit ?_ | refine AWpA.ret ?_ | (with_reducible refine ARoundsA.succ ?_) | ((first | refine Runs.kt (by assumption) (fun h9 => ?_) | refine Runs.kf (by assumption) (fun h9 => ?_) | refine Runs.nt (by assumption) (fun h9 => ?_) | refine Runs.nf (by assumption) (fun h9 => ?_) | refine CondP.ht (by assumption) (fun h9 => ?_) | refine CondP.hf (by assumption) (fun h9 => ?_) | refine CondP.nt (by assumption) (fun h9 => ?_) | refine CondP.nf (by assumption) (fun h9 => ?_)); (try simp only [h9]); clear h9) | ((first | (with_reducible apply CallG.plain1 [] (hr)) | (with_reducible apply CallG.draw1 [] (hr))); (focus ((try refine And.intro (leAs_of_eq rfl) ?_); (try refine And.intro (leOL_of_eq rfl) ?_); simp (maxSteps := 9999999) (disch := omega) only [go_sem, cI_ren, hc, hl, ht, g3, g4]; first | done | (repeat' (first | rfl | (refine And.intro ?_ ?_))))); (focus (simp (maxSteps := 9999999) (disch := omega) only [go_sem, cI_ren, hc, hl, ht, g3, g4]; rfl))) | ((first | (with_reducible apply CallG.plain1 [] (hq)) | (with_reducible apply CallG.draw1 [] (hq))); (focus ((try refine And.intro (leAs_of_eq rfl) ?_); (try refine And.intro (leOL_of_eq rfl) ?_); simp (maxSteps := 9999999) (disch := omega) only [go_sem, cI_ren, hc, hl, ht, g3, g4]; first | done | (repeat' (first | rfl | (refine And.intro ?_ ?_))))); (focus (simp (maxSteps := 9999999) (disch := omega) only [go_sem, cI_ren, hc, hl, ht, g3, g4]; rfl)))); (try simp (maxSteps := 9999999) (disch := omega) only [go_sem, cI_ren, hc, hl, ht, g3, g4]); (try (refine And.intro ?_ ?_; (focus (first | omega | (simp only [go_sem]; done) | (simp; done) | (simp; omega) | assumption))))) | ((first | refine CondP.split (fun hif => ?_) (fun hif => ?_) | refine Runs.part (fun hif => ?_) (fun hif => ?_)) <;> ((try simp only [hif]); (try simp only [decide_eq_true_eq, decide_eq_false_iff_not, Bool.not_eq_true, Bool.not_eq_false, Bool.not_eq_true', Bool.not_eq_false', beq_iff_eq, bne_iff_ne, bne_eq_false_iff_eq, beq_eq_false_iff_ne, ne_eq, Bool.and_eq_true, Bool.or_eq_true, Bool.or_eq_false_iff] at hif); (try (have h9 : _ = true := hif; simp only [h9])); (try (have h9 : _ = false := hif; simp only [h9])); (try simp (maxSteps := 9999999) (disch := omega) only [go_sem, cI_ren, hc, hl, ht, g3, g4]); (try (refine And.intro ?_ ?_; (focus (first | omega | (simp only [go_sem]; done) | (simp; done) | (simp; omega) | assumption)))); (try (exfalso; omega; done))))))
      (apply Ret.det []; (focus (first | exact .inl rfl | exact .inr rfl)); (focus (simp (maxSteps := 9999999) (disch := omega) only [go_sem]; rfl)); (simp (maxSteps := 9999999) (disch := omega) only [go_sem]; (try (repeat' (first | done | trivial | rfl | exact leAs_rfl _ | decide | (refine And.intro ?_ ?_) | (simp; done) | omega | (simp; decide))))))
    · have g5 : (l.getD 3 0 == 0) = false := by rw [beq_eq_false_iff_ne]; exact h3
      have e1 : boundI l = 0 := by simp only [boundI, h, g5]; rfl
      have e2 : boundB l = false := by simp only [boundB, h, g5]; rfl
      have g4 : (l.getD 3 0 != 0) = true := by rw [bne_iff_ne]; exact h3
      rw [e1, e2]
      generalize l.getD 3 0 = x3 at *
      refine ACall.startA c40_ok Try.func40 rfl Try.ntmps40 (by kernel_rfl) res40_ok rfl rfl rfl ?_; simp (maxSteps := 9999999) (disch := omega) only [go_sem]
      (repeat' (first | refine AWpA.seq ?_ | refine AWpA.block ?_ | (with_reducible refine CondP.tt ?_) | (with_reducible refine CondP.ff ?_) | refine AWpA.condv (by simp (maxSteps := 9999999) (disch := omega) only [go_sem, cI_ren, hc, hl, ht, g3, g4]; rfl) ?_ | ((first | (apply AWpA.region; (focus (simp (maxSteps := 9999999) (disch := omega) only [go_sem, cI_ren, hc, hl, ht, g3, g4]; rfl))) | (apply AWpA.draw [] follows; (focus (simp (maxSteps := 9999999) (disch := omega) only [go_sem, cI_ren, hc, hl, ht, g3, g4]; rfl)); (focus (simp (maxSteps := 9999999) (disch := omega) only [go_sem, cI_ren, hc, hl, ht, g3, g4]; first | done | trivial)); (focus (simp (maxSteps := 9999999) (disch := omega) only [go_sem, cI_ren, hc, hl, ht, g3, g4]; rfl))) | (apply TailK.go; (focus (simp (maxSteps := 9999999) (disch := omega) only [go_sem, cI_ren, hc, hl, ht, g3, g4]; rfl))) | refine AWpA.skip ?_ | refine AWpA.exit ?_ | refine AWpA.ret ?_ | (with_reducible refine ARoundsA.succ ?_) | ((first | refine Runs.kt (by assumption) (fun h9 => ?_) | refine Runs.kf (by assumption) (fun h9 => ?_) | refine Runs.nt (by assumption) (fun h9 => ?_) | refine Runs.nf (by assumption) (fun h9 => ?_) | refine CondP.ht (by assumption) (fun h9 => ?_) | refine CondP.hf (by assumption) (fun h9 => ?_) | refine CondP.nt (by assumption) (fun h9 => ?_) | refine CondP.nf (by assumption) (fun h9 => ?_)); (try simp only [h9]); clear h9) | ((first | (with_reducible apply CallG.plain1 [] (hr)) | (with_reducible apply CallG.draw1 [] (hr))); (focus ((try refine And.intro (leAs_of_eq rfl) ?_); (try refine And.intro (leOL_of_eq rfl) ?_); simp (maxSteps := 9999999) (disch := omega) only [go_sem, cI_ren, hc, hl, ht, g3, g4]; first | done | (repeat' (first | rfl | (refine And.intro ?_ ?_))))); (focus (simp (maxSteps := 9999999) (disch := omega) only [go_sem, cI_ren, hc, hl, ht, g3, g4]; rfl))) | ((first | (with_reducible apply CallG.plain1 [] (hq)) | (with_reducible apply CallG.draw1 [] (hq))); (focus ((try refine And.intro (leAs_of_eq rfl) ?_); (try refine And.intro (leOL_of_eq rfl) ?_); simp (maxSteps := 9999999) (disch := omega) only [go_sem, cI_ren, hc, hl, ht, g3, g4]; first | done | (repeat' (first | rfl | (refine And.intro ?_ ?_))))); (focus (simp (maxSteps := 9999999) (disch := omega) only [go_sem, cI_ren, hc, hl, ht, g3, g4]; rfl)))); (try simp (maxSteps := 9999999) (disch := omega) only [go_sem, cI_ren, hc, hl, ht, g3, g4]); (try (refine And.intro ?_ ?_; (focus (first | omega | (simp only [go_sem]; done) | (simp; done) | (simp; omega) | assumption))))) | ((first | refine CondP.split (fun hif => ?_) (fun hif => ?_) | refine Runs.part (fun hif => ?_) (fun hif => ?_)) <;> ((try simp only [hif]); (try simp only [decide_eq_true_eq, decide_eq_false_iff_not, Bool.not_eq_true, Bool.not_eq_false, Bool.not_eq_true', Bool.not_eq_false', beq_iff_eq, bne_iff_ne, bne_eq_false_iff_eq, beq_eq_false_iff_ne, ne_eq, Bool.and_eq_true, Bool.or_eq_true, Bool.or_eq_false_iff] at hif); (try (have h9 : _ = true := hif; simp only [h9])); (try (have h9 : _ = false := hif; simp only [h9])); (try simp (maxSteps := 9999999) (disch := omega) only [go_sem, cI_ren, hc, hl, ht, g3, g4]); (try (refine And.intro ?_ ?_; (focus (first | omega | (simp only [go_sem]; done) | (simp; done) | (simp; omega) | assumption)))); (try (exfalso; omega; done))))))
      (apply Ret.det []; (focus (first | exact .inl rfl | exact .inr rfl)); (focus (simp (maxSteps := 9999999) (disch := omega) only [go_sem]; rfl)); (simp (maxSteps := 9999999) (disch := omega) only [go_sem]; (try (repeat' (first | done | trivial | rfl | exact leAs_rfl _ | decide | (refine And.intro ?_ ?_) | (simp; done) | omega | (simp; decide))))))
theorem rlong_any (l : List Int) (hl : l.length = 20) : ACall Try.prog 42 [.agg (cI l)] [] (Det (.tup [I (longI l), Bo (longB l)]) []) := by
  have hc := cI_len l
  have ht := cI_take hl
  have hr := rroomy_any l hl
  have g3 := cI_get (l := l) (k := 3) (by omega)
  cases h : roomy l
  · have e2 : longB l = false := by simp [longB, h]
    have e1 : longI l = 0 := by simp [longI, e2]
    rw [h] at hr
    rw [e1, e2]
    refine ACall.startA c42_ok Try.func42 rfl Try.ntmps42 (by kernel_rfl) res42_ok rfl rfl rfl ?_; simp (maxSteps := 9999999) (disch := omega) only [go_sem]
    (repeat' (first | refine AWpA.seq ?_ | refine AWpA.block ?_ | (with_reducible refine CondP.tt ?_) | (with_reducible refine CondP.ff ?_) | refine AWpA.condv (by simp (maxSteps := 9999999) (disch := omega) only [go_sem, cI_ren, hc, hl, ht]; rfl) ?_ | ((first | (apply AWpA.region; (focus (simp (maxSteps := 9999999) (disch := omega) only [go_sem, cI_ren, hc, hl, ht]; rfl))) | (apply AWpA.draw [] follows; (focus (simp (maxSteps := 9999999) (disch := omega) only [go_sem, cI_ren, hc, hl, ht]; rfl)); (focus (simp (maxSteps := 9999999) (disch := omega) only [go_sem, cI_ren, hc, hl, ht]; first | done | trivial)); (focus (simp (maxSteps := 9999999) (disch := omega) only [go_sem, cI_ren, hc, hl, ht]; rfl))) | (apply TailK.go; (focus (simp (maxSteps := 9999999) (disch := omega) only [go_sem, cI_ren, hc, hl, ht]; rfl))) | refine AWpA.skip ?_ | refine AWpA.exit ?_ | refine AWpA.ret ?_ | (with_reducible refine ARoundsA.succ ?_) | ((first | refine Runs.kt (by assumption) (fun h9 => ?_) | refine Runs.kf (by assumption) (fun h9 => ?_) | refine Runs.nt (by assumption) (fun h9 => ?_) | refine Runs.nf (by assumption) (fun h9 => ?_) | refine CondP.ht (by assumption) (fun h9 => ?_) | refine CondP.hf (by assumption) (fun h9 => ?_) | refine CondP.nt (by assumption) (fun h9 => ?_) | refine CondP.nf (by assumption) (fun h9 => ?_)); (try simp only [h9]); clear h9) | ((first | (with_reducible apply CallG.plain1 [] (hr)) | (with_reducible apply CallG.draw1 [] (hr))); (focus ((try refine And.intro (leAs_of_eq rfl) ?_); (try refine And.intro (leOL_of_eq rfl) ?_); simp (maxSteps := 9999999) (disch := omega) only [go_sem, cI_ren, hc, hl, ht]; first | done | (repeat' (first | rfl | (refine And.intro ?_ ?_))))); (focus (simp (maxSteps := 9999999) (disch := omega) only [go_sem, cI_ren, hc, hl, ht]; rfl)))); (try simp (maxSteps := 9999999) (disch := omega) only [go_sem, cI_ren, hc, hl, ht]); (try (refine And.intro ?_ ?_; (focus (first | omega | (simp only [go_sem]; done) | (simp; done) | (simp; omega) | assumption))))) | ((first | refine CondP.split (fun hif => ?_) (fun hif => ?_) | refine Runs.part (fun hif => ?_) (fun hif => ?_)) <;> ((try simp only [hif]); (try simp only [decide_eq_true_eq, decide_eq_false_iff_not, Bool.not_eq_true, Bool.not_eq_false, Bool.not_eq_true', Bool.not_eq_false', beq_iff_eq, bne_iff_ne, bne_eq_false_iff_eq, beq_eq_false_iff_ne, ne_eq, Bool.and_eq_true, Bool.or_eq_true, Bool.or_eq_false_iff] at hif); (try (have h9 : _ = true := hif; simp only [h9])); (try (have h9 : _ = false := hif; simp only [h9])); (try simp (maxSteps := 9999999) (disch := omega) only [go_sem, cI_ren, hc, hl, ht]); (try (refine And.intro ?_ ?_; (focus (first | omega | (simp only [go_sem]; done) | (simp; done) | (simp; omega) | assumption)))); (try (exfalso; omega; done))))))
    (apply Ret.det []; (focus (first | exact .inl rfl | exact .inr rfl)); (focus (simp (maxSteps := 9999999) (disch := omega) only [go_sem]; rfl)); (simp (maxSteps := 9999999) (disch := omega) only [go_sem]; (try (repeat' (first | done | trivial | rfl | exact leAs_rfl _ | decide | (refine And.intro ?_ ?_) | (simp; done) | omega | (simp; decide))))))
  · rw [h] at hr
    have hq := rrounds_any l hl (roomy_rightr h)
    obtain ⟨_, _, hrb⟩ := rounds_bd (roomy_rightr h)
    have hrb2 : 2 ≤ rounds l ∧ rounds l ≤ 1210 * 5642 + 2 := by unfold rounds; omega
    clear hrb
    by_cases h3 : l.getD 3 0 = 0
    · have g4 : (l.getD 3 0 == 0) = true := by rw [h3]; rfl
      have e2 : longB l = false := by simp only [longB, h, h3]; rfl
      have e1 : longI l = 0 := by simp [longI, e2]
      rw [e1, e2]
      generalize rounds l = r at *
      generalize l.getD 3 0 = x3 at *
      refine ACall.startA c42_ok Try.func42 rfl Try.ntmps42 (by kernel_rfl) res42_ok rfl rfl rfl ?_; simp (maxSteps := 9999999) (disch := omega) only [go_sem]
      (repeat' (first | refine AWpA.seq ?_ | refine AWpA.block ?_ | (with_reducible refine CondP.tt ?_) | (with_reducible refine CondP.ff ?_) | refine AWpA.condv (by simp (maxSteps := 9999999) (disch := omega) only [go_sem, cI_ren, hc, hl, ht, g3, g4]; rfl) ?_ | ((first | (apply AWpA.region; (focus (simp (maxSteps := 9999999) (disch := omega) only [go_sem, cI_ren, hc, hl, ht, g3, g4]; rfl))) | (apply AWpA.draw [] follows; (focus (simp (maxSteps := 9999999) (disch := omega) only [go_sem, cI_ren, hc, hl, ht, g3, g4]; rfl)); (focus (simp (maxSteps := 9999999) (disch := omega) only [go_sem, cI_ren, hc, hl, ht, g3, g4]; first | done | trivial)); (focus (simp (maxSteps := 9999999) (disch := omega) only [go_sem, cI_ren, hc, hl, ht, g3, g4]; rfl))) | (apply TailK.go; (focus (simp (maxSteps := 9999999) (disch := omega) only [go_sem, cI_ren, hc, hl, ht, g3, g4]; rfl))) | refine AWpA.skip ?_ | refine AWpA.exit ?_ | refine AWpA.ret ?_ | (with_reducible refine ARoundsA.succ ?_) | ((first | refine Runs.kt (by assumption) (fun h9 => ?_) | refine Runs.kf (by assumption) (fun h9 => ?_) | refine Runs.nt (by assumption) (fun h9 => ?_) | refine Runs.nf (by assumption) (fun h9 => ?_) | refine CondP.ht (by assumption) (fun h9 => ?_) | refine CondP.hf (by assumption) (fun h9 => ?_) | refine CondP.nt (by assumption) (fun h9 => ?_) | refine CondP.nf (by assumption) (fun h9 => ?_)); (try simp only [h9]); clear h9) | ((first | (with_reducible apply CallG.plain1 [] (hr)) | (with_reducible apply CallG.draw1 [] (hr))); (focus ((try refine And.intro (leAs_of_eq rfl) ?_); (try refine And.intro (leOL_of_eq rfl) ?_); simp (maxSteps := 9999999) (disch := omega) only [go_sem, cI_ren, hc, hl, ht, g3, g4]; first | done | (repeat' (first | rfl | (refine And.intro ?_ ?_))))); (focus (simp (maxSteps := 9999999) (disch := omega) only [go_sem, cI_ren, hc, hl, ht, g3, g4]; rfl))) | ((first | (with_reducible apply CallG.plain1 [] (hq)) | (with_reducible apply CallG.draw1 [] (hq))); (focus ((try refine And.intro (leAs_of_eq rfl) ?_); (try refine And.intro (leOL_of_eq rfl) ?_); simp (maxSteps := 9999999) (disch := omega) only [go_sem, cI_ren, hc, hl, ht, g3, g4]; first | done | (repeat' (first | rfl | (refine And.intro ?_ ?_))))); (focus (simp (maxSteps := 9999999) (disch := omega) only [go_sem, cI_ren, hc, hl, ht, g3, g4]; rfl)))); (try simp (maxSteps := 9999999) (disch := omega) only [go_sem, cI_ren, hc, hl, ht, g3, g4]); (try (refine And.intro ?_ ?_; (focus (first | omega | (simp only [go_sem]; done) | (simp; done) | (simp; omega) | assumption))))) | ((first | refine CondP.split (fun hif => ?_) (fun hif => ?_) | refine Runs.part (fun hif => ?_) (fun hif => ?_)) <;> ((try simp only [hif]); (try simp only [decide_eq_true_eq, decide_eq_false_iff_not, Bool.not_eq_true, Bool.not_eq_false, Bool.not_eq_true', Bool.not_eq_false', beq_iff_eq, bne_iff_ne, bne_eq_false_iff_eq, beq_eq_false_iff_ne, ne_eq, Bool.and_eq_true, Bool.or_eq_true, Bool.or_eq_false_iff] at hif); (try (have h9 : _ = true := hif; simp only [h9])); (try (have h9 : _ = false := hif; simp only [h9])); (try simp (maxSteps := 9999999) (disch := omega) only [go_sem, cI_ren, hc, hl, ht, g3, g4]); (try (refine And.intro ?_ ?_; (focus (first | omega | (simp only [go_sem]; done) | (simp; done) | (simp; omega) | assumption)))); (try (exfalso; omega; done))))))
      (apply Ret.det []; (focus (first | exact .inl rfl | exact .inr rfl)); (focus (simp (maxSteps := 9999999) (disch := omega) only [go_sem]; rfl)); (simp (maxSteps := 9999999) (disch := omega) only [go_sem]; (try (repeat' (first | done | trivial | rfl | exact leAs_rfl _ | decide | (refine And.intro ?_ ?_) | (simp; done) | omega | (simp; decide))))))
    · have g4 : (l.getD 3 0 == 0) = false := by rw [beq_eq_false_iff_ne]; exact h3
      have g5 : (l.getD 3 0 != 0) = true := by rw [bne_iff_ne]; exact h3
      by_cases h4 : l.getD 3 0 < 2 * rounds l + 4
      · have g6 : (l.getD 3 0 < 2 * rounds l + 4) = True := eq_true h4
        have e2 : longB l = false := by simp only [longB, h, g5, h4]; rfl
        have e1 : longI l = 0 := by simp [longI, e2]
        rw [e1, e2]
        generalize rounds l = r at *
        generalize l.getD 3 0 = x3 at *
        refine ACall.startA c42_ok Try.func42 rfl Try.ntmps42 (by kernel_rfl) res42_ok rfl rfl rfl ?_; simp (maxSteps := 9999999) (disch := omega) only [go_sem]
        (repeat' (first | refine AWpA.seq ?_ | refine AWpA.block ?_ | (with_reducible refine CondP.tt ?_) | (with_reducible refine CondP.ff ?_) | refine AWpA.condv (by simp (maxSteps := 9999999) (disch := omega) only [go_sem, cI_ren, hc, hl, ht, g3, g4, g6]; rfl) ?_ | ((first | (apply AWpA.region; (focus (simp (maxSteps := 9999999) (disch := omega) only [go_sem, cI_ren, hc, hl, ht, g3, g4, g6]; rfl))) | (apply AWpA.draw [] follows; (focus (simp (maxSteps := 9999999) (disch := omega) only [go_sem, cI_ren, hc, hl, ht, g3, g4, g6]; rfl)); (focus (simp (maxSteps := 9999999) (disch := omega) only [go_sem, cI_ren, hc, hl, ht, g3, g4, g6]; first | done | trivial)); (focus (simp (maxSteps := 9999999) (disch := omega) only [go_sem, cI_ren, hc, hl, ht, g3, g4, g6]; rfl))) | (apply TailK.go; (focus (simp (maxSteps := 9999999) (disch := omega) only [go_sem, cI_ren, hc, hl, ht, g3, g4, g6]; rfl))) | refine AWpA.skip ?_ | refine AWpA.exit ?_ | refine AWpA.ret ?_ | (with_reducible refine ARoundsA.succ ?_) | ((first | refine Runs.kt (by assumption) (fun h9 => ?_) | refine Runs.kf (by assumption) (fun h9 => ?_) | refine Runs.nt (by assumption) (fun h9 => ?_) | refine Runs.nf (by assumption) (fun h9 => ?_) | refine CondP.ht (by assumption) (fun h9 => ?_) | refine CondP.hf (by assumption) (fun h9 => ?_) | refine CondP.nt (by assumption) (fun h9 => ?_) | refine CondP.nf (by assumption) (fun h9 => ?_)); (try simp only [h9]); clear h9) | ((first | (with_reducible apply CallG.plain1 [] (hr)) | (with_reducible apply CallG.draw1 [] (hr))); (focus ((try refine And.intro (leAs_of_eq rfl) ?_); (try refine And.intro (leOL_of_eq rfl) ?_); simp (maxSteps := 9999999) (disch := omega) only [go_sem, cI_ren, hc, hl, ht, g3, g4, g6]; first | done | (repeat' (first | rfl | (refine And.intro ?_ ?_))))); (focus (simp (maxSteps := 9999999) (disch := omega) only [go_sem, cI_ren, hc, hl, ht, g3, g4, g6]; rfl))) | ((first | (with_reducible apply CallG.plain1 [] (hq)) | (with_reducible apply CallG.draw1 [] (hq))); (focus ((try refine And.intro (leAs_of_eq rfl) ?_); (try refine And.intro (leOL_of_eq rfl) ?_); simp (maxSteps := 9999999) (disch := omega) only [go_sem, cI_ren, hc, hl, ht, g3, g4, g6]; first | done | (repeat' (first | rfl | (refine And.intro ?_ ?_))))); (focus (simp (maxSteps := 9999999) (disch := omega) only [go_sem, cI_ren, hc, hl, ht, g3, g4, g6]; rfl)))); (try simp (maxSteps := 9999999) (disch := omega) only [go_sem, cI_ren, hc, hl, ht, g3, g4, g6]); (try (refine And.intro ?_ ?_; (focus (first | omega | (simp only [go_sem]; done) | (simp; done) | (simp; omega) | assumption))))) | ((first | refine CondP.split (fun hif => ?_) (fun hif => ?_) | refine Runs.part (fun hif => ?_) (fun hif => ?_)) <;> ((try simp only [hif]); (try simp only [decide_eq_true_eq, decide_eq_false_iff_not, Bool.not_eq_true, Bool.not_eq_false, Bool.not_eq_true', Bool.not_eq_false', beq_iff_eq, bne_iff_ne, bne_eq_false_iff_eq, beq_eq_false_iff_ne, ne_eq, Bool.and_eq_true, Bool.or_eq_true, Bool.or_eq_false_iff] at hif); (try (have h9 : _ = true := hif; simp only [h9])); (try (have h9 : _ = false := hif; simp only [h9])); (try simp (maxSteps := 9999999) (disch := omega) only [go_sem, cI_ren, hc, hl, ht, g3, g4, g6]); (try (refine And.intro ?_ ?_; (focus (first | omega | (simp only [go_sem]; done) | (simp; done) | (simp; omega) | assumption)))); (try (exfalso; omega; done))))))
        (apply Ret.det []; (focus (first | exact .inl rfl | exact .inr rfl)); (focus (simp (maxSteps := 9999999) (disch := omega) only [go_sem]; rfl)); (simp (maxSteps := 9999999) (disch := omega) only [go_sem]; (try (repeat' (first | done | trivial | rfl | exact leAs_rfl _ | decide | (refine And.intro ?_ ?_) | (simp; done) | omega | (simp; decide))))))
      · have g6 : (l.getD 3 0 < 2 * rounds l + 4) = False := eq_false h4
        have e2 : longB l = true := by simp only [longB, h, g5, h4]; rfl
        have e1 : longI l = 4 * rounds l + 4 := by simp [longI, e2]
        rw [e1, e2]
        generalize rounds l = r at *
        generalize l.getD 3 0 = x3 at *
        refine ACall.startA c42_ok Try.func42 rfl Try.ntmps42 (by kernel_rfl) res42_ok rfl rfl rfl ?_; simp (maxSteps := 9999999) (disch := omega) only [go_sem]
        (repeat' (first | refine AWpA.seq ?_ | refine AWpA.block ?_ | (with_reducible refine CondP.tt ?_) | (with_reducible refine CondP.ff ?_) | refine AWpA.condv (by simp (maxSteps := 9999999) (disch := omega) only [go_sem, cI_ren, hc, hl, ht, g3, g4, g6]; rfl) ?_ | ((first | (apply AWpA.region; (focus (simp (maxSteps := 9999999) (disch := omega) only [go_sem, cI_ren, hc, hl, ht, g3, g4, g6]; rfl))) | (apply AWpA.draw [] follows; (focus (simp (maxSteps := 9999999) (disch := omega) only [go_sem, cI_ren, hc, hl, ht, g3, g4, g6]; rfl)); (focus (simp (maxSteps := 9999999) (disch := omega) only [go_sem, cI_ren, hc, hl, ht, g3, g4, g6]; first | done | trivial)); (focus (simp (maxSteps := 9999999) (disch := omega) only [go_sem, cI_ren, hc, hl, ht, g3, g4, g6]; rfl))) | (apply TailK.go; (focus (simp (maxSteps := 9999999) (disch := omega) only [go_sem, cI_ren, hc, hl, ht, g3, g4, g6]; rfl))) | refine AWpA.skip ?_ | refine AWpA.exit ?_ | refine AWpA.ret ?_ | (with_reducible refine ARoundsA.succ ?_) | ((first | refine Runs.kt (by assumption) (fun h9 => ?_) | refine Runs.kf (by assumption) (fun h9 => ?_) | refine Runs.nt (by assumption) (fun h9 => ?_) | refine Runs.nf (by assumption) (fun h9 => ?_) | refine CondP.ht (by assumption) (fun h9 => ?_) | refine CondP.hf (by assumption) (fun h9 => ?_) | refine CondP.nt (by assumption) (fun h9 => ?_) | refine CondP.nf (by assumption) (fun h9 => ?_)); (try simp only [h9]); clear h9) | ((first | (with_reducible apply CallG.plain1 [] (hr)) | (with_reducible apply CallG.draw1 [] (hr))); (focus ((try refine And.intro (leAs_of_eq rfl) ?_); (try refine And.intro (leOL_of_eq rfl) ?_); simp (maxSteps := 9999999) (disch := omega) only [go_sem, cI_ren, hc, hl, ht, g3, g4, g6]; first | done | (repeat' (first | rfl | (refine And.intro ?_ ?_))))); (focus (simp (maxSteps := 9999999) (disch := omega) only [go_sem, cI_ren, hc, hl, ht, g3, g4, g6]; rfl))) | ((first | (with_reducible apply CallG.plain1 [] (hq)) | (with_reducible apply CallG.draw1 [] (hq))); (focus ((try refine And.intro (leAs_of_eq rfl) ?_); (try refine And.intro (leOL_of_eq rfl) ?_); simp (maxSteps := 9999999) (disch := omega) only [go_sem, cI_ren, hc, hl, ht, g3, g4, g6]; first | done | (repeat' (first | rfl | (refine And.intro ?_ ?_))))); (focus (simp (maxSteps := 9999999) (disch := omega) only [go_sem, cI_ren, hc, hl, ht, g3, g4, g6]; rfl)))); (try simp (maxSteps := 9999999) (disch := omega) only [go_sem, cI_ren, hc, hl, ht, g3, g4, g6]); (try (refine And.intro ?_ ?_; (focus (first | omega | (simp only [go_sem]; done) | (simp; done) | (simp; omega) | assumption))))) | ((first | refine CondP.split (fun hif => ?_) (fun hif => ?_) | refine Runs.part (fun hif => ?_) (fun hif => ?_)) <;> ((try simp only [hif]); (try simp only [decide_eq_true_eq, decide_eq_false_iff_not, Bool.not_eq_true, Bool.not_eq_false, Bool.not_eq_true', Bool.not_eq_false', beq_iff_eq, bne_iff_ne, bne_eq_false_iff_eq, beq_eq_false_iff_ne, ne_eq, Bool.and_eq_true, Bool.or_eq_true, Bool.or_eq_false_iff] at hif); (try (have h9 : _ = true := hif; simp only [h9])); (try (have h9 : _ = false := hif; simp only [h9])); (try simp (maxSteps := 9999999) (disch := omega) only [go_sem, cI_ren, hc, hl, ht, g3, g4, g6]); (try (refine And.intro ?_ ?_; (focus (first | omega | (simp only [go_sem]; done) | (simp; done) | (simp; omega) | assumption)))); (try (exfalso; omega; done))))))
        (apply Ret.det []; (focus (first | exact .inl rfl | exact .inr rfl)); (focus (simp (maxSteps := 9999999) (disch := omega) only [go_sem]; rfl)); (simp (maxSteps := 9999999) (disch := omega) only [go_sem]; (try (repeat' (first | done | trivial | rfl | exact leAs_rfl _ | decide | (refine And.intro ?_ ?_) | (simp; done) | omega | (simp; decide))))))
end Go.Proofs.Ytkdikmfnchmphaa
