/- Contract: the example of chapter 13. -/
import Derived.Test.YtkdikmfnchmphaaAs6
import Derived.Test.YtkdikmfnchmphaaAs7
namespace Go.Setup
set_option linter.unusedSimpArgs false
set_option linter.unusedVariables false
set_option maxHeartbeats 4000000
open Go Go.Am
def ex : List Int := [2, 2, 1, 0, 0, 1, 1, 1, 0, 1, 1, 1, 1, 1, 1, 1, 0, 4, 1, 16]
theorem ex_bd : boundI ex = 140 ∧ boundB ex = true ∧ steps ex = 20 := by decide
end Go.Setup
namespace Go.Proofs.Ytkdikmfnchmphaa
open Go Go.Am Go.RowKit Go.Setup
set_option linter.unusedSimpArgs false
set_option maxHeartbeats 4000000
set_option maxRecDepth 100000
theorem ex_lit : cI ex = [I 2, I 2, I 1, I 0, I 0, I 1, I 1, I 1, I 0, I 1, I 1, I 1, I 1, I 1, I 1, I 1, I 0, I 4, I 1, I 16] := by unfold cI; rfl
/- quidnunc/quidnunclaw13.example -/
noncomputable def c65_1 : ACode := .region false [⟨some 0, .alloc (List.replicate 20 (.int .i64 0)), [], none⟩] [] [] [0] true [] []
noncomputable def c65_3 : ACode := .region false [⟨some 1, .build (List.replicate 20 (.int .i64 0)) [(0, 1), (1, 1), (2, 1), (5, 1), (6, 1), (7, 1), (9, 1), (10, 1), (11, 1), (12, 1), (13, 1), (14, 1), (15, 1), (17, 1), (18, 1), (19, 1)], [.c (.val (.int .i64 2)), .c (.val (.int .i64 2)), .c (.val (.int .i64 1)), .c (.val (.int .i64 1)), .c (.val (.int .i64 1)), .c (.val (.int .i64 1)), .c (.val (.int .i64 1)), .c (.val (.int .i64 1)), .c (.val (.int .i64 1)), .c (.val (.int .i64 1)), .c (.val (.int .i64 1)), .c (.val (.int .i64 1)), .c (.val (.int .i64 1)), .c (.val (.int .i64 4)), .c (.val (.int .i64 1)), .c (.val (.int .i64 16))], none⟩,
  ⟨none, .store 20, [.t 0, .t 1], none⟩] [] [] [0] true [] []
noncomputable def c65_2 : ACode := .seq c65_3 .ret
noncomputable def c65_0 : ACode := .seq c65_1 c65_2
noncomputable def code65 : Code := (Try.f65.body).getD .skip
theorem c65_ok : compC Try.prog 2 code65 = some (strip c65_0) := by kernel_rfl
theorem res65_ok : Try.f65.results.toList.mapM (resC Try.prog) = some [(0, some (true, 20))] := by kernel_rfl
/- quidnunc/quidnunclaw13.speaks -/
noncomputable def c28_1 : ACode := .region false [⟨some 0, .move, [.c (.val (.bool false))], none⟩] [] [] [] false [] []
noncomputable def c28_3 : ACode := .region false [⟨some 4, .call 65, [], none⟩,
  ⟨some 5, .call 31, [.t 4], none⟩,
  ⟨some 3, .move, [.t 5], none⟩,
  ⟨some 6, .ext 0, [.t 3], none⟩,
  ⟨some 7, .ext 1, [.t 3], none⟩,
  ⟨some 1, .move, [.t 6], none⟩,
  ⟨some 2, .move, [.t 7], none⟩] [] [] [1, 2] true [] []
noncomputable def c28_5 : ACode := .region false [⟨some 8, .call 65, [], none⟩,
  ⟨some 9, .call 32, [.t 8], none⟩,
  ⟨some 10, .bin .eql, [.t 9, .c (.val (.int .i64 20))], none⟩,
  ⟨some 11, .move, [.t 10], none⟩,
  ⟨some 12, .move, [.t 2], some (some 11, true)⟩,
  ⟨some 13, .pick, [.t 11, .t 12, .c (.val (.bool false))], none⟩,
  ⟨some 14, .move, [.t 13], none⟩,
  ⟨some 15, .move, [.t 1], some (some 14, true)⟩,
  ⟨some 16, .bin .eql, [.t 15, .c (.val (.int .i64 140))], some (some 14, true)⟩,
  ⟨some 17, .pick, [.t 14, .t 16, .c (.val (.bool false))], none⟩,
  ⟨some 0, .move, [.t 17], none⟩] [] [] [0] true [] []
noncomputable def c28_4 : ACode := .seq c28_5 .ret
noncomputable def c28_2 : ACode := .seq c28_3 c28_4
noncomputable def c28_0 : ACode := .seq c28_1 c28_2
noncomputable def code28 : Code := (Try.f28.body).getD .skip
theorem c28_ok : compC Try.prog 18 code28 = some (strip c28_0) := by kernel_rfl
theorem res28_ok : Try.f28.results.toList.mapM (resC Try.prog) = some [(0, none)] := by kernel_rfl
theorem example_any : ACall Try.prog 65 [] [] (Det (.agg (cI ex)) []) := by
  have e := ex_lit
  refine ACall.startA c65_ok Try.func65 rfl Try.ntmps65 (by kernel_rfl) res65_ok rfl rfl rfl ?_; simp (maxSteps := 9999999) (disch := omega) only [go_sem]
  (repeat' (first | refine AWpA.seq ?_ | refine AWpA.block ?_ | (with_reducible refine CondP.tt ?_) | (with_reducible refine CondP.ff ?_) | refine AWpA.condv (by simp (maxSteps := 9999999) (disch := omega) only [go_sem]; rfl) ?_ | ((first | (apply AWpA.region; (focus (simp (maxSteps := 9999999) (disch := omega) only [go_sem]; rfl))) | (apply AWpA.draw [] follows; (focus (simp (maxSteps := 9999999) (disch := omega) only [go_sem]; rfl)); (focus (simp (maxSteps := 9999999) (disch := omega) only [go_sem]; first | done | trivial)); (focus (simp (maxSteps := 9999999) (disch := omega) only [go_sem]; rfl))) | (apply TailK.go; (focus (simp (maxSteps := 9999999) (disch := omega) only [go_sem]; rfl))) | refine AWpA.skip ?_ | refine AWpA.exit ?_ | refine AWpA.ret ?_ | (with_reducible refine ARoundsA.succ ?_) | ((first | refine Runs.kt (by assumption) (fun h9 => ?_) | refine Runs.kf (by assumption) (fun h9 => ?_) | refine Runs.nt (by assumption) (fun h9 => ?_) | refine Runs.nf (by assumption) (fun h9 => ?_) | refine CondP.ht (by assumption) (fun h9 => ?_) | refine CondP.hf (by assumption) (fun h9 => ?_) | refine CondP.nt (by assumption) (fun h9 => ?_) | refine CondP.nf (by assumption) (fun h9 => ?_)); (try simp only [h9]); clear h9)); (try simp (maxSteps := 9999999) (disch := omega) only [go_sem]); (try (refine And.intro ?_ ?_; (focus (first | omega | (simp only [go_sem]; done) | (simp; done) | (simp; omega) | assumption))))) | ((first | refine CondP.split (fun hif => ?_) (fun hif => ?_) | refine Runs.part (fun hif => ?_) (fun hif => ?_)) <;> ((try simp only [hif]); (try simp only [decide_eq_true_eq, decide_eq_false_iff_not, Bool.not_eq_true, Bool.not_eq_false, Bool.not_eq_true', Bool.not_eq_false', beq_iff_eq, bne_iff_ne, bne_eq_false_iff_eq, beq_eq_false_iff_ne, ne_eq, Bool.and_eq_true, Bool.or_eq_true, Bool.or_eq_false_iff] at hif); (try (have h9 : _ = true := hif; simp only [h9])); (try (have h9 : _ = false := hif; simp only [h9])); (try simp (maxSteps := 9999999) (disch := omega) only [go_sem]); (try (refine And.intro ?_ ?_; (focus (first | omega | (simp only [go_sem]; done) | (simp; done) | (simp; omega) | assumption)))); (try (exfalso; omega; done))))))
  rw [e]
  (apply Ret.det []; (focus (first | exact .inl rfl | exact .inr rfl)); (focus (simp (maxSteps := 9999999) (disch := omega) only [go_sem]; rfl)); (simp (maxSteps := 9999999) (disch := omega) only [go_sem]; (try (repeat' (first | done | trivial | rfl | exact leAs_rfl _ | decide | (refine And.intro ?_ ?_) | (simp; done) | omega | (simp; decide))))))
theorem speaks13_any : ACall Try.prog 28 [] [] (Det (Bo true) []) := by
  have hb := bound_any ex rfl
  have hs := steps_any ex rfl
  rw [ex_bd.1, ex_bd.2.1] at hb
  rw [ex_bd.2.2] at hs
  have hl : ex.length = 20 := rfl
  refine ACall.startA c28_ok Try.func28 rfl Try.ntmps28 (by kernel_rfl) res28_ok rfl rfl rfl ?_; simp (maxSteps := 9999999) (disch := omega) only [go_sem]
  (repeat' (first | refine AWpA.seq ?_ | refine AWpA.block ?_ | (with_reducible refine CondP.tt ?_) | (with_reducible refine CondP.ff ?_) | refine AWpA.condv (by simp (maxSteps := 9999999) (disch := omega) only [go_sem, cI_ren]; rfl) ?_ | ((first | (apply AWpA.region; (focus (simp (maxSteps := 9999999) (disch := omega) only [go_sem, cI_ren]; rfl))) | (apply AWpA.draw [] follows; (focus (simp (maxSteps := 9999999) (disch := omega) only [go_sem, cI_ren]; rfl)); (focus (simp (maxSteps := 9999999) (disch := omega) only [go_sem, cI_ren]; first | done | trivial)); (focus (simp (maxSteps := 9999999) (disch := omega) only [go_sem, cI_ren]; rfl))) | (apply TailK.go; (focus (simp (maxSteps := 9999999) (disch := omega) only [go_sem, cI_ren]; rfl))) | refine AWpA.skip ?_ | refine AWpA.exit ?_ | refine AWpA.ret ?_ | (with_reducible refine ARoundsA.succ ?_) | ((first | refine Runs.kt (by assumption) (fun h9 => ?_) | refine Runs.kf (by assumption) (fun h9 => ?_) | refine Runs.nt (by assumption) (fun h9 => ?_) | refine Runs.nf (by assumption) (fun h9 => ?_) | refine CondP.ht (by assumption) (fun h9 => ?_) | refine CondP.hf (by assumption) (fun h9 => ?_) | refine CondP.nt (by assumption) (fun h9 => ?_) | refine CondP.nf (by assumption) (fun h9 => ?_)); (try simp only [h9]); clear h9) | ((first | (with_reducible apply CallG.plain1 [] (example_any)) | (with_reducible apply CallG.plain1 [] (hb)) | (with_reducible apply CallG.plain1 [] (hs)) | (with_reducible apply CallG.draw1 [] (example_any)) | (with_reducible apply CallG.draw1 [] (hb)) | (with_reducible apply CallG.draw1 [] (hs))); (focus ((try refine And.intro (leAs_of_eq rfl) ?_); (try refine And.intro (leOL_of_eq rfl) ?_); simp (maxSteps := 9999999) (disch := omega) only [go_sem, cI_ren]; first | done | (repeat' (first | rfl | (refine And.intro ?_ ?_))))); (focus (simp (maxSteps := 9999999) (disch := omega) only [go_sem, cI_ren]; rfl)))); (try simp (maxSteps := 9999999) (disch := omega) only [go_sem, cI_ren]); (try (refine And.intro ?_ ?_; (focus (first | omega | (simp only [go_sem]; done) | (simp; done) | (simp; omega) | assumption))))) | ((first | refine CondP.split (fun hif => ?_) (fun hif => ?_) | refine Runs.part (fun hif => ?_) (fun hif => ?_)) <;> ((try simp only [hif]); (try simp only [decide_eq_true_eq, decide_eq_false_iff_not, Bool.not_eq_true, Bool.not_eq_false, Bool.not_eq_true', Bool.not_eq_false', beq_iff_eq, bne_iff_ne, bne_eq_false_iff_eq, beq_eq_false_iff_ne, ne_eq, Bool.and_eq_true, Bool.or_eq_true, Bool.or_eq_false_iff] at hif); (try (have h9 : _ = true := hif; simp only [h9])); (try (have h9 : _ = false := hif; simp only [h9])); (try simp (maxSteps := 9999999) (disch := omega) only [go_sem, cI_ren]); (try (refine And.intro ?_ ?_; (focus (first | omega | (simp only [go_sem]; done) | (simp; done) | (simp; omega) | assumption)))); (try (exfalso; omega; done))))))
  (apply Ret.det []; (focus (first | exact .inl rfl | exact .inr rfl)); (focus (simp (maxSteps := 9999999) (disch := omega) only [go_sem]; rfl)); (simp (maxSteps := 9999999) (disch := omega) only [go_sem]; (try (repeat' (first | done | trivial | rfl | exact leAs_rfl _ | decide | (refine And.intro ?_ ?_) | (simp; done) | omega | (simp; decide))))))
end Go.Proofs.Ytkdikmfnchmphaa
