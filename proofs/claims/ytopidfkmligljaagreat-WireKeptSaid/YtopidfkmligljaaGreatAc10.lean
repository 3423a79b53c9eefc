/- Contracts: entries put, woken; the document's. -/
import Derived.Test.YtopidfkmligljaaGreatAc8
namespace Go.Proofs.YtopidfkmligljaaGreat
set_option linter.unusedSimpArgs false
set_option linter.unusedVariables false
set_option maxHeartbeats 4000000
open Go Go.Am Go.RowKit Go.ChangeShapes Go.WideShapes Go.ChangeAt
open Go.ChangeMaps (open_string shut_string)
set_option maxRecDepth 100000
/- quidnunc/quidnunclaw05.To -/
noncomputable def c35_1 : ACode := .region false [⟨some 1, .box 0, [.t 0], none⟩,
  ⟨some 2, .alloc [(.string ⟨#[]⟩), (.string ⟨#[]⟩), (.bool false), (.int .i64 0), (.int .i64 0), (.int .i64 0), (.int .i64 0), (.int .i64 0), (.int .i64 0)], [], none⟩] [] [] [1, 2] true [] []
noncomputable def c35_3 : ACode := .region true [⟨some 3, .addr 0, [.t 1], none⟩,
  ⟨some 4, .load false 1, [.t 3], none⟩,
  ⟨some 5, .addr 1, [.t 1], none⟩,
  ⟨some 6, .load false 1, [.t 5], none⟩,
  ⟨some 7, .addr 2, [.t 1], none⟩,
  ⟨some 8, .load false 1, [.t 7], none⟩,
  ⟨some 9, .addr 3, [.t 1], none⟩,
  ⟨some 10, .load true 2, [.t 9], none⟩,
  ⟨some 11, .call 86, [.t 10], none⟩,
  ⟨some 12, .addr 5, [.t 1], none⟩,
  ⟨some 13, .load true 2, [.t 12], none⟩,
  ⟨some 14, .call 86, [.t 13], none⟩,
  ⟨some 15, .addr 7, [.t 1], none⟩,
  ⟨some 16, .load false 1, [.t 15], none⟩,
  ⟨some 17, .addr 8, [.t 1], none⟩,
  ⟨some 18, .load false 1, [.t 17], none⟩,
  ⟨some 19, .build [(.string ⟨#[]⟩), (.string ⟨#[]⟩), (.bool false), (.int .i64 0), (.int .i64 0), (.int .i64 0), (.int .i64 0), (.int .i64 0), (.int .i64 0)] [(0, 1), (1, 1), (2, 1), (3, 2), (5, 2), (7, 1), (8, 1)], [.t 4, .t 6, .t 8, .t 11, .t 14, .t 16, .t 18], none⟩,
  ⟨none, .store 9, [.t 2, .t 19], none⟩] [] [] [2] true [2] []
noncomputable def c35_2 : ACode := .seq c35_3 .ret
noncomputable def c35_0 : ACode := .seq c35_1 c35_2
noncomputable def code35 : Code := (Tryz.f35.body).getD .skip
theorem c35_ok : compC Tryz.prog 20 code35 = some (strip c35_0) := by kernel_rfl
theorem res35_ok : Tryz.f35.results.toList.mapM (resC Tryz.prog) = some [(2, some (true, 9))] := by kernel_rfl
/- quidnunc/quidnuncref05.Check -/
theorem to05_any (e : En) : ACall Tryz.prog 35 [EnA e] [] (Det (EnA e) []) := by
  refine ACall.startA c35_ok Tryz.func35 rfl Tryz.ntmps35 (by kernel_rfl) res35_ok rfl rfl rfl ?_; simp (maxSteps := 9999999) (disch := omega) only [go_sem]
  (have k9 := k0; (repeat' (first | refine AWpA.seq ?_ | refine AWpA.block ?_ | (with_reducible refine CondP.tt ?_) | (with_reducible refine CondP.ff ?_) | refine AWpA.cg ?_ | ((first | refine AWpA.rg ?_ | refine AWpA.dg [] [] follows ?_ | refine TailK.tg ?_ | refine AWpA.skip ?_ | refine AWpA.exit ?_ | refine AWpA.ret ?_ | (with_reducible refine ARoundsA.succ ?_) | ((first | refine Runs.gkt (fun h9 => ?_) | refine Runs.gkf (fun h9 => ?_) | refine Runs.gnt (fun h9 => ?_) | refine Runs.gnf (fun h9 => ?_) | refine CondP.gt (fun h9 => ?_) | refine CondP.gf (fun h9 => ?_) | refine CondP.gnt (fun h9 => ?_) | refine CondP.gnf (fun h9 => ?_)); (try simp only [h9]); clear h9) | refine CallG.pg [] (to04_any _) ?_ | refine CallG.dg [] (to04_any _) ?_); (try simp (maxSteps := 9999999) (disch := omega) only [go_sem, k9]); (try refine cnd ?_)) | ((first | refine CondP.split (fun hif => ?_) (fun hif => ?_) | refine Runs.part (fun hif => ?_) (fun hif => ?_)) <;> ((try simp only [hif]); (try simp only [BL] at hif); (try (have h9 : _ = true := hif; simp only [h9])); (try (have h9 : _ = false := hif; simp only [h9])); (try simp (maxSteps := 9999999) (disch := omega) only [go_sem, k9]); (try refine cnd ?_); (try (exfalso; omega; done)))))); (all_goals (try clear k9)))
  all_goals (apply Ret.det []; (focus (first | exact .inl rfl | exact .inr rfl)); (focus (simp (maxSteps := 9999999) (disch := omega) only [go_sem]; rfl)); (simp (maxSteps := 9999999) (disch := omega) only [go_sem]; (try (repeat' (first | done | trivial | rfl | exact leAs_rfl _ | decide | (refine And.intro ?_ ?_) | (simp; done) | omega | (simp; decide))))))
end Go.Proofs.YtopidfkmligljaaGreat
