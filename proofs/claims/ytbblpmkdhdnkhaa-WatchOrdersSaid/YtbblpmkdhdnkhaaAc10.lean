/- Contracts: entries put, woken; the document's. -/
import Derived.Test.YtbblpmkdhdnkhaaAc8
namespace Go.Proofs.Ytbblpmkdhdnkhaa
set_option linter.unusedSimpArgs false
set_option linter.unusedVariables false
set_option maxHeartbeats 4000000
open Go Go.Am Go.RowKit Go.ChangeShapes Go.WideShapes Go.ChangeAt
open Go.ChangeMaps (open_string shut_string)
set_option maxRecDepth 100000
/- quidnunc/quidnunclaw05.To -/
noncomputable def c54_1 : ACode := .region false [⟨some 1, .box 0, [.t 0], none⟩,
  ⟨some 2, .alloc [(.string ⟨#[]⟩), (.string ⟨#[]⟩), (.bool false), (.int .i64 0), (.int .i64 0), (.int .i64 0), (.int .i64 0), (.int .i64 0), (.int .i64 0)], [], none⟩] [] [] [1, 2] true [] []
noncomputable def c54_3 : ACode := .region true [⟨some 3, .addr 0, [.t 1], none⟩,
  ⟨some 4, .load false 1, [.t 3], none⟩,
  ⟨some 5, .addr 1, [.t 1], none⟩,
  ⟨some 6, .load false 1, [.t 5], none⟩,
  ⟨some 7, .addr 2, [.t 1], none⟩,
  ⟨some 8, .load false 1, [.t 7], none⟩,
  ⟨some 9, .addr 3, [.t 1], none⟩,
  ⟨some 10, .load true 2, [.t 9], none⟩,
  ⟨some 11, .call 61, [.t 10], none⟩,
  ⟨some 12, .addr 5, [.t 1], none⟩,
  ⟨some 13, .load true 2, [.t 12], none⟩,
  ⟨some 14, .call 61, [.t 13], none⟩,
  ⟨some 15, .addr 7, [.t 1], none⟩,
  ⟨some 16, .load false 1, [.t 15], none⟩,
  ⟨some 17, .addr 8, [.t 1], none⟩,
  ⟨some 18, .load false 1, [.t 17], none⟩,
  ⟨some 19, .build [(.string ⟨#[]⟩), (.string ⟨#[]⟩), (.bool false), (.int .i64 0), (.int .i64 0), (.int .i64 0), (.int .i64 0), (.int .i64 0), (.int .i64 0)] [(0, 1), (1, 1), (2, 1), (3, 2), (5, 2), (7, 1), (8, 1)], [.t 4, .t 6, .t 8, .t 11, .t 14, .t 16, .t 18], none⟩,
  ⟨none, .store 9, [.t 2, .t 19], none⟩] [] [] [2] true [2] []
noncomputable def c54_2 : ACode := .seq c54_3 .ret
noncomputable def c54_0 : ACode := .seq c54_1 c54_2
noncomputable def code54 : Code := (Try.f54.body).getD .skip
theorem c54_ok : compC Try.prog 20 code54 = some (strip c54_0) := by kernel_rfl
theorem res54_ok : Try.f54.results.toList.mapM (resC Try.prog) = some [(2, some (true, 9))] := by kernel_rfl
theorem to05_any (e : En) : ACall Try.prog 54 [EnA e] [] (Det (EnA e) []) := by
  refine ACall.startA c54_ok Try.func54 rfl Try.ntmps54 (by kernel_rfl) res54_ok rfl rfl rfl ?_; simp (maxSteps := 9999999) (disch := omega) only [go_sem]
  (have k9 := k0; (repeat' (first | refine AWpA.seq ?_ | refine AWpA.block ?_ | (with_reducible refine CondP.tt ?_) | (with_reducible refine CondP.ff ?_) | refine AWpA.cg ?_ | ((first | refine AWpA.rg ?_ | refine AWpA.dg [] [] follows ?_ | refine TailK.tg ?_ | refine AWpA.skip ?_ | refine AWpA.exit ?_ | refine AWpA.ret ?_ | (with_reducible refine ARoundsA.succ ?_) | ((first | refine Runs.gkt (fun h9 => ?_) | refine Runs.gkf (fun h9 => ?_) | refine Runs.gnt (fun h9 => ?_) | refine Runs.gnf (fun h9 => ?_) | refine CondP.gt (fun h9 => ?_) | refine CondP.gf (fun h9 => ?_) | refine CondP.gnt (fun h9 => ?_) | refine CondP.gnf (fun h9 => ?_)); (try simp only [h9]); clear h9) | refine CallG.pg [] (to04_any _) ?_ | refine CallG.dg [] (to04_any _) ?_); (try simp (maxSteps := 9999999) (disch := omega) only [go_sem, k9]); (try refine cnd ?_)) | ((first | refine CondP.split (fun hif => ?_) (fun hif => ?_) | refine Runs.part (fun hif => ?_) (fun hif => ?_)) <;> ((try simp only [hif]); (try simp only [BL] at hif); (try (have h9 : _ = true := hif; simp only [h9])); (try (have h9 : _ = false := hif; simp only [h9])); (try simp (maxSteps := 9999999) (disch := omega) only [go_sem, k9]); (try refine cnd ?_); (try (exfalso; omega; done)))))); (all_goals (try clear k9)))
  all_goals (apply Ret.det []; (focus (first | exact .inl rfl | exact .inr rfl)); (focus (simp (maxSteps := 9999999) (disch := omega) only [go_sem]; rfl)); (simp (maxSteps := 9999999) (disch := omega) only [go_sem]; (try (repeat' (first | done | trivial | rfl | exact leAs_rfl _ | decide | (refine And.intro ?_ ?_) | (simp; done) | omega | (simp; decide))))))
theorem val_nil (v : ByteArray) : (v == ⟨#[]⟩) = !decide (0 < (v.size : Int)) := by
  cases v with
  | mk a =>
    by_cases h : a.size = 0
    · have : a = #[] := Array.eq_empty_of_size_eq_zero h
      subst this
      decide
    · have h1 : ((⟨a⟩ : ByteArray) == ⟨#[]⟩) = false := by
        show (a == #[]) = false
        rw [beq_eq_false_iff_ne]
        intro e
        rw [e] at h
        exact h rfl
      rw [h1]
      have : ((⟨a⟩ : ByteArray).size : Int) = a.size := rfl
      simp [this]; omega
abbrev putEn (key val : ByteArray) (s : St) : En := ⟨key, val, false, s, s, 0, 0⟩
def wakeI (e : En) (a : St) : Int := if checkI e = 0 then (if e.dead = true then (if goodB a = true then (if laterB a e.act = true then 0 else 1) else 1) else 1) else checkI e
def wakeE (e : En) (a : St) : En := if wakeI e a = 0 then { e with act := a, age := 0 } else noEn
end Go.Proofs.Ytbblpmkdhdnkhaa
