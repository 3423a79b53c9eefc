/- Contracts: entries put, woken; the document's. -/
import Derived.Test.YtopidfkmligljaaGreatAc6
import Derived.Test.YtopidfkmligljaaGreatEg5
/- Contracts: who keeps certificates; deletes. -/
namespace Go.Proofs.YtopidfkmligljaaGreat
noncomputable section
set_option linter.unusedSimpArgs false
set_option linter.unusedVariables false
set_option maxHeartbeats 4000000
open Go Go.Am Go.RowKit Go.ChangeShapes Go.WideShapes Go.ChangeAt
open Go.ChangeMaps (open_string shut_string)
set_option maxRecDepth 100000

abbrev noSt : St := ⟨0, 0⟩
abbrev noEn : En := ⟨⟨#[]⟩, ⟨#[]⟩, false, noSt, noSt, 0, 0⟩
end
end Go.Proofs.YtopidfkmligljaaGreat
namespace Go.Proofs.YtopidfkmligljaaGreat
noncomputable section
set_option linter.unusedSimpArgs false
set_option linter.unusedVariables false
set_option maxHeartbeats 4000000
open Go Go.Am Go.RowKit Go.ChangeShapes Go.WideShapes Go.ChangeAt
open Go.ChangeMaps (open_string shut_string)
set_option maxRecDepth 100000
/- quidnunc/quidnunclaw05.To -/
def c35_1 : ACode := .region false [⟨some 1, .box 0, [.t 0], none⟩,
  ⟨some 2, .alloc [(.string ⟨#[]⟩), (.string ⟨#[]⟩), (.bool false), (.int .i64 0), (.int .i64 0), (.int .i64 0), (.int .i64 0), (.int .i64 0), (.int .i64 0)], [], none⟩] [] [] [1, 2] true [] []
def c35_3 : ACode := .region true [⟨some 3, .addr 0, [.t 1], none⟩,
  ⟨some 4, .load false 1, [.t 3], none⟩,
  ⟨some 5, .addr 1, [.t 1], none⟩,
  ⟨some 6, .load false 1, [.t 5], none⟩,
  ⟨some 7, .addr 2, [.t 1], none⟩,
  ⟨some 8, .load false 1, [.t 7], none⟩,
  ⟨some 9, .addr 3, [.t 1], none⟩,
  ⟨some 10, .load true 2, [.t 9], none⟩,
  ⟨some 11, .call 86, [.t 10], none⟩,
  ⟨some 12, .addr 5, [.t 1], none⟩,
  ⟨some 13, .load true 2, [.t 12], none⟩,
  ⟨some 14, .call 86, [.t 13], none⟩,
  ⟨some 15, .addr 7, [.t 1], none⟩,
  ⟨some 16, .load false 1, [.t 15], none⟩,
  ⟨some 17, .addr 8, [.t 1], none⟩,
  ⟨some 18, .load false 1, [.t 17], none⟩,
  ⟨some 19, .build [(.string ⟨#[]⟩), (.string ⟨#[]⟩), (.bool false), (.int .i64 0), (.int .i64 0), (.int .i64 0), (.int .i64 0), (.int .i64 0), (.int .i64 0)] [(0, 1), (1, 1), (2, 1), (3, 2), (5, 2), (7, 1), (8, 1)], [.t 4, .t 6, .t 8, .t 11, .t 14, .t 16, .t 18], none⟩,
  ⟨none, .store 9, [.t 2, .t 19], none⟩] [] [] [2] true [2] []
def c35_2 : ACode := .seq c35_3 .ret
def c35_0 : ACode := .seq c35_1 c35_2
def code35 : Code := (Tryz.f35.body).getD .skip
theorem c35_ok : compC Tryz.prog 20 code35 = some (strip c35_0) := by kernel_rfl
theorem res35_ok : Tryz.f35.results.toList.mapM (resC Tryz.prog) = some [(2, some (true, 9))] := by kernel_rfl
/- quidnunc/quidnuncref05.Check -/
def c47_1 : ACode := .region false [⟨some 1, .box 0, [.t 0], none⟩,
  ⟨some 2, .move, [.c (.val (.int .i64 0))], none⟩] [] [] [1] true [] []
def c47_4 : ACode := .region false [⟨some 3, .addr 0, [.t 1], none⟩,
  ⟨some 4, .load false 1, [.t 3], none⟩,
  ⟨some 5, .lenStr, [.t 4], none⟩,
  ⟨some 6, .bin .lss, [.t 5, .c (.val (.int .i64 1))], none⟩,
  ⟨some 7, .move, [.t 6], none⟩,
  ⟨some 8, .addr 0, [.t 1], some (some 7, false)⟩,
  ⟨some 9, .load false 1, [.t 8], some (some 7, false)⟩,
  ⟨some 10, .lenStr, [.t 9], some (some 7, false)⟩,
  ⟨some 11, .bin .gtr, [.t 10, .c (.val (.int .i64 16))], some (some 7, false)⟩,
  ⟨some 12, .pick, [.t 7, .c (.val (.bool true)), .t 11], none⟩] [] [] [1, 12] false [] []
def c47_7 : ACode := .region false [⟨some 2, .move, [.c (.val (.int .i64 9))], none⟩] [] [] [2] false [] []
def c47_6 : ACode := .seq c47_7 .ret
def c47_5 : ACode := .cond (.t 12) c47_6 .skip
def c47_3 : ACode := .seq c47_4 c47_5
def c47_10 : ACode := .region false [⟨some 13, .addr 1, [.t 1], none⟩,
  ⟨some 14, .load false 1, [.t 13], none⟩,
  ⟨some 15, .lenStr, [.t 14], none⟩,
  ⟨some 16, .bin .gtr, [.t 15, .c (.val (.int .i64 32))], none⟩,
  ⟨some 17, .move, [.t 16], none⟩,
  ⟨some 18, .addr 2, [.t 1], some (some 17, false)⟩,
  ⟨some 19, .load false 1, [.t 18], some (some 17, false)⟩,
  ⟨some 20, .move, [.t 19], some (some 17, false)⟩,
  ⟨some 21, .addr 1, [.t 1], some (some 20, true)⟩,
  ⟨some 22, .load false 1, [.t 21], some (some 20, true)⟩,
  ⟨some 23, .lenStr, [.t 22], some (some 20, true)⟩,
  ⟨some 24, .bin .gtr, [.t 23, .c (.val (.int .i64 0))], some (some 20, true)⟩,
  ⟨some 25, .pick, [.t 20, .t 24, .c (.val (.bool false))], some (some 17, false)⟩,
  ⟨some 26, .pick, [.t 17, .c (.val (.bool true)), .t 25], none⟩] [] [] [1, 26] false [] []
def c47_13 : ACode := .region false [⟨some 2, .move, [.c (.val (.int .i64 10))], none⟩] [] [] [2] false [] []
def c47_12 : ACode := .seq c47_13 .ret
def c47_11 : ACode := .cond (.t 26) c47_12 .skip
def c47_9 : ACode := .seq c47_10 c47_11
def c47_16 : ACode := .region false [⟨some 27, .addr 3, [.t 1], none⟩,
  ⟨some 28, .load true 2, [.t 27], none⟩,
  ⟨some 29, .call 105, [.t 28], none⟩,
  ⟨some 30, .un .not, [.t 29], none⟩,
  ⟨some 31, .move, [.t 30], none⟩,
  ⟨some 32, .addr 5, [.t 1], some (some 31, false)⟩,
  ⟨some 33, .load true 2, [.t 32], some (some 31, false)⟩,
  ⟨some 34, .call 105, [.t 33], some (some 31, false)⟩,
  ⟨some 35, .un .not, [.t 34], some (some 31, false)⟩,
  ⟨some 36, .pick, [.t 31, .c (.val (.bool true)), .t 35], none⟩,
  ⟨some 37, .move, [.t 36], none⟩,
  ⟨some 38, .addr 3, [.t 1], some (some 37, false)⟩,
  ⟨some 39, .load true 2, [.t 38], some (some 37, false)⟩,
  ⟨some 40, .addr 5, [.t 1], some (some 37, false)⟩,
  ⟨some 41, .load true 2, [.t 40], some (some 37, false)⟩,
  ⟨some 42, .call 106, [.t 39, .t 41], some (some 37, false)⟩,
  ⟨some 43, .pick, [.t 37, .c (.val (.bool true)), .t 42], none⟩] [] [] [1, 43] true [] []
def c47_19 : ACode := .region false [⟨some 2, .move, [.c (.val (.int .i64 1))], none⟩] [] [] [2] false [] []
def c47_18 : ACode := .seq c47_19 .ret
def c47_17 : ACode := .cond (.t 43) c47_18 .skip
def c47_15 : ACode := .seq c47_16 c47_17
def c47_22 : ACode := .region false [⟨some 44, .addr 2, [.t 1], none⟩,
  ⟨some 45, .load false 1, [.t 44], none⟩,
  ⟨some 46, .un .not, [.t 45], none⟩,
  ⟨some 47, .move, [.t 46], none⟩,
  ⟨some 48, .addr 5, [.t 1], some (some 47, true)⟩,
  ⟨some 49, .load true 2, [.t 48], some (some 47, true)⟩,
  ⟨some 50, .addr 3, [.t 1], some (some 47, true)⟩,
  ⟨some 51, .load true 2, [.t 50], some (some 47, true)⟩,
  ⟨some 52, .eqA true [(0, 0), (1, 0)], [.t 49, .t 51], some (some 47, true)⟩,
  ⟨some 53, .move, [.t 52], some (some 47, true)⟩,
  ⟨some 54, .addr 7, [.t 1], some (some 53, false)⟩,
  ⟨some 55, .load false 1, [.t 54], some (some 53, false)⟩,
  ⟨some 56, .bin .neq, [.t 55, .c (.val (.int .i64 0))], some (some 53, false)⟩,
  ⟨some 57, .pick, [.t 53, .c (.val (.bool true)), .t 56], some (some 47, true)⟩,
  ⟨some 58, .move, [.t 57], some (some 47, true)⟩,
  ⟨some 59, .addr 8, [.t 1], some (some 58, false)⟩,
  ⟨some 60, .load false 1, [.t 59], some (some 58, false)⟩,
  ⟨some 61, .bin .neq, [.t 60, .c (.val (.int .i64 0))], some (some 58, false)⟩,
  ⟨some 62, .pick, [.t 58, .c (.val (.bool true)), .t 61], some (some 47, true)⟩,
  ⟨some 63, .pick, [.t 47, .t 62, .c (.val (.bool false))], none⟩] [] [] [1, 63] false [] []
def c47_25 : ACode := .region false [⟨some 2, .move, [.c (.val (.int .i64 1))], none⟩] [] [] [2] false [] []
def c47_24 : ACode := .seq c47_25 .ret
def c47_23 : ACode := .cond (.t 63) c47_24 .skip
def c47_21 : ACode := .seq c47_22 c47_23
def c47_28 : ACode := .region false [⟨some 64, .addr 2, [.t 1], none⟩,
  ⟨some 65, .load false 1, [.t 64], none⟩,
  ⟨some 66, .move, [.t 65], none⟩,
  ⟨some 67, .addr 7, [.t 1], some (some 66, true)⟩,
  ⟨some 68, .load false 1, [.t 67], some (some 66, true)⟩,
  ⟨some 69, .bin .lss, [.t 68, .c (.val (.int .i64 1))], some (some 66, true)⟩,
  ⟨some 70, .move, [.t 69], some (some 66, true)⟩,
  ⟨some 71, .addr 7, [.t 1], some (some 70, false)⟩,
  ⟨some 72, .load false 1, [.t 71], some (some 70, false)⟩,
  ⟨some 73, .bin .gtr, [.t 72, .c (.val (.int .i64 4095))], some (some 70, false)⟩,
  ⟨some 74, .pick, [.t 70, .c (.val (.bool true)), .t 73], some (some 66, true)⟩,
  ⟨some 75, .move, [.t 74], some (some 66, true)⟩,
  ⟨some 76, .addr 8, [.t 1], some (some 75, false)⟩,
  ⟨some 77, .load false 1, [.t 76], some (some 75, false)⟩,
  ⟨some 78, .bin .lss, [.t 77, .c (.val (.int .i64 0))], some (some 75, false)⟩,
  ⟨some 79, .pick, [.t 75, .c (.val (.bool true)), .t 78], some (some 66, true)⟩,
  ⟨some 80, .move, [.t 79], some (some 66, true)⟩,
  ⟨some 81, .addr 8, [.t 1], some (some 80, false)⟩,
  ⟨some 82, .load false 1, [.t 81], some (some 80, false)⟩,
  ⟨some 83, .bin .gtr, [.t 82, .c (.val (.int .i64 2147483647))], some (some 80, false)⟩,
  ⟨some 84, .pick, [.t 80, .c (.val (.bool true)), .t 83], some (some 66, true)⟩,
  ⟨some 85, .pick, [.t 66, .t 84, .c (.val (.bool false))], none⟩] [] [] [85] false [] []
def c47_31 : ACode := .region false [⟨some 2, .move, [.c (.val (.int .i64 1))], none⟩] [] [] [2] false [] []
def c47_30 : ACode := .seq c47_31 .ret
def c47_29 : ACode := .cond (.t 85) c47_30 .skip
def c47_27 : ACode := .seq c47_28 c47_29
def c47_33 : ACode := .region false [⟨some 2, .move, [.c (.val (.int .i64 0))], none⟩] [] [] [2] false [] []
def c47_32 : ACode := .seq c47_33 .ret
def c47_26 : ACode := .seq c47_27 c47_32
def c47_20 : ACode := .seq c47_21 c47_26
def c47_14 : ACode := .seq c47_15 c47_20
def c47_8 : ACode := .seq c47_9 c47_14
def c47_2 : ACode := .seq c47_3 c47_8
def c47_0 : ACode := .seq c47_1 c47_2
def code47 : Code := (Tryz.f47.body).getD .skip
theorem c47_ok : compC Tryz.prog 86 code47 = some (strip c47_0) := by kernel_rfl
theorem res47_ok : Tryz.f47.results.toList.mapM (resC Tryz.prog) = some [(2, none)] := by kernel_rfl
theorem to05_any (e : En) : ACall Tryz.prog 35 [EnA e] [] (Det (EnA e) []) := by
  refine ACall.startA c35_ok Tryz.func35 rfl Tryz.ntmps35 (by kernel_rfl) res35_ok rfl rfl rfl ?_; simp (maxSteps := 9999999) (disch := omega) only [go_sem]
  (have k9 := k0; (repeat' (first | refine AWpA.seq ?_ | refine AWpA.block ?_ | (with_reducible refine CondP.tt ?_) | (with_reducible refine CondP.ff ?_) | refine AWpA.cg ?_ | ((first | refine AWpA.rg ?_ | refine AWpA.dg [] [] follows ?_ | refine TailK.tg ?_ | refine AWpA.skip ?_ | refine AWpA.exit ?_ | refine AWpA.ret ?_ | (with_reducible refine ARoundsA.succ ?_) | ((first | refine Runs.gkt (fun h9 => ?_) | refine Runs.gkf (fun h9 => ?_) | refine Runs.gnt (fun h9 => ?_) | refine Runs.gnf (fun h9 => ?_) | refine CondP.gt (fun h9 => ?_) | refine CondP.gf (fun h9 => ?_) | refine CondP.gnt (fun h9 => ?_) | refine CondP.gnf (fun h9 => ?_)); (try simp only [h9]); clear h9) | refine CallG.pg [] (to04_any _) ?_ | refine CallG.dg [] (to04_any _) ?_); (try simp (maxSteps := 9999999) (disch := omega) only [go_sem, k9]); (try refine cnd ?_)) | ((first | refine CondP.split (fun hif => ?_) (fun hif => ?_) | refine Runs.part (fun hif => ?_) (fun hif => ?_)) <;> ((try simp only [hif]); (try simp only [BL] at hif); (try (have h9 : _ = true := hif; simp only [h9])); (try (have h9 : _ = false := hif; simp only [h9])); (try simp (maxSteps := 9999999) (disch := omega) only [go_sem, k9]); (try refine cnd ?_); (try (exfalso; omega; done)))))); (all_goals (try clear k9)))
  all_goals (apply Ret.det []; (focus (first | exact .inl rfl | exact .inr rfl)); (focus (simp (maxSteps := 9999999) (disch := omega) only [go_sem]; rfl)); (simp (maxSteps := 9999999) (disch := omega) only [go_sem]; (try (repeat' (first | done | trivial | rfl | exact leAs_rfl _ | decide | (refine And.intro ?_ ?_) | (simp; done) | omega | (simp; decide))))))
theorem val_nil (v : ByteArray) : (v == ⟨#[]⟩) = !decide (0 < (v.size : Int)) := by
  cases v with
  | mk a =>
    by_cases h : a.size = 0
    · have : a = #[] := Array.eq_empty_of_size_eq_zero h
      subst this
      decide
    · have h1 : ((⟨a⟩ : ByteArray) == ⟨#[]⟩) = false := by
        show (a == #[]) = false
        rw [beq_eq_false_iff_ne]
        intro e
        rw [e] at h
        exact h rfl
      rw [h1]
      have : ((⟨a⟩ : ByteArray).size : Int) = a.size := rfl
      simp [this]; omega
set_option maxHeartbeats 20000000 in
theorem rcheck_any (e : En) : ACall Tryz.prog 47 [EnA e] [] (Det (I (checkI e)) []) := by
  refine ACall.startA c47_ok Tryz.func47 rfl Tryz.ntmps47 (by kernel_rfl) res47_ok rfl rfl rfl ?_; simp (maxSteps := 9999999) (disch := omega) only [go_sem]
  (have k9 := k0; (repeat' (first | refine AWpA.seq ?_ | refine AWpA.block ?_ | (with_reducible refine CondP.tt ?_) | (with_reducible refine CondP.ff ?_) | refine AWpA.cg ?_ | ((first | refine AWpA.rg ?_ | refine AWpA.dg [] [] follows ?_ | refine TailK.tg ?_ | refine AWpA.skip ?_ | refine AWpA.exit ?_ | refine AWpA.ret ?_ | (with_reducible refine ARoundsA.succ ?_) | ((first | refine Runs.gkt (fun h9 => ?_) | refine Runs.gkf (fun h9 => ?_) | refine Runs.gnt (fun h9 => ?_) | refine Runs.gnf (fun h9 => ?_) | refine CondP.gt (fun h9 => ?_) | refine CondP.gf (fun h9 => ?_) | refine CondP.gnt (fun h9 => ?_) | refine CondP.gnf (fun h9 => ?_)); (try simp only [h9]); clear h9) | refine CallG.pg [] (rgood_any _) ?_ | refine CallG.pg [] (later_any _ _) ?_ | refine CallG.dg [] (rgood_any _) ?_ | refine CallG.dg [] (later_any _ _) ?_); (try simp (maxSteps := 9999999) (disch := omega) only [go_sem, k9]); (try refine cnd ?_)) | ((first | refine CondP.split (fun hif => ?_) (fun hif => ?_) | refine Runs.part (fun hif => ?_) (fun hif => ?_)) <;> ((try simp only [hif]); (try simp only [BL] at hif); (try (have h9 : _ = true := hif; simp only [h9])); (try (have h9 : _ = false := hif; simp only [h9])); (try simp (maxSteps := 9999999) (disch := omega) only [go_sem, k9]); (try refine cnd ?_); (try (exfalso; omega; done)))))); (all_goals (try clear k9)))
  all_goals
    (apply Ret.det []; (focus (first | exact .inl rfl | exact .inr rfl)); (focus (simp (maxSteps := 9999999) (disch := omega) only [go_sem]; rfl)); (simp (maxSteps := 9999999) (disch := omega) only [go_sem]; (try (repeat' (first | done | trivial | rfl | exact leAs_rfl _ | decide | (refine And.intro ?_ ?_) | (simp; done) | omega | (simp; decide))))))
    all_goals (simp_all [checkI, shapeB, val_nil, keptB, plainB, eqSt]; try omega)
end
end Go.Proofs.YtopidfkmligljaaGreat
