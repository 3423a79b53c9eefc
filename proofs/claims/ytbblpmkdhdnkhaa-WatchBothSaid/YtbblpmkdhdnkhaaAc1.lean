/- Contracts, small functions. -/
import Derived.Test.YtbblpmkdhdnkhaaAc0
namespace Go.Proofs.Ytbblpmkdhdnkhaa
set_option linter.unusedSimpArgs false
set_option linter.unusedVariables false
set_option maxHeartbeats 4000000
open Go Go.Am
set_option maxRecDepth 100000
/- cmp.isNaN[int] -/
noncomputable def c62_1 : ACode := .region false [⟨some 2, .move, [.c (.val (.bool false))], none⟩] [] [] [0] false [] []
noncomputable def c62_3 : ACode := .region false [⟨some 3, .move, [.t 0], none⟩,
  ⟨some 4, .move, [.t 0], none⟩,
  ⟨some 5, .bin .neq, [.t 3, .t 4], none⟩,
  ⟨some 2, .move, [.t 5], none⟩] [] [] [2] false [] []
noncomputable def c62_2 : ACode := .seq c62_3 .ret
noncomputable def c62_0 : ACode := .seq c62_1 c62_2
noncomputable def code62 : Code := (Try.f62.body).getD .skip
theorem c62_ok : compC Try.prog 6 code62 = some (strip c62_0) := by kernel_rfl
theorem res62_ok : Try.f62.results.toList.mapM (resC Try.prog) = some [(2, none)] := by kernel_rfl
/- cmp.Compare[int] -/
noncomputable def c57_1 : ACode := .region false [⟨some 4, .move, [.c (.val (.int .i64 0))], none⟩] [] [] [0, 1] false [] []
noncomputable def c57_3 : ACode := .region false [⟨some 7, .move, [.t 0], none⟩,
  ⟨some 8, .call 62, [.t 7], none⟩,
  ⟨some 5, .move, [.t 8], none⟩] [] [] [0, 1, 5] true [] []
noncomputable def c57_5 : ACode := .region false [⟨some 9, .move, [.t 1], none⟩,
  ⟨some 10, .call 62, [.t 9], none⟩,
  ⟨some 6, .move, [.t 10], none⟩] [] [] [0, 1, 5, 6] true [] []
noncomputable def c57_8 : ACode := .region false [⟨some 11, .move, [.t 5], none⟩] [] [] [0, 1, 6, 11] false [] []
noncomputable def c57_12 : ACode := .region false [⟨some 12, .move, [.t 6], none⟩] [] [] [12] false [] []
noncomputable def c57_15 : ACode := .region false [⟨some 4, .move, [.c (.val (.int .i64 0))], none⟩] [] [] [4] false [] []
noncomputable def c57_14 : ACode := .seq c57_15 .ret
noncomputable def c57_13 : ACode := .cond (.t 12) c57_14 .skip
noncomputable def c57_11 : ACode := .seq c57_12 c57_13
noncomputable def c57_17 : ACode := .region false [⟨some 4, .move, [.c (.val (.int .i64 (-1)))], none⟩] [] [] [4] false [] []
noncomputable def c57_16 : ACode := .seq c57_17 .ret
noncomputable def c57_10 : ACode := .seq c57_11 c57_16
noncomputable def c57_9 : ACode := .cond (.t 11) c57_10 .skip
noncomputable def c57_7 : ACode := .seq c57_8 c57_9
noncomputable def c57_20 : ACode := .region false [⟨some 13, .move, [.t 6], none⟩] [] [] [0, 1, 13] false [] []
noncomputable def c57_23 : ACode := .region false [⟨some 4, .move, [.c (.val (.int .i64 1))], none⟩] [] [] [4] false [] []
noncomputable def c57_22 : ACode := .seq c57_23 .ret
noncomputable def c57_21 : ACode := .cond (.t 13) c57_22 .skip
noncomputable def c57_19 : ACode := .seq c57_20 c57_21
noncomputable def c57_26 : ACode := .region false [⟨some 14, .move, [.t 0], none⟩,
  ⟨some 15, .move, [.t 1], none⟩,
  ⟨some 16, .bin .lss, [.t 14, .t 15], none⟩] [] [] [0, 1, 16] false [] []
noncomputable def c57_29 : ACode := .region false [⟨some 4, .move, [.c (.val (.int .i64 (-1)))], none⟩] [] [] [4] false [] []
noncomputable def c57_28 : ACode := .seq c57_29 .ret
noncomputable def c57_27 : ACode := .cond (.t 16) c57_28 .skip
noncomputable def c57_25 : ACode := .seq c57_26 c57_27
noncomputable def c57_32 : ACode := .region false [⟨some 17, .move, [.t 0], none⟩,
  ⟨some 18, .move, [.t 1], none⟩,
  ⟨some 19, .bin .gtr, [.t 17, .t 18], none⟩] [] [] [19] false [] []
noncomputable def c57_35 : ACode := .region false [⟨some 4, .move, [.c (.val (.int .i64 1))], none⟩] [] [] [4] false [] []
noncomputable def c57_34 : ACode := .seq c57_35 .ret
noncomputable def c57_33 : ACode := .cond (.t 19) c57_34 .skip
noncomputable def c57_31 : ACode := .seq c57_32 c57_33
noncomputable def c57_37 : ACode := .region false [⟨some 4, .move, [.c (.val (.int .i64 0))], none⟩] [] [] [4] false [] []
noncomputable def c57_36 : ACode := .seq c57_37 .ret
noncomputable def c57_30 : ACode := .seq c57_31 c57_36
noncomputable def c57_24 : ACode := .seq c57_25 c57_30
noncomputable def c57_18 : ACode := .seq c57_19 c57_24
noncomputable def c57_6 : ACode := .seq c57_7 c57_18
noncomputable def c57_4 : ACode := .seq c57_5 c57_6
noncomputable def c57_2 : ACode := .seq c57_3 c57_4
noncomputable def c57_0 : ACode := .seq c57_1 c57_2
noncomputable def code57 : Code := (Try.f57.body).getD .skip
theorem c57_ok : compC Try.prog 20 code57 = some (strip c57_0) := by kernel_rfl
theorem res57_ok : Try.f57.results.toList.mapM (resC Try.prog) = some [(4, none)] := by kernel_rfl
/- quidnunc/quidnuncref04.Later -/
noncomputable def c41_1 : ACode := .region false [⟨some 2, .box 0, [.t 0], none⟩,
  ⟨some 3, .box 0, [.t 1], none⟩,
  ⟨some 4, .move, [.c (.val (.bool false))], none⟩] [] [] [2, 3] true [] []
noncomputable def c41_4 : ACode := .region false [⟨some 5, .addr 0, [.t 2], none⟩,
  ⟨some 6, .load false 1, [.t 5], none⟩,
  ⟨some 7, .addr 0, [.t 3], none⟩,
  ⟨some 8, .load false 1, [.t 7], none⟩,
  ⟨some 9, .bin .neq, [.t 6, .t 8], none⟩] [] [] [2, 3, 9] false [] []
noncomputable def c41_7 : ACode := .region false [⟨some 10, .addr 0, [.t 2], none⟩,
  ⟨some 11, .load false 1, [.t 10], none⟩,
  ⟨some 12, .addr 0, [.t 3], none⟩,
  ⟨some 13, .load false 1, [.t 12], none⟩,
  ⟨some 14, .bin .gtr, [.t 11, .t 13], none⟩,
  ⟨some 4, .move, [.t 14], none⟩] [] [] [4] false [] []
noncomputable def c41_6 : ACode := .seq c41_7 .ret
noncomputable def c41_5 : ACode := .cond (.t 9) c41_6 .skip
noncomputable def c41_3 : ACode := .seq c41_4 c41_5
noncomputable def c41_9 : ACode := .region false [⟨some 15, .addr 1, [.t 2], none⟩,
  ⟨some 16, .load false 1, [.t 15], none⟩,
  ⟨some 17, .addr 1, [.t 3], none⟩,
  ⟨some 18, .load false 1, [.t 17], none⟩,
  ⟨some 19, .bin .gtr, [.t 16, .t 18], none⟩,
  ⟨some 4, .move, [.t 19], none⟩] [] [] [4] false [] []
noncomputable def c41_8 : ACode := .seq c41_9 .ret
noncomputable def c41_2 : ACode := .seq c41_3 c41_8
noncomputable def c41_0 : ACode := .seq c41_1 c41_2
noncomputable def code41 : Code := (Try.f41.body).getD .skip
theorem c41_ok : compC Try.prog 20 code41 = some (strip c41_0) := by kernel_rfl
theorem res41_ok : Try.f41.results.toList.mapM (resC Try.prog) = some [(4, none)] := by kernel_rfl
/- quidnunc/quidnunclaw04.Of -/
noncomputable def c42_1 : ACode := .region false [⟨some 1, .box 0, [.t 0], none⟩,
  ⟨some 2, .alloc [(.int .i64 0), (.int .i64 0)], [], none⟩] [] [] [1, 2] true [] []
noncomputable def c42_3 : ACode := .region false [⟨some 3, .addr 0, [.t 1], none⟩,
  ⟨some 4, .load false 1, [.t 3], none⟩,
  ⟨some 5, .addr 1, [.t 1], none⟩,
  ⟨some 6, .load false 1, [.t 5], none⟩,
  ⟨some 7, .build [(.int .i64 0), (.int .i64 0)] [(0, 1), (1, 1)], [.t 4, .t 6], none⟩,
  ⟨none, .store 2, [.t 2, .t 7], none⟩] [] [] [2] true [] []
noncomputable def c42_2 : ACode := .seq c42_3 .ret
noncomputable def c42_0 : ACode := .seq c42_1 c42_2
noncomputable def code42 : Code := (Try.f42.body).getD .skip
theorem c42_ok : compC Try.prog 8 code42 = some (strip c42_0) := by kernel_rfl
theorem res42_ok : Try.f42.results.toList.mapM (resC Try.prog) = some [(2, some (true, 2))] := by kernel_rfl
/- quidnunc/quidnunclaw04.To -/
noncomputable def c61_1 : ACode := .region false [⟨some 1, .box 0, [.t 0], none⟩,
  ⟨some 2, .alloc [(.int .i64 0), (.int .i64 0)], [], none⟩] [] [] [1, 2] true [] []
noncomputable def c61_3 : ACode := .region false [⟨some 3, .addr 0, [.t 1], none⟩,
  ⟨some 4, .load false 1, [.t 3], none⟩,
  ⟨some 5, .addr 1, [.t 1], none⟩,
  ⟨some 6, .load false 1, [.t 5], none⟩,
  ⟨some 7, .build [(.int .i64 0), (.int .i64 0)] [(0, 1), (1, 1)], [.t 4, .t 6], none⟩,
  ⟨none, .store 2, [.t 2, .t 7], none⟩] [] [] [2] true [] []
noncomputable def c61_2 : ACode := .seq c61_3 .ret
noncomputable def c61_0 : ACode := .seq c61_1 c61_2
noncomputable def code61 : Code := (Try.f61.body).getD .skip
theorem c61_ok : compC Try.prog 8 code61 = some (strip c61_0) := by kernel_rfl
theorem res61_ok : Try.f61.results.toList.mapM (resC Try.prog) = some [(2, some (true, 2))] := by kernel_rfl
def cmpI (x y : Int) : Int := if x < y then -1 else if y < x then 1 else 0
theorem isNaN_any (a : Int) : ACall Try.prog 62 [I a] [] (Det (Bo false) []) := by
  refine ACall.startA c62_ok Try.func62 rfl Try.ntmps62 (by kernel_rfl) res62_ok rfl rfl rfl ?_; simp (maxSteps := 9999999) (disch := omega) only [go_sem]
  (have k9 := k0; (repeat' (first | refine AWpA.seq ?_ | refine AWpA.block ?_ | (with_reducible refine CondP.tt ?_) | (with_reducible refine CondP.ff ?_) | refine AWpA.cg ?_ | ((first | refine AWpA.rg ?_ | refine AWpA.dg [] [] follows ?_ | refine TailK.tg ?_ | refine AWpA.skip ?_ | refine AWpA.exit ?_ | refine AWpA.ret ?_ | (with_reducible refine ARoundsA.succ ?_) | ((first | refine Runs.gkt (fun h9 => ?_) | refine Runs.gkf (fun h9 => ?_) | refine Runs.gnt (fun h9 => ?_) | refine Runs.gnf (fun h9 => ?_) | refine CondP.gt (fun h9 => ?_) | refine CondP.gf (fun h9 => ?_) | refine CondP.gnt (fun h9 => ?_) | refine CondP.gnf (fun h9 => ?_)); (try simp only [h9]); clear h9)); (try simp (maxSteps := 9999999) (disch := omega) only [go_sem, k9]); (try refine cnd ?_)) | ((first | refine CondP.split (fun hif => ?_) (fun hif => ?_) | refine Runs.part (fun hif => ?_) (fun hif => ?_)) <;> ((try simp only [hif]); (try simp only [BL] at hif); (try (have h9 : _ = true := hif; simp only [h9])); (try (have h9 : _ = false := hif; simp only [h9])); (try simp (maxSteps := 9999999) (disch := omega) only [go_sem, k9]); (try refine cnd ?_); (try (exfalso; omega; done)))))); (all_goals (try clear k9)))
  (apply Ret.det []; (focus (first | exact .inl rfl | exact .inr rfl)); (focus (simp (maxSteps := 9999999) (disch := omega) only [go_sem]; rfl)); (simp (maxSteps := 9999999) (disch := omega) only [go_sem]; (try (repeat' (first | done | trivial | rfl | exact leAs_rfl _ | decide | (refine And.intro ?_ ?_) | (simp; done) | omega | (simp; decide))))))
  all_goals (simp)
theorem cmp_any (a b : Int) : ACall Try.prog 57 [I a, I b] [] (Det (I (cmpI a b)) []) := by
  refine ACall.startA c57_ok Try.func57 rfl Try.ntmps57 (by kernel_rfl) res57_ok rfl rfl rfl ?_; simp (maxSteps := 9999999) (disch := omega) only [go_sem]
  (have k9 := k0; (repeat' (first | refine AWpA.seq ?_ | refine AWpA.block ?_ | (with_reducible refine CondP.tt ?_) | (with_reducible refine CondP.ff ?_) | refine AWpA.cg ?_ | ((first | refine AWpA.rg ?_ | refine AWpA.dg [] [] follows ?_ | refine TailK.tg ?_ | refine AWpA.skip ?_ | refine AWpA.exit ?_ | refine AWpA.ret ?_ | (with_reducible refine ARoundsA.succ ?_) | ((first | refine Runs.gkt (fun h9 => ?_) | refine Runs.gkf (fun h9 => ?_) | refine Runs.gnt (fun h9 => ?_) | refine Runs.gnf (fun h9 => ?_) | refine CondP.gt (fun h9 => ?_) | refine CondP.gf (fun h9 => ?_) | refine CondP.gnt (fun h9 => ?_) | refine CondP.gnf (fun h9 => ?_)); (try simp only [h9]); clear h9) | refine CallG.pg [] (isNaN_any _) ?_ | refine CallG.dg [] (isNaN_any _) ?_); (try simp (maxSteps := 9999999) (disch := omega) only [go_sem, k9]); (try refine cnd ?_)) | ((first | refine CondP.split (fun hif => ?_) (fun hif => ?_) | refine Runs.part (fun hif => ?_) (fun hif => ?_)) <;> ((try simp only [hif]); (try simp only [BL] at hif); (try (have h9 : _ = true := hif; simp only [h9])); (try (have h9 : _ = false := hif; simp only [h9])); (try simp (maxSteps := 9999999) (disch := omega) only [go_sem, k9]); (try refine cnd ?_); (try (exfalso; omega; done)))))); (all_goals (try clear k9)))
  all_goals
    (apply Ret.det []; (focus (first | exact .inl rfl | exact .inr rfl)); (focus (simp (maxSteps := 9999999) (disch := omega) only [go_sem]; rfl)); (simp (maxSteps := 9999999) (disch := omega) only [go_sem]; (try (repeat' (first | done | trivial | rfl | exact leAs_rfl _ | decide | (refine And.intro ?_ ?_) | (simp; done) | omega | (simp; decide))))))
    all_goals (simp [cmpI, *])
/-- A stamp. -/
structure St where
  c : Int
  s : Int
abbrev StA (x : St) : AV := .agg [I x.c, I x.s]
def siteB (n : Int) : Bool := decide (0 ≤ n) && decide (n < 12)
def goodB (s : St) : Bool := decide (1 ≤ s.c) && (decide (s.c ≤ 4294967295) && (decide (0 ≤ s.s) && decide (s.s < 12)))
def laterB (a b : St) : Bool := if a.c ≠ b.c then decide (b.c < a.c) else decide (b.s < a.s)
theorem later_any (a b : St) : ACall Try.prog 41 [StA a, StA b] [] (Det (Bo (laterB a b)) []) := by
  refine ACall.startA c41_ok Try.func41 rfl Try.ntmps41 (by kernel_rfl) res41_ok rfl rfl rfl ?_; simp (maxSteps := 9999999) (disch := omega) only [go_sem]
  (have k9 := k0; (repeat' (first | refine AWpA.seq ?_ | refine AWpA.block ?_ | (with_reducible refine CondP.tt ?_) | (with_reducible refine CondP.ff ?_) | refine AWpA.cg ?_ | ((first | refine AWpA.rg ?_ | refine AWpA.dg [] [] follows ?_ | refine TailK.tg ?_ | refine AWpA.skip ?_ | refine AWpA.exit ?_ | refine AWpA.ret ?_ | (with_reducible refine ARoundsA.succ ?_) | ((first | refine Runs.gkt (fun h9 => ?_) | refine Runs.gkf (fun h9 => ?_) | refine Runs.gnt (fun h9 => ?_) | refine Runs.gnf (fun h9 => ?_) | refine CondP.gt (fun h9 => ?_) | refine CondP.gf (fun h9 => ?_) | refine CondP.gnt (fun h9 => ?_) | refine CondP.gnf (fun h9 => ?_)); (try simp only [h9]); clear h9)); (try simp (maxSteps := 9999999) (disch := omega) only [go_sem, k9]); (try refine cnd ?_)) | ((first | refine CondP.split (fun hif => ?_) (fun hif => ?_) | refine Runs.part (fun hif => ?_) (fun hif => ?_)) <;> ((try simp only [hif]); (try simp only [BL] at hif); (try (have h9 : _ = true := hif; simp only [h9])); (try (have h9 : _ = false := hif; simp only [h9])); (try simp (maxSteps := 9999999) (disch := omega) only [go_sem, k9]); (try refine cnd ?_); (try (exfalso; omega; done)))))); (all_goals (try clear k9)))
  all_goals
    (apply Ret.det []; (focus (first | exact .inl rfl | exact .inr rfl)); (focus (simp (maxSteps := 9999999) (disch := omega) only [go_sem]; rfl)); (simp (maxSteps := 9999999) (disch := omega) only [go_sem]; (try (repeat' (first | done | trivial | rfl | exact leAs_rfl _ | decide | (refine And.intro ?_ ?_) | (simp; done) | omega | (simp; decide))))))
    all_goals (simp [laterB, *])
theorem of04_any (a : St) : ACall Try.prog 42 [StA a] [] (Det (StA a) []) := by
  refine ACall.startA c42_ok Try.func42 rfl Try.ntmps42 (by kernel_rfl) res42_ok rfl rfl rfl ?_; simp (maxSteps := 9999999) (disch := omega) only [go_sem]
  (have k9 := k0; (repeat' (first | refine AWpA.seq ?_ | refine AWpA.block ?_ | (with_reducible refine CondP.tt ?_) | (with_reducible refine CondP.ff ?_) | refine AWpA.cg ?_ | ((first | refine AWpA.rg ?_ | refine AWpA.dg [] [] follows ?_ | refine TailK.tg ?_ | refine AWpA.skip ?_ | refine AWpA.exit ?_ | refine AWpA.ret ?_ | (with_reducible refine ARoundsA.succ ?_) | ((first | refine Runs.gkt (fun h9 => ?_) | refine Runs.gkf (fun h9 => ?_) | refine Runs.gnt (fun h9 => ?_) | refine Runs.gnf (fun h9 => ?_) | refine CondP.gt (fun h9 => ?_) | refine CondP.gf (fun h9 => ?_) | refine CondP.gnt (fun h9 => ?_) | refine CondP.gnf (fun h9 => ?_)); (try simp only [h9]); clear h9)); (try simp (maxSteps := 9999999) (disch := omega) only [go_sem, k9]); (try refine cnd ?_)) | ((first | refine CondP.split (fun hif => ?_) (fun hif => ?_) | refine Runs.part (fun hif => ?_) (fun hif => ?_)) <;> ((try simp only [hif]); (try simp only [BL] at hif); (try (have h9 : _ = true := hif; simp only [h9])); (try (have h9 : _ = false := hif; simp only [h9])); (try simp (maxSteps := 9999999) (disch := omega) only [go_sem, k9]); (try refine cnd ?_); (try (exfalso; omega; done)))))); (all_goals (try clear k9)))
  all_goals
    (apply Ret.det []; (focus (first | exact .inl rfl | exact .inr rfl)); (focus (simp (maxSteps := 9999999) (disch := omega) only [go_sem]; rfl)); (simp (maxSteps := 9999999) (disch := omega) only [go_sem]; (try (repeat' (first | done | trivial | rfl | exact leAs_rfl _ | decide | (refine And.intro ?_ ?_) | (simp; done) | omega | (simp; decide))))))
theorem to04_any (a : St) : ACall Try.prog 61 [StA a] [] (Det (StA a) []) := by
  refine ACall.startA c61_ok Try.func61 rfl Try.ntmps61 (by kernel_rfl) res61_ok rfl rfl rfl ?_; simp (maxSteps := 9999999) (disch := omega) only [go_sem]
  (have k9 := k0; (repeat' (first | refine AWpA.seq ?_ | refine AWpA.block ?_ | (with_reducible refine CondP.tt ?_) | (with_reducible refine CondP.ff ?_) | refine AWpA.cg ?_ | ((first | refine AWpA.rg ?_ | refine AWpA.dg [] [] follows ?_ | refine TailK.tg ?_ | refine AWpA.skip ?_ | refine AWpA.exit ?_ | refine AWpA.ret ?_ | (with_reducible refine ARoundsA.succ ?_) | ((first | refine Runs.gkt (fun h9 => ?_) | refine Runs.gkf (fun h9 => ?_) | refine Runs.gnt (fun h9 => ?_) | refine Runs.gnf (fun h9 => ?_) | refine CondP.gt (fun h9 => ?_) | refine CondP.gf (fun h9 => ?_) | refine CondP.gnt (fun h9 => ?_) | refine CondP.gnf (fun h9 => ?_)); (try simp only [h9]); clear h9)); (try simp (maxSteps := 9999999) (disch := omega) only [go_sem, k9]); (try refine cnd ?_)) | ((first | refine CondP.split (fun hif => ?_) (fun hif => ?_) | refine Runs.part (fun hif => ?_) (fun hif => ?_)) <;> ((try simp only [hif]); (try simp only [BL] at hif); (try (have h9 : _ = true := hif; simp only [h9])); (try (have h9 : _ = false := hif; simp only [h9])); (try simp (maxSteps := 9999999) (disch := omega) only [go_sem, k9]); (try refine cnd ?_); (try (exfalso; omega; done)))))); (all_goals (try clear k9)))
  all_goals
    (apply Ret.det []; (focus (first | exact .inl rfl | exact .inr rfl)); (focus (simp (maxSteps := 9999999) (disch := omega) only [go_sem]; rfl)); (simp (maxSteps := 9999999) (disch := omega) only [go_sem]; (try (repeat' (first | done | trivial | rfl | exact leAs_rfl _ | decide | (refine And.intro ?_ ?_) | (simp; done) | omega | (simp; decide))))))
/- cmp.Or[int] -/
noncomputable def c56_1 : ACode := .region false [⟨some 2, .move, [.c (.val (.int .i64 0))], none⟩] [] [] [0] false [] []
noncomputable def c56_3 : ACode := .region false [⟨some 3, .move, [.c (.val (.int .i64 0))], none⟩] [] [] [0, 3] false [] []
noncomputable def c56_6 : ACode := .region false [⟨some 6, .move, [.t 0], none⟩,
  ⟨some 7, .len, [.t 6], none⟩,
  ⟨some 8, .move, [.c (.val (.int .i64 0))], none⟩] [] [] [3, 6, 7, 8] false [] []
noncomputable def c56_10 : ACode := .region false [⟨some 9, .bin .lss, [.t 8, .t 7], none⟩] [] [] [3, 6, 7, 8, 9] false [] []
noncomputable def c56_12 : ACode := .cond (.t 9) .skip (.exit 0)
noncomputable def c56_16 : ACode := .region false [⟨some 10, .ixS 1, [.t 6, .t 8], none⟩,
  ⟨some 11, .load false 1, [.t 10], none⟩,
  ⟨some 5, .move, [.t 11], none⟩] [] [] [3, 5, 6, 7, 8] false [] []
noncomputable def c56_18 : ACode := .region false [⟨some 12, .move, [.t 5], none⟩,
  ⟨some 13, .move, [.t 3], none⟩,
  ⟨some 14, .bin .neq, [.t 12, .t 13], none⟩] [] [] [3, 5, 6, 7, 8, 14] false [] []
noncomputable def c56_21 : ACode := .region false [⟨some 15, .move, [.t 5], none⟩,
  ⟨some 2, .move, [.t 15], none⟩] [] [] [2] false [] []
noncomputable def c56_20 : ACode := .seq c56_21 .ret
noncomputable def c56_19 : ACode := .cond (.t 14) c56_20 .skip
noncomputable def c56_17 : ACode := .seq c56_18 c56_19
noncomputable def c56_15 : ACode := .seq c56_16 c56_17
noncomputable def c56_14 : ACode := .block 1 c56_15
noncomputable def c56_22 : ACode := .region false [⟨some 16, .bin .add, [.t 8, .c (.val (.int .i64 1))], none⟩,
  ⟨some 8, .move, [.t 16], none⟩] [] [] [3, 6, 7, 8] false [] []
noncomputable def c56_13 : ACode := .seq c56_14 c56_22
noncomputable def c56_11 : ACode := .seq c56_12 c56_13
noncomputable def c56_9 : ACode := .seq c56_10 c56_11
noncomputable def c56_8 : ACode := .loop c56_9
noncomputable def c56_7 : ACode := .block 0 c56_8
noncomputable def c56_5 : ACode := .seq c56_6 c56_7
noncomputable def c56_24 : ACode := .region false [⟨some 17, .move, [.t 3], none⟩,
  ⟨some 2, .move, [.t 17], none⟩] [] [] [2] false [] []
noncomputable def c56_23 : ACode := .seq c56_24 .ret
noncomputable def c56_4 : ACode := .seq c56_5 c56_23
noncomputable def c56_2 : ACode := .seq c56_3 c56_4
noncomputable def c56_0 : ACode := .seq c56_1 c56_2
noncomputable def code56 : Code := (Try.f56.body).getD .skip
theorem c56_ok : compC Try.prog 18 code56 = some (strip c56_0) := by kernel_rfl
theorem res56_ok : Try.f56.results.toList.mapM (resC Try.prog) = some [(2, none)] := by kernel_rfl
/- quidnunc/stamp.Compare -/
noncomputable def c39_1 : ACode := .region false [⟨some 2, .box 0, [.t 0], none⟩,
  ⟨some 3, .box 0, [.t 1], none⟩,
  ⟨some 4, .move, [.c (.val (.int .i64 0))], none⟩] [] [] [2, 3] true [] []
noncomputable def c39_3 : ACode := .region true [⟨some 5, .addr 0, [.t 2], none⟩,
  ⟨some 6, .load false 1, [.t 5], none⟩,
  ⟨some 7, .addr 0, [.t 3], none⟩,
  ⟨some 8, .load false 1, [.t 7], none⟩,
  ⟨some 9, .call 57, [.t 6, .t 8], none⟩,
  ⟨some 10, .addr 1, [.t 2], none⟩,
  ⟨some 11, .load false 1, [.t 10], none⟩,
  ⟨some 12, .addr 1, [.t 3], none⟩,
  ⟨some 13, .load false 1, [.t 12], none⟩,
  ⟨some 14, .call 57, [.t 11, .t 13], none⟩,
  ⟨some 15, .buildSl 1 2 [(.int .i64 0)] [(0, 1), (1, 1)], [.t 9, .t 14], none⟩,
  ⟨some 16, .call 56, [.t 15], none⟩,
  ⟨some 4, .move, [.t 16], none⟩] [] [] [4] true [] []
noncomputable def c39_2 : ACode := .seq c39_3 .ret
noncomputable def c39_0 : ACode := .seq c39_1 c39_2
noncomputable def code39 : Code := (Try.f39.body).getD .skip
theorem c39_ok : compC Try.prog 17 code39 = some (strip c39_0) := by kernel_rfl
theorem res39_ok : Try.f39.results.toList.mapM (resC Try.prog) = some [(4, none)] := by kernel_rfl
def orI (x y : Int) : Int := if x = 0 then y else x
theorem or_any (a b : Int) : ACall Try.prog 56 [.sl 0 0 2 1 (some 2)] [.cells true [I a, I b]] (Det (I (orI a b)) [.cells true [I a, I b]]) := by
  refine ACall.startA c56_ok Try.func56 rfl Try.ntmps56 (by kernel_rfl) res56_ok rfl rfl rfl ?_; simp (maxSteps := 9999999) (disch := omega) only [go_sem]
  (have k9 := k0; (repeat' (first | refine AWpA.seq ?_ | refine AWpA.block ?_ | (with_reducible refine CondP.tt ?_) | (with_reducible refine CondP.ff ?_) | refine AWpA.cg ?_ | ((first | refine AWpA.rg ?_ | refine AWpA.dg [] [] follows ?_ | refine TailK.tg ?_ | refine AWpA.skip ?_ | refine AWpA.exit ?_ | refine AWpA.ret ?_ | (with_reducible refine ARoundsA.succ ?_) | ((first | refine Runs.gkt (fun h9 => ?_) | refine Runs.gkf (fun h9 => ?_) | refine Runs.gnt (fun h9 => ?_) | refine Runs.gnf (fun h9 => ?_) | refine CondP.gt (fun h9 => ?_) | refine CondP.gf (fun h9 => ?_) | refine CondP.gnt (fun h9 => ?_) | refine CondP.gnf (fun h9 => ?_)); (try simp only [h9]); clear h9)); (try simp (maxSteps := 9999999) (disch := omega) only [go_sem, k9]); (try refine cnd ?_)) | ((first | refine CondP.split (fun hif => ?_) (fun hif => ?_) | refine Runs.part (fun hif => ?_) (fun hif => ?_)) <;> ((try simp only [hif]); (try simp only [BL] at hif); (try (have h9 : _ = true := hif; simp only [h9])); (try (have h9 : _ = false := hif; simp only [h9])); (try simp (maxSteps := 9999999) (disch := omega) only [go_sem, k9]); (try refine cnd ?_); (try (exfalso; omega; done)))))); (all_goals (try clear k9)))
  refine AWpA.rounds 3 ?_
  (have k9 := k0; (repeat' (first | refine AWpA.seq ?_ | refine AWpA.block ?_ | (with_reducible refine CondP.tt ?_) | (with_reducible refine CondP.ff ?_) | refine AWpA.cg ?_ | ((first | refine AWpA.rg ?_ | refine AWpA.dg [] [] follows ?_ | refine TailK.tg ?_ | refine AWpA.skip ?_ | refine AWpA.exit ?_ | refine AWpA.ret ?_ | (with_reducible refine ARoundsA.succ ?_) | ((first | refine Runs.gkt (fun h9 => ?_) | refine Runs.gkf (fun h9 => ?_) | refine Runs.gnt (fun h9 => ?_) | refine Runs.gnf (fun h9 => ?_) | refine CondP.gt (fun h9 => ?_) | refine CondP.gf (fun h9 => ?_) | refine CondP.gnt (fun h9 => ?_) | refine CondP.gnf (fun h9 => ?_)); (try simp only [h9]); clear h9)); (try simp (maxSteps := 9999999) (disch := omega) only [go_sem, k9]); (try refine cnd ?_)) | ((first | refine CondP.split (fun hif => ?_) (fun hif => ?_) | refine Runs.part (fun hif => ?_) (fun hif => ?_)) <;> ((try simp only [hif]); (try simp only [BL] at hif); (try (have h9 : _ = true := hif; simp only [h9])); (try (have h9 : _ = false := hif; simp only [h9])); (try simp (maxSteps := 9999999) (disch := omega) only [go_sem, k9]); (try refine cnd ?_); (try (exfalso; omega; done)))))); (all_goals (try clear k9)))
  all_goals
    (apply Ret.det [0]; (focus (first | exact .inl rfl | exact .inr rfl)); (focus (simp (maxSteps := 9999999) (disch := omega) only [go_sem]; rfl)); (simp (maxSteps := 9999999) (disch := omega) only [go_sem]; (try (repeat' (first | done | trivial | rfl | exact leAs_rfl _ | decide | (refine And.intro ?_ ?_) | (simp; done) | omega | (simp; decide))))))
    all_goals (simp_all [orI])
def cmpS (a b : St) : Int := orI (cmpI a.c b.c) (cmpI a.s b.s)
theorem compare_any (a b : St) : ACall Try.prog 39 [StA a, StA b] [] (Det (I (cmpS a b)) []) := by
  refine ACall.startA c39_ok Try.func39 rfl Try.ntmps39 (by kernel_rfl) res39_ok rfl rfl rfl ?_; simp (maxSteps := 9999999) (disch := omega) only [go_sem]
  (have k9 := k0; (repeat' (first | refine AWpA.seq ?_ | refine AWpA.block ?_ | (with_reducible refine CondP.tt ?_) | (with_reducible refine CondP.ff ?_) | refine AWpA.cg ?_ | ((first | refine AWpA.rg ?_ | refine AWpA.dg [] [] follows ?_ | refine TailK.tg ?_ | refine AWpA.skip ?_ | refine AWpA.exit ?_ | refine AWpA.ret ?_ | (with_reducible refine ARoundsA.succ ?_) | ((first | refine Runs.gkt (fun h9 => ?_) | refine Runs.gkf (fun h9 => ?_) | refine Runs.gnt (fun h9 => ?_) | refine Runs.gnf (fun h9 => ?_) | refine CondP.gt (fun h9 => ?_) | refine CondP.gf (fun h9 => ?_) | refine CondP.gnt (fun h9 => ?_) | refine CondP.gnf (fun h9 => ?_)); (try simp only [h9]); clear h9) | refine CallG.pg [] (cmp_any _ _) ?_ | refine CallG.pg [_] (or_any _ _) ?_ | refine CallG.dg [] (cmp_any _ _) ?_ | refine CallG.dg [_] (or_any _ _) ?_); (try simp (maxSteps := 9999999) (disch := omega) only [go_sem, k9]); (try refine cnd ?_)) | ((first | refine CondP.split (fun hif => ?_) (fun hif => ?_) | refine Runs.part (fun hif => ?_) (fun hif => ?_)) <;> ((try simp only [hif]); (try simp only [BL] at hif); (try (have h9 : _ = true := hif; simp only [h9])); (try (have h9 : _ = false := hif; simp only [h9])); (try simp (maxSteps := 9999999) (disch := omega) only [go_sem, k9]); (try refine cnd ?_); (try (exfalso; omega; done)))))); (all_goals (try clear k9)))
  all_goals
    (apply Ret.det []; (focus (first | exact .inl rfl | exact .inr rfl)); (focus (simp (maxSteps := 9999999) (disch := omega) only [go_sem]; rfl)); (simp (maxSteps := 9999999) (disch := omega) only [go_sem]; (try (repeat' (first | done | trivial | rfl | exact leAs_rfl _ | decide | (refine And.intro ?_ ?_) | (simp; done) | omega | (simp; decide))))))
    all_goals (simp [cmpS])
abbrev nilP : AV := .val (.pointer none)
end Go.Proofs.Ytbblpmkdhdnkhaa
