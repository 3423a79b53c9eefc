/- Contracts: entries. -/
import Derived.Test.YtbblpmkdhdnkhaaAc1
import Derived.Test.YtbblpmkdhdnkhaaEg4
namespace Go.Proofs.Ytbblpmkdhdnkhaa
set_option linter.unusedSimpArgs false
set_option linter.unusedVariables false
set_option maxHeartbeats 4000000
open Go Go.Am Go.RowKit Go.ChangeShapes Go.WideShapes Go.ChangeAt
open Go.ChangeMaps (open_string shut_string)
set_option maxRecDepth 100000
def eqSt (a b : St) : Bool := (a.c == b.c) && (a.s == b.s)
theorem cmp_want (a b : St) : cmpS a b = if laterB b a = true then -1 else if laterB a b = true then 1 else 0 := by
  unfold cmpS orI cmpI laterB; grind
theorem later_not (a b : St) (h : laterB a b = true) : laterB b a = false := by
  unfold laterB at *; grind
theorem cmpS_lt (a b : St) : decide (cmpS a b < 0) = laterB b a := by
  rw [cmp_want]; cases h1 : laterB b a <;> cases h2 : laterB a b <;> simp
theorem cmpS_gt (a b : St) : decide (0 < cmpS a b) = laterB a b := by
  rw [cmp_want]; cases h1 : laterB b a <;> cases h2 : laterB a b <;> simp
  exact absurd (later_not _ _ h1) (by simp [h2])
theorem cmpS_le (a b : St) : decide (cmpS a b ≤ 0) = !laterB a b := by
  rw [← cmpS_gt]; by_cases h : cmpS a b ≤ 0
  · simp [h]
  · simp [h]; omega
theorem later_eq (a b : St) : eqSt a b = (!laterB a b && !laterB b a) := by
  unfold eqSt laterB; grind
theorem cmpS_eq (a b : St) : (cmpS a b == 0) = eqSt a b := by
  rw [cmp_want, later_eq]; cases h1 : laterB b a <;> cases h2 : laterB a b <;> simp
theorem cmpS_ne (a b : St) : (cmpS a b != 0) = !eqSt a b := by
  rw [bne, cmpS_eq]
/-- An entry. -/
structure En where
  key : ByteArray
  val : ByteArray
  dead : Bool
  st : St
  act : St
  keep : Int
  age : Int
abbrev Str (s : ByteArray) : AV := .val (.string s)
abbrev EnL (e : En) : List AV := [Str e.key, Str e.val, Bo e.dead, I e.st.c, I e.st.s, I e.act.c, I e.act.s, I e.keep, I e.age]
abbrev EnA (e : En) : AV := .agg (EnL e)
def plainB (e : En) : Bool := eqSt e.act e.st && (e.keep == 0 && e.age == 0)
def keptB (e : En) : Bool := decide (1 ≤ e.keep) && (decide (e.keep ≤ 4095) && (decide (0 ≤ e.age) && decide (e.age ≤ 2147483647)))
def shapeB (e : En) : Bool := goodB e.st && (goodB e.act && !laterB e.st e.act)
def checkI (e : En) : Int :=
  if (e.key.size : Int) < 1 then 9 else if 16 < (e.key.size : Int) then 9 else if 32 < (e.val.size : Int) then 10
  else if (e.dead && !(e.val == ⟨#[]⟩)) = true then 10 else if shapeB e = true then (if e.dead = true then (if keptB e = true then 0 else 1) else if plainB e = true then 0 else 1) else 1
/- quidnunc/quidnunclaw05.Of -/
noncomputable def c19_1 : ACode := .region false [⟨some 1, .box 0, [.t 0], none⟩,
  ⟨some 2, .alloc [(.string ⟨#[]⟩), (.string ⟨#[]⟩), (.bool false), (.int .i64 0), (.int .i64 0), (.int .i64 0), (.int .i64 0), (.int .i64 0), (.int .i64 0)], [], none⟩] [] [] [1, 2] true [] []
noncomputable def c19_3 : ACode := .region true [⟨some 3, .addr 0, [.t 1], none⟩,
  ⟨some 4, .load false 1, [.t 3], none⟩,
  ⟨some 5, .addr 1, [.t 1], none⟩,
  ⟨some 6, .load false 1, [.t 5], none⟩,
  ⟨some 7, .addr 2, [.t 1], none⟩,
  ⟨some 8, .load false 1, [.t 7], none⟩,
  ⟨some 9, .addr 3, [.t 1], none⟩,
  ⟨some 10, .load true 2, [.t 9], none⟩,
  ⟨some 11, .call 42, [.t 10], none⟩,
  ⟨some 12, .addr 5, [.t 1], none⟩,
  ⟨some 13, .load true 2, [.t 12], none⟩,
  ⟨some 14, .call 42, [.t 13], none⟩,
  ⟨some 15, .addr 7, [.t 1], none⟩,
  ⟨some 16, .load false 1, [.t 15], none⟩,
  ⟨some 17, .addr 8, [.t 1], none⟩,
  ⟨some 18, .load false 1, [.t 17], none⟩,
  ⟨some 19, .build [(.string ⟨#[]⟩), (.string ⟨#[]⟩), (.bool false), (.int .i64 0), (.int .i64 0), (.int .i64 0), (.int .i64 0), (.int .i64 0), (.int .i64 0)] [(0, 1), (1, 1), (2, 1), (3, 2), (5, 2), (7, 1), (8, 1)], [.t 4, .t 6, .t 8, .t 11, .t 14, .t 16, .t 18], none⟩,
  ⟨none, .store 9, [.t 2, .t 19], none⟩] [] [] [2] true [2] []
noncomputable def c19_2 : ACode := .seq c19_3 .ret
noncomputable def c19_0 : ACode := .seq c19_1 c19_2
noncomputable def code19 : Code := (Try.f19.body).getD .skip
theorem c19_ok : compC Try.prog 20 code19 = some (strip c19_0) := by kernel_rfl
theorem res19_ok : Try.f19.results.toList.mapM (resC Try.prog) = some [(2, some (true, 9))] := by kernel_rfl
/- quidnunc/quidnunclaw05.Short -/
noncomputable def c10_1 : ACode := .region false [⟨some 1, .box 0, [.t 0], none⟩,
  ⟨some 2, .move, [.c (.val (.bool false))], none⟩] [] [] [1] true [] []
noncomputable def c10_3 : ACode := .region false [⟨some 3, .addr 0, [.t 1], none⟩,
  ⟨some 4, .load false 1, [.t 3], none⟩,
  ⟨some 5, .lenStr, [.t 4], none⟩,
  ⟨some 6, .bin .leq, [.t 5, .c (.val (.int .i64 300))], none⟩,
  ⟨some 7, .move, [.t 6], none⟩,
  ⟨some 8, .addr 1, [.t 1], some (some 7, true)⟩,
  ⟨some 9, .load false 1, [.t 8], some (some 7, true)⟩,
  ⟨some 10, .lenStr, [.t 9], some (some 7, true)⟩,
  ⟨some 11, .bin .leq, [.t 10, .c (.val (.int .i64 300))], some (some 7, true)⟩,
  ⟨some 12, .pick, [.t 7, .t 11, .c (.val (.bool false))], none⟩,
  ⟨some 2, .move, [.t 12], none⟩] [] [] [2] false [] []
noncomputable def c10_2 : ACode := .seq c10_3 .ret
noncomputable def c10_0 : ACode := .seq c10_1 c10_2
noncomputable def code10 : Code := (Try.f10.body).getD .skip
theorem c10_ok : compC Try.prog 13 code10 = some (strip c10_0) := by kernel_rfl
theorem res10_ok : Try.f10.results.toList.mapM (resC Try.prog) = some [(2, none)] := by kernel_rfl
/- quidnunc/entry.Newer -/
noncomputable def c46_1 : ACode := .region false [⟨some 2, .box 0, [.t 0], none⟩,
  ⟨some 3, .box 0, [.t 1], none⟩,
  ⟨some 4, .move, [.c (.val (.bool false))], none⟩] [] [] [2, 3] true [] []
noncomputable def c46_4 : ACode := .region false [⟨some 6, .addr 3, [.t 2], none⟩,
  ⟨some 7, .load true 2, [.t 6], none⟩,
  ⟨some 8, .addr 3, [.t 3], none⟩,
  ⟨some 9, .load true 2, [.t 8], none⟩,
  ⟨some 10, .call 39, [.t 7, .t 9], none⟩,
  ⟨some 5, .move, [.t 10], none⟩] [] [] [2, 3, 5] true [] []
noncomputable def c46_6 : ACode := .region false [⟨some 11, .move, [.t 5], none⟩,
  ⟨some 12, .bin .neq, [.t 11, .c (.val (.int .i64 0))], none⟩] [] [] [2, 3, 5, 12] false [] []
noncomputable def c46_9 : ACode := .region false [⟨some 13, .move, [.t 5], none⟩,
  ⟨some 14, .bin .gtr, [.t 13, .c (.val (.int .i64 0))], none⟩,
  ⟨some 4, .move, [.t 14], none⟩] [] [] [4] false [] []
noncomputable def c46_8 : ACode := .seq c46_9 .ret
noncomputable def c46_7 : ACode := .cond (.t 12) c46_8 .skip
noncomputable def c46_5 : ACode := .seq c46_6 c46_7
noncomputable def c46_3 : ACode := .seq c46_4 c46_5
noncomputable def c46_11 : ACode := .region false [⟨some 15, .addr 5, [.t 2], none⟩,
  ⟨some 16, .load true 2, [.t 15], none⟩,
  ⟨some 17, .addr 5, [.t 3], none⟩,
  ⟨some 18, .load true 2, [.t 17], none⟩,
  ⟨some 19, .call 39, [.t 16, .t 18], none⟩,
  ⟨some 20, .bin .gtr, [.t 19, .c (.val (.int .i64 0))], none⟩,
  ⟨some 4, .move, [.t 20], none⟩] [] [] [4] true [] []
noncomputable def c46_10 : ACode := .seq c46_11 .ret
noncomputable def c46_2 : ACode := .seq c46_3 c46_10
noncomputable def c46_0 : ACode := .seq c46_1 c46_2
noncomputable def code46 : Code := (Try.f46.body).getD .skip
theorem c46_ok : compC Try.prog 21 code46 = some (strip c46_0) := by kernel_rfl
theorem res46_ok : Try.f46.results.toList.mapM (resC Try.prog) = some [(4, none)] := by kernel_rfl
theorem of05_any (e : En) : ACall Try.prog 19 [EnA e] [] (Det (EnA e) []) := by
  refine ACall.startA c19_ok Try.func19 rfl Try.ntmps19 (by kernel_rfl) res19_ok rfl rfl rfl ?_; simp (maxSteps := 9999999) (disch := omega) only [go_sem]
  (have k9 := k0; (repeat' (first | refine AWpA.seq ?_ | refine AWpA.block ?_ | (with_reducible refine CondP.tt ?_) | (with_reducible refine CondP.ff ?_) | refine AWpA.cg ?_ | ((first | refine AWpA.rg ?_ | refine AWpA.dg [] [] follows ?_ | refine TailK.tg ?_ | refine AWpA.skip ?_ | refine AWpA.exit ?_ | refine AWpA.ret ?_ | (with_reducible refine ARoundsA.succ ?_) | ((first | refine Runs.gkt (fun h9 => ?_) | refine Runs.gkf (fun h9 => ?_) | refine Runs.gnt (fun h9 => ?_) | refine Runs.gnf (fun h9 => ?_) | refine CondP.gt (fun h9 => ?_) | refine CondP.gf (fun h9 => ?_) | refine CondP.gnt (fun h9 => ?_) | refine CondP.gnf (fun h9 => ?_)); (try simp only [h9]); clear h9) | refine CallG.pg [] (of04_any _) ?_ | refine CallG.dg [] (of04_any _) ?_); (try simp (maxSteps := 9999999) (disch := omega) only [go_sem, k9]); (try refine cnd ?_)) | ((first | refine CondP.split (fun hif => ?_) (fun hif => ?_) | refine Runs.part (fun hif => ?_) (fun hif => ?_)) <;> ((try simp only [hif]); (try simp only [BL] at hif); (try (have h9 : _ = true := hif; simp only [h9])); (try (have h9 : _ = false := hif; simp only [h9])); (try simp (maxSteps := 9999999) (disch := omega) only [go_sem, k9]); (try refine cnd ?_); (try (exfalso; omega; done)))))); (all_goals (try clear k9)))
  all_goals (apply Ret.det []; (focus (first | exact .inl rfl | exact .inr rfl)); (focus (simp (maxSteps := 9999999) (disch := omega) only [go_sem]; rfl)); (simp (maxSteps := 9999999) (disch := omega) only [go_sem]; (try (repeat' (first | done | trivial | rfl | exact leAs_rfl _ | decide | (refine And.intro ?_ ?_) | (simp; done) | omega | (simp; decide))))))
def shortB (e : En) : Bool := decide ((e.key.size : Int) ≤ 300) && decide ((e.val.size : Int) ≤ 300)
theorem short_any (e : En) : ACall Try.prog 10 [EnA e] [] (Det (Bo (shortB e)) []) := by
  refine ACall.startA c10_ok Try.func10 rfl Try.ntmps10 (by kernel_rfl) res10_ok rfl rfl rfl ?_; simp (maxSteps := 9999999) (disch := omega) only [go_sem]
  (have k9 := k0; (repeat' (first | refine AWpA.seq ?_ | refine AWpA.block ?_ | (with_reducible refine CondP.tt ?_) | (with_reducible refine CondP.ff ?_) | refine AWpA.cg ?_ | ((first | refine AWpA.rg ?_ | refine AWpA.dg [] [] follows ?_ | refine TailK.tg ?_ | refine AWpA.skip ?_ | refine AWpA.exit ?_ | refine AWpA.ret ?_ | (with_reducible refine ARoundsA.succ ?_) | ((first | refine Runs.gkt (fun h9 => ?_) | refine Runs.gkf (fun h9 => ?_) | refine Runs.gnt (fun h9 => ?_) | refine Runs.gnf (fun h9 => ?_) | refine CondP.gt (fun h9 => ?_) | refine CondP.gf (fun h9 => ?_) | refine CondP.gnt (fun h9 => ?_) | refine CondP.gnf (fun h9 => ?_)); (try simp only [h9]); clear h9)); (try simp (maxSteps := 9999999) (disch := omega) only [go_sem, k9]); (try refine cnd ?_)) | ((first | refine CondP.split (fun hif => ?_) (fun hif => ?_) | refine Runs.part (fun hif => ?_) (fun hif => ?_)) <;> ((try simp only [hif]); (try simp only [BL] at hif); (try (have h9 : _ = true := hif; simp only [h9])); (try (have h9 : _ = false := hif; simp only [h9])); (try simp (maxSteps := 9999999) (disch := omega) only [go_sem, k9]); (try refine cnd ?_); (try (exfalso; omega; done)))))); (all_goals (try clear k9)))
  all_goals
    (apply Ret.det []; (focus (first | exact .inl rfl | exact .inr rfl)); (focus (simp (maxSteps := 9999999) (disch := omega) only [go_sem]; rfl)); (simp (maxSteps := 9999999) (disch := omega) only [go_sem]; (try (repeat' (first | done | trivial | rfl | exact leAs_rfl _ | decide | (refine And.intro ?_ ?_) | (simp; done) | omega | (simp; decide))))))
    all_goals (simp [shortB, *])
def newerB (a b : En) : Bool := if eqSt a.st b.st = true then laterB a.act b.act else laterB a.st b.st
theorem newer_any (a b : En) : ACall Try.prog 46 [EnA a, EnA b] [] (Det (Bo (newerB a b)) []) := by
  refine ACall.startA c46_ok Try.func46 rfl Try.ntmps46 (by kernel_rfl) res46_ok rfl rfl rfl ?_; simp (maxSteps := 9999999) (disch := omega) only [go_sem]
  (have k9 := And.intro @cmpS_ne (And.intro @cmpS_gt (k0)); (repeat' (first | refine AWpA.seq ?_ | refine AWpA.block ?_ | (with_reducible refine CondP.tt ?_) | (with_reducible refine CondP.ff ?_) | refine AWpA.cg ?_ | ((first | refine AWpA.rg ?_ | refine AWpA.dg [] [] follows ?_ | refine TailK.tg ?_ | refine AWpA.skip ?_ | refine AWpA.exit ?_ | refine AWpA.ret ?_ | (with_reducible refine ARoundsA.succ ?_) | ((first | refine Runs.gkt (fun h9 => ?_) | refine Runs.gkf (fun h9 => ?_) | refine Runs.gnt (fun h9 => ?_) | refine Runs.gnf (fun h9 => ?_) | refine CondP.gt (fun h9 => ?_) | refine CondP.gf (fun h9 => ?_) | refine CondP.gnt (fun h9 => ?_) | refine CondP.gnf (fun h9 => ?_)); (try simp only [h9]); clear h9) | refine CallG.pg [] (compare_any _ _) ?_ | refine CallG.dg [] (compare_any _ _) ?_); (try simp (maxSteps := 9999999) (disch := omega) only [go_sem, k9]); (try refine cnd ?_)) | ((first | refine CondP.split (fun hif => ?_) (fun hif => ?_) | refine Runs.part (fun hif => ?_) (fun hif => ?_)) <;> ((try simp only [hif]); (try simp only [BL] at hif); (try (have h9 : _ = true := hif; simp only [h9])); (try (have h9 : _ = false := hif; simp only [h9])); (try simp (maxSteps := 9999999) (disch := omega) only [go_sem, k9]); (try refine cnd ?_); (try (exfalso; omega; done)))))); (all_goals (try clear k9)))
  all_goals
    (apply Ret.det []; (focus (first | exact .inl rfl | exact .inr rfl)); (focus (simp (maxSteps := 9999999) (disch := omega) only [go_sem, cmpS_gt]; rfl)); (simp (maxSteps := 9999999) (disch := omega) only [go_sem, cmpS_gt]; (try (repeat' (first | done | trivial | rfl | exact leAs_rfl _ | decide | (refine And.intro ?_ ?_) | (simp; done) | omega | (simp; decide))))))
    all_goals (simp [newerB, *])
end Go.Proofs.Ytbblpmkdhdnkhaa
