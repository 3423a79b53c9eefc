/- Contracts: entries. -/
import Derived.Test.YtopidfkmligljaaGreatEg5
import Derived.Test.YtopidfkmligljaaGreatAc1
import Derived.Test.YtopidfkmligljaaGreatEg4
namespace Go.Proofs.YtopidfkmligljaaGreat
noncomputable section
set_option linter.unusedSimpArgs false
set_option linter.unusedVariables false
set_option maxHeartbeats 4000000
open Go Go.Am Go.RowKit Go.ChangeShapes Go.WideShapes Go.ChangeAt
open Go.ChangeMaps (open_string shut_string)
set_option maxRecDepth 100000
def eqSt (a b : St) : Bool := (a.c == b.c) && (a.s == b.s)
theorem cmp_want (a b : St) : cmpS a b = if laterB b a = true then -1 else if laterB a b = true then 1 else 0 := by
  unfold cmpS orI cmpI laterB; grind
theorem cmpS_lt (a b : St) : decide (cmpS a b < 0) = laterB b a := by
  rw [cmp_want]; cases h1 : laterB b a <;> cases h2 : laterB a b <;> simp
/-- An entry. -/
structure En where
  key : ByteArray
  val : ByteArray
  dead : Bool
  st : St
  act : St
  keep : Int
  age : Int
abbrev Str (s : ByteArray) : AV := .val (.string s)
abbrev EnL (e : En) : List AV := [Str e.key, Str e.val, Bo e.dead, I e.st.c, I e.st.s, I e.act.c, I e.act.s, I e.keep, I e.age]
abbrev EnA (e : En) : AV := .agg (EnL e)
def plainB (e : En) : Bool := eqSt e.act e.st && (e.keep == 0 && e.age == 0)
def keptB (e : En) : Bool := decide (1 ≤ e.keep) && (decide (e.keep ≤ 4095) && (decide (0 ≤ e.age) && decide (e.age ≤ 2147483647)))
def shapeB (e : En) : Bool := goodB e.st && (goodB e.act && !laterB e.st e.act)
def checkI (e : En) : Int :=
  if (e.key.size : Int) < 1 then 9 else if 16 < (e.key.size : Int) then 9 else if 32 < (e.val.size : Int) then 10
  else if (e.dead && !(e.val == ⟨#[]⟩)) = true then 10 else if shapeB e = true then (if e.dead = true then (if keptB e = true then 0 else 1) else if plainB e = true then 0 else 1) else 1
/- quidnunc/quidnunclaw05.Of -/
def c49_1 : ACode := .region false [⟨some 1, .box 0, [.t 0], none⟩,
  ⟨some 2, .alloc [(.string ⟨#[]⟩), (.string ⟨#[]⟩), (.bool false), (.int .i64 0), (.int .i64 0), (.int .i64 0), (.int .i64 0), (.int .i64 0), (.int .i64 0)], [], none⟩] [] [] [1, 2] true [] []
def c49_3 : ACode := .region true [⟨some 3, .addr 0, [.t 1], none⟩,
  ⟨some 4, .load false 1, [.t 3], none⟩,
  ⟨some 5, .addr 1, [.t 1], none⟩,
  ⟨some 6, .load false 1, [.t 5], none⟩,
  ⟨some 7, .addr 2, [.t 1], none⟩,
  ⟨some 8, .load false 1, [.t 7], none⟩,
  ⟨some 9, .addr 3, [.t 1], none⟩,
  ⟨some 10, .load true 2, [.t 9], none⟩,
  ⟨some 11, .call 107, [.t 10], none⟩,
  ⟨some 12, .addr 5, [.t 1], none⟩,
  ⟨some 13, .load true 2, [.t 12], none⟩,
  ⟨some 14, .call 107, [.t 13], none⟩,
  ⟨some 15, .addr 7, [.t 1], none⟩,
  ⟨some 16, .load false 1, [.t 15], none⟩,
  ⟨some 17, .addr 8, [.t 1], none⟩,
  ⟨some 18, .load false 1, [.t 17], none⟩,
  ⟨some 19, .build [(.string ⟨#[]⟩), (.string ⟨#[]⟩), (.bool false), (.int .i64 0), (.int .i64 0), (.int .i64 0), (.int .i64 0), (.int .i64 0), (.int .i64 0)] [(0, 1), (1, 1), (2, 1), (3, 2), (5, 2), (7, 1), (8, 1)], [.t 4, .t 6, .t 8, .t 11, .t 14, .t 16, .t 18], none⟩,
  ⟨none, .store 9, [.t 2, .t 19], none⟩] [] [] [2] true [2] []
def c49_2 : ACode := .seq c49_3 .ret
def c49_0 : ACode := .seq c49_1 c49_2
def code49 : Code := (Tryz.f49.body).getD .skip
theorem c49_ok : compC Tryz.prog 20 code49 = some (strip c49_0) := by kernel_rfl
theorem res49_ok : Tryz.f49.results.toList.mapM (resC Tryz.prog) = some [(2, some (true, 9))] := by kernel_rfl
/- quidnunc/quidnunclaw05.Short -/
def c42_1 : ACode := .region false [⟨some 1, .box 0, [.t 0], none⟩,
  ⟨some 2, .move, [.c (.val (.bool false))], none⟩] [] [] [1] true [] []
def c42_3 : ACode := .region false [⟨some 3, .addr 0, [.t 1], none⟩,
  ⟨some 4, .load false 1, [.t 3], none⟩,
  ⟨some 5, .lenStr, [.t 4], none⟩,
  ⟨some 6, .bin .leq, [.t 5, .c (.val (.int .i64 300))], none⟩,
  ⟨some 7, .move, [.t 6], none⟩,
  ⟨some 8, .addr 1, [.t 1], some (some 7, true)⟩,
  ⟨some 9, .load false 1, [.t 8], some (some 7, true)⟩,
  ⟨some 10, .lenStr, [.t 9], some (some 7, true)⟩,
  ⟨some 11, .bin .leq, [.t 10, .c (.val (.int .i64 300))], some (some 7, true)⟩,
  ⟨some 12, .pick, [.t 7, .t 11, .c (.val (.bool false))], none⟩,
  ⟨some 2, .move, [.t 12], none⟩] [] [] [2] false [] []
def c42_2 : ACode := .seq c42_3 .ret
def c42_0 : ACode := .seq c42_1 c42_2
def code42 : Code := (Tryz.f42.body).getD .skip
theorem c42_ok : compC Tryz.prog 13 code42 = some (strip c42_0) := by kernel_rfl
theorem res42_ok : Tryz.f42.results.toList.mapM (resC Tryz.prog) = some [(2, none)] := by kernel_rfl
/- quidnunc/entry.plain -/
def c140_1 : ACode := .region false [⟨some 1, .box 0, [.t 0], none⟩,
  ⟨some 2, .move, [.c (.val (.bool false))], none⟩] [] [] [1] true [] []
def c140_3 : ACode := .region false [⟨some 3, .addr 5, [.t 1], none⟩,
  ⟨some 4, .load true 2, [.t 3], none⟩,
  ⟨some 5, .addr 3, [.t 1], none⟩,
  ⟨some 6, .load true 2, [.t 5], none⟩,
  ⟨some 7, .eqA false [(0, 0), (1, 0)], [.t 4, .t 6], none⟩,
  ⟨some 8, .move, [.t 7], none⟩,
  ⟨some 9, .addr 7, [.t 1], some (some 8, true)⟩,
  ⟨some 10, .load false 1, [.t 9], some (some 8, true)⟩,
  ⟨some 11, .bin .eql, [.t 10, .c (.val (.int .i64 0))], some (some 8, true)⟩,
  ⟨some 12, .pick, [.t 8, .t 11, .c (.val (.bool false))], none⟩,
  ⟨some 13, .move, [.t 12], none⟩,
  ⟨some 14, .addr 8, [.t 1], some (some 13, true)⟩,
  ⟨some 15, .load false 1, [.t 14], some (some 13, true)⟩,
  ⟨some 16, .bin .eql, [.t 15, .c (.val (.int .i64 0))], some (some 13, true)⟩,
  ⟨some 17, .pick, [.t 13, .t 16, .c (.val (.bool false))], none⟩,
  ⟨some 2, .move, [.t 17], none⟩] [] [] [2] false [] []
def c140_2 : ACode := .seq c140_3 .ret
def c140_0 : ACode := .seq c140_1 c140_2
def code140 : Code := (Tryz.f140.body).getD .skip
theorem c140_ok : compC Tryz.prog 18 code140 = some (strip c140_0) := by kernel_rfl
theorem res140_ok : Tryz.f140.results.toList.mapM (resC Tryz.prog) = some [(2, none)] := by kernel_rfl
/- quidnunc/entry.kept -/
def c141_1 : ACode := .region false [⟨some 1, .box 0, [.t 0], none⟩,
  ⟨some 2, .move, [.c (.val (.bool false))], none⟩] [] [] [1] true [] []
def c141_3 : ACode := .region false [⟨some 3, .addr 7, [.t 1], none⟩,
  ⟨some 4, .load false 1, [.t 3], none⟩,
  ⟨some 5, .bin .geq, [.t 4, .c (.val (.int .i64 1))], none⟩,
  ⟨some 6, .move, [.t 5], none⟩,
  ⟨some 7, .addr 7, [.t 1], some (some 6, true)⟩,
  ⟨some 8, .load false 1, [.t 7], some (some 6, true)⟩,
  ⟨some 9, .bin .leq, [.t 8, .c (.val (.int .i64 4095))], some (some 6, true)⟩,
  ⟨some 10, .pick, [.t 6, .t 9, .c (.val (.bool false))], none⟩,
  ⟨some 11, .move, [.t 10], none⟩,
  ⟨some 12, .addr 8, [.t 1], some (some 11, true)⟩,
  ⟨some 13, .load false 1, [.t 12], some (some 11, true)⟩,
  ⟨some 14, .bin .geq, [.t 13, .c (.val (.int .i64 0))], some (some 11, true)⟩,
  ⟨some 15, .pick, [.t 11, .t 14, .c (.val (.bool false))], none⟩,
  ⟨some 16, .move, [.t 15], none⟩,
  ⟨some 17, .addr 8, [.t 1], some (some 16, true)⟩,
  ⟨some 18, .load false 1, [.t 17], some (some 16, true)⟩,
  ⟨some 19, .bin .leq, [.t 18, .c (.val (.int .i64 2147483647))], some (some 16, true)⟩,
  ⟨some 20, .pick, [.t 16, .t 19, .c (.val (.bool false))], none⟩,
  ⟨some 2, .move, [.t 20], none⟩] [] [] [2] false [] []
def c141_2 : ACode := .seq c141_3 .ret
def c141_0 : ACode := .seq c141_1 c141_2
def code141 : Code := (Tryz.f141.body).getD .skip
theorem c141_ok : compC Tryz.prog 21 code141 = some (strip c141_0) := by kernel_rfl
theorem res141_ok : Tryz.f141.results.toList.mapM (resC Tryz.prog) = some [(2, none)] := by kernel_rfl
/- quidnunc/entry.Check -/
def c122_1 : ACode := .region false [⟨some 1, .box 0, [.t 0], none⟩,
  ⟨some 2, .move, [.c (.val (.int .i64 0))], none⟩] [] [] [1] true [] []
def c122_5 : ACode := .region false [⟨some 4, .addr 0, [.t 1], none⟩,
  ⟨some 5, .load false 1, [.t 4], none⟩,
  ⟨some 6, .lenStr, [.t 5], none⟩,
  ⟨some 7, .bin .lss, [.t 6, .c (.val (.int .i64 1))], none⟩,
  ⟨some 8, .move, [.t 7], none⟩,
  ⟨some 9, .addr 0, [.t 1], some (some 8, false)⟩,
  ⟨some 10, .load false 1, [.t 9], some (some 8, false)⟩,
  ⟨some 11, .lenStr, [.t 10], some (some 8, false)⟩,
  ⟨some 12, .bin .gtr, [.t 11, .c (.val (.int .i64 16))], some (some 8, false)⟩,
  ⟨some 13, .pick, [.t 8, .c (.val (.bool true)), .t 12], none⟩,
  ⟨some 3, .move, [.t 13], none⟩] [] [] [1, 3] false [] []
def c122_8 : ACode := .region false [⟨some 2, .move, [.c (.val (.int .i64 9))], none⟩] [] [] [2] false [] []
def c122_7 : ACode := .seq c122_8 .ret
def c122_11 : ACode := .region false [⟨some 15, .addr 1, [.t 1], none⟩,
  ⟨some 16, .load false 1, [.t 15], none⟩,
  ⟨some 17, .lenStr, [.t 16], none⟩,
  ⟨some 18, .bin .gtr, [.t 17, .c (.val (.int .i64 32))], none⟩,
  ⟨some 14, .move, [.t 18], none⟩] [] [] [1, 14] false [] []
def c122_13 : ACode := .region false [⟨some 19, .addr 2, [.t 1], none⟩,
  ⟨some 20, .load false 1, [.t 19], none⟩,
  ⟨some 21, .move, [.t 20], none⟩,
  ⟨some 22, .addr 1, [.t 1], some (some 21, true)⟩,
  ⟨some 23, .load false 1, [.t 22], some (some 21, true)⟩,
  ⟨some 24, .bin .neq, [.t 23, .c (.val (.string ⟨#[]⟩))], some (some 21, true)⟩,
  ⟨some 25, .pick, [.t 21, .t 24, .c (.val (.bool false))], none⟩,
  ⟨some 14, .move, [.t 25], none⟩] [] [] [1, 14] false [] []
def c122_12 : ACode := .cond (.t 14) .skip c122_13
def c122_10 : ACode := .seq c122_11 c122_12
def c122_16 : ACode := .region false [⟨some 2, .move, [.c (.val (.int .i64 10))], none⟩] [] [] [2] false [] []
def c122_15 : ACode := .seq c122_16 .ret
def c122_19 : ACode := .region false [⟨some 27, .addr 3, [.t 1], none⟩,
  ⟨some 28, .load true 2, [.t 27], none⟩,
  ⟨some 29, .call 115, [.t 28], none⟩,
  ⟨some 30, .un .not, [.t 29], none⟩,
  ⟨some 26, .move, [.t 30], none⟩] [] [] [1, 26] true [] []
def c122_22 : ACode := .region false [⟨some 31, .addr 5, [.t 1], none⟩,
  ⟨some 32, .load true 2, [.t 31], none⟩,
  ⟨some 33, .call 115, [.t 32], none⟩,
  ⟨some 34, .un .not, [.t 33], none⟩,
  ⟨some 26, .move, [.t 34], none⟩] [] [] [1, 26] true [] []
def c122_24 : ACode := .region false [⟨some 35, .addr 5, [.t 1], none⟩,
  ⟨some 36, .load true 2, [.t 35], none⟩,
  ⟨some 37, .addr 3, [.t 1], none⟩,
  ⟨some 38, .load true 2, [.t 37], none⟩,
  ⟨some 39, .call 139, [.t 36, .t 38], none⟩,
  ⟨some 40, .bin .lss, [.t 39, .c (.val (.int .i64 0))], none⟩,
  ⟨some 26, .move, [.t 40], none⟩] [] [] [1, 26] true [] []
def c122_23 : ACode := .cond (.t 26) .skip c122_24
def c122_21 : ACode := .seq c122_22 c122_23
def c122_20 : ACode := .cond (.t 26) .skip c122_21
def c122_18 : ACode := .seq c122_19 c122_20
def c122_27 : ACode := .region false [⟨some 2, .move, [.c (.val (.int .i64 1))], none⟩] [] [] [2] false [] []
def c122_26 : ACode := .seq c122_27 .ret
def c122_30 : ACode := .region false [⟨some 42, .addr 2, [.t 1], none⟩,
  ⟨some 43, .load false 1, [.t 42], none⟩,
  ⟨some 44, .un .not, [.t 43], none⟩,
  ⟨some 45, .move, [.t 44], none⟩,
  ⟨some 46, .load true 9, [.t 1], some (some 45, true)⟩,
  ⟨some 47, .call 140, [.t 46], some (some 45, true)⟩,
  ⟨some 48, .un .not, [.t 47], some (some 45, true)⟩,
  ⟨some 49, .pick, [.t 45, .t 48, .c (.val (.bool false))], none⟩,
  ⟨some 41, .move, [.t 49], none⟩] [] [] [1, 41] true [] []
def c122_32 : ACode := .region false [⟨some 50, .addr 2, [.t 1], none⟩,
  ⟨some 51, .load false 1, [.t 50], none⟩,
  ⟨some 52, .move, [.t 51], none⟩,
  ⟨some 53, .load true 9, [.t 1], some (some 52, true)⟩,
  ⟨some 54, .call 141, [.t 53], some (some 52, true)⟩,
  ⟨some 55, .un .not, [.t 54], some (some 52, true)⟩,
  ⟨some 56, .pick, [.t 52, .t 55, .c (.val (.bool false))], none⟩,
  ⟨some 41, .move, [.t 56], none⟩] [] [] [41] true [] []
def c122_31 : ACode := .cond (.t 41) .skip c122_32
def c122_29 : ACode := .seq c122_30 c122_31
def c122_35 : ACode := .region false [⟨some 2, .move, [.c (.val (.int .i64 1))], none⟩] [] [] [2] false [] []
def c122_34 : ACode := .seq c122_35 .ret
def c122_33 : ACode := .cond (.t 41) c122_34 .skip
def c122_28 : ACode := .seq c122_29 c122_33
def c122_25 : ACode := .cond (.t 26) c122_26 c122_28
def c122_17 : ACode := .seq c122_18 c122_25
def c122_14 : ACode := .cond (.t 14) c122_15 c122_17
def c122_9 : ACode := .seq c122_10 c122_14
def c122_6 : ACode := .cond (.t 3) c122_7 c122_9
def c122_4 : ACode := .seq c122_5 c122_6
def c122_3 : ACode := .block 0 c122_4
def c122_37 : ACode := .region false [⟨some 2, .move, [.c (.val (.int .i64 0))], none⟩] [] [] [2] false [] []
def c122_36 : ACode := .seq c122_37 .ret
def c122_2 : ACode := .seq c122_3 c122_36
def c122_0 : ACode := .seq c122_1 c122_2
def code122 : Code := (Tryz.f122.body).getD .skip
theorem c122_ok : compC Tryz.prog 57 code122 = some (strip c122_0) := by kernel_rfl
theorem res122_ok : Tryz.f122.results.toList.mapM (resC Tryz.prog) = some [(2, none)] := by kernel_rfl
theorem of05_any (e : En) : ACall Tryz.prog 49 [EnA e] [] (Det (EnA e) []) := by
  refine ACall.startA c49_ok Tryz.func49 rfl Tryz.ntmps49 (by kernel_rfl) res49_ok rfl rfl rfl ?_; simp (maxSteps := 9999999) (disch := omega) only [go_sem]
  (have k9 := k0; (repeat' (first | refine AWpA.seq ?_ | refine AWpA.block ?_ | (with_reducible refine CondP.tt ?_) | (with_reducible refine CondP.ff ?_) | refine AWpA.cg ?_ | ((first | refine AWpA.rg ?_ | refine AWpA.dg [] [] follows ?_ | refine TailK.tg ?_ | refine AWpA.skip ?_ | refine AWpA.exit ?_ | refine AWpA.ret ?_ | (with_reducible refine ARoundsA.succ ?_) | ((first | refine Runs.gkt (fun h9 => ?_) | refine Runs.gkf (fun h9 => ?_) | refine Runs.gnt (fun h9 => ?_) | refine Runs.gnf (fun h9 => ?_) | refine CondP.gt (fun h9 => ?_) | refine CondP.gf (fun h9 => ?_) | refine CondP.gnt (fun h9 => ?_) | refine CondP.gnf (fun h9 => ?_)); (try simp only [h9]); clear h9) | refine CallG.pg [] (of04_any _) ?_ | refine CallG.dg [] (of04_any _) ?_); (try simp (maxSteps := 9999999) (disch := omega) only [go_sem, k9]); (try refine cnd ?_)) | ((first | refine CondP.split (fun hif => ?_) (fun hif => ?_) | refine Runs.part (fun hif => ?_) (fun hif => ?_)) <;> ((try simp only [hif]); (try simp only [BL] at hif); (try (have h9 : _ = true := hif; simp only [h9])); (try (have h9 : _ = false := hif; simp only [h9])); (try simp (maxSteps := 9999999) (disch := omega) only [go_sem, k9]); (try refine cnd ?_); (try (exfalso; omega; done)))))); (all_goals (try clear k9)))
  all_goals (apply Ret.det []; (focus (first | exact .inl rfl | exact .inr rfl)); (focus (simp (maxSteps := 9999999) (disch := omega) only [go_sem]; rfl)); (simp (maxSteps := 9999999) (disch := omega) only [go_sem]; (try (repeat' (first | done | trivial | rfl | exact leAs_rfl _ | decide | (refine And.intro ?_ ?_) | (simp; done) | omega | (simp; decide))))))
def shortB (e : En) : Bool := decide ((e.key.size : Int) ≤ 300) && decide ((e.val.size : Int) ≤ 300)
theorem short_any (e : En) : ACall Tryz.prog 42 [EnA e] [] (Det (Bo (shortB e)) []) := by
  refine ACall.startA c42_ok Tryz.func42 rfl Tryz.ntmps42 (by kernel_rfl) res42_ok rfl rfl rfl ?_; simp (maxSteps := 9999999) (disch := omega) only [go_sem]
  (have k9 := k0; (repeat' (first | refine goM ?_ | ((first | refine CondP.split (fun hif => ?_) (fun hif => ?_) | refine Runs.part (fun hif => ?_) (fun hif => ?_)) <;> ((try simp only [BL] at hif); first | (exfalso; omega; done) | refine goI ?_)))); (all_goals (try clear k9)))
  all_goals
    (apply Ret.det []; (focus (first | exact .inl rfl | exact .inr rfl)); (focus (simp (maxSteps := 9999999) (disch := omega) only [go_sem]; rfl)); (simp (maxSteps := 9999999) (disch := omega) only [go_sem]; (try (repeat' (first | done | trivial | rfl | exact leAs_rfl _ | decide | (refine And.intro ?_ ?_) | (simp; done) | omega | (simp; decide))))))
    all_goals (simp [shortB, *])
theorem plain_any (e : En) : ACall Tryz.prog 140 [EnA e] [] (Det (Bo (plainB e)) []) := by
  refine ACall.startA c140_ok Tryz.func140 rfl Tryz.ntmps140 (by kernel_rfl) res140_ok rfl rfl rfl ?_; simp (maxSteps := 9999999) (disch := omega) only [go_sem]
  (have k9 := k0; (repeat' (first | refine AWpA.seq ?_ | refine AWpA.block ?_ | (with_reducible refine CondP.tt ?_) | (with_reducible refine CondP.ff ?_) | refine AWpA.cg ?_ | ((first | refine AWpA.rg ?_ | refine AWpA.dg [] [] follows ?_ | refine TailK.tg ?_ | refine AWpA.skip ?_ | refine AWpA.exit ?_ | refine AWpA.ret ?_ | (with_reducible refine ARoundsA.succ ?_) | ((first | refine Runs.gkt (fun h9 => ?_) | refine Runs.gkf (fun h9 => ?_) | refine Runs.gnt (fun h9 => ?_) | refine Runs.gnf (fun h9 => ?_) | refine CondP.gt (fun h9 => ?_) | refine CondP.gf (fun h9 => ?_) | refine CondP.gnt (fun h9 => ?_) | refine CondP.gnf (fun h9 => ?_)); (try simp only [h9]); clear h9)); (try simp (maxSteps := 9999999) (disch := omega) only [go_sem, k9]); (try refine cnd ?_)) | ((first | refine CondP.split (fun hif => ?_) (fun hif => ?_) | refine Runs.part (fun hif => ?_) (fun hif => ?_)) <;> ((try simp only [hif]); (try simp only [BL] at hif); (try (have h9 : _ = true := hif; simp only [h9])); (try (have h9 : _ = false := hif; simp only [h9])); (try simp (maxSteps := 9999999) (disch := omega) only [go_sem, k9]); (try refine cnd ?_); (try (exfalso; omega; done)))))); (all_goals (try clear k9)))
  all_goals
    (apply Ret.det []; (focus (first | exact .inl rfl | exact .inr rfl)); (focus (simp (maxSteps := 9999999) (disch := omega) only [go_sem]; rfl)); (simp (maxSteps := 9999999) (disch := omega) only [go_sem]; (try (repeat' (first | done | trivial | rfl | exact leAs_rfl _ | decide | (refine And.intro ?_ ?_) | (simp; done) | omega | (simp; decide))))))
    all_goals (simp_all [plainB, eqSt])
theorem kept_any (e : En) : ACall Tryz.prog 141 [EnA e] [] (Det (Bo (keptB e)) []) := by
  refine ACall.startA c141_ok Tryz.func141 rfl Tryz.ntmps141 (by kernel_rfl) res141_ok rfl rfl rfl ?_; simp (maxSteps := 9999999) (disch := omega) only [go_sem]
  (have k9 := k0; (repeat' (first | refine goM ?_ | ((first | refine CondP.split (fun hif => ?_) (fun hif => ?_) | refine Runs.part (fun hif => ?_) (fun hif => ?_)) <;> ((try simp only [BL] at hif); first | (exfalso; omega; done) | refine goI ?_)))); (all_goals (try clear k9)))
  all_goals
    (apply Ret.det []; (focus (first | exact .inl rfl | exact .inr rfl)); (focus (simp (maxSteps := 9999999) (disch := omega) only [go_sem]; rfl)); (simp (maxSteps := 9999999) (disch := omega) only [go_sem]; (try (repeat' (first | done | trivial | rfl | exact leAs_rfl _ | decide | (refine And.intro ?_ ?_) | (simp; done) | omega | (simp; decide))))))
    all_goals (simp_all [keptB]; try omega)
set_option maxHeartbeats 20000000 in
theorem check_any (e : En) : ACall Tryz.prog 122 [EnA e] [] (Det (I (checkI e)) []) := by
  refine ACall.startA c122_ok Tryz.func122 rfl Tryz.ntmps122 (by kernel_rfl) res122_ok rfl rfl rfl ?_; simp (maxSteps := 9999999) (disch := omega) only [go_sem]
  (have k9 := And.intro @cmpS_lt (k0); (repeat' (first | refine goM ?_ | ((first | refine CallG.pg [] (good_any _) ?_ | refine CallG.pg [] (compare_any _ _) ?_ | refine CallG.pg [] (plain_any _) ?_ | refine CallG.pg [] (kept_any _) ?_ | refine CallG.dg [] (good_any _) ?_ | refine CallG.dg [] (compare_any _ _) ?_ | refine CallG.dg [] (plain_any _) ?_ | refine CallG.dg [] (kept_any _) ?_); refine goJ ?_) | ((first | refine CondP.split (fun hif => ?_) (fun hif => ?_) | refine Runs.part (fun hif => ?_) (fun hif => ?_)) <;> ((try simp only [BL] at hif); first | (exfalso; omega; done) | refine goI ?_)))); (all_goals (try clear k9)))
  all_goals
    (apply Ret.det []; (focus (first | exact .inl rfl | exact .inr rfl)); (focus (simp (maxSteps := 9999999) (disch := omega) only [go_sem]; rfl)); (simp (maxSteps := 9999999) (disch := omega) only [go_sem]; (try (repeat' (first | done | trivial | rfl | exact leAs_rfl _ | decide | (refine And.intro ?_ ?_) | (simp; done) | omega | (simp; decide))))))
    all_goals (simp [checkI, shapeB, *])
end
end Go.Proofs.YtopidfkmligljaaGreat
