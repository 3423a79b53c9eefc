/- Contracts: entries. -/
import Derived.Test.YtgjimlgofakbpaaAc1
import Derived.Test.YtgjimlgofakbpaaEg4
namespace Go.Proofs.Ytgjimlgofakbpaa
set_option linter.unusedSimpArgs false
set_option linter.unusedVariables false
set_option maxHeartbeats 4000000
open Go Go.Am Go.RowKit Go.ChangeShapes Go.WideShapes Go.ChangeAt
open Go.ChangeMaps (open_string shut_string)
set_option maxRecDepth 100000
def eqSt (a b : St) : Bool := (a.c == b.c) && (a.s == b.s)
theorem cmp_want (a b : St) : cmpS a b = if laterB b a = true then -1 else if laterB a b = true then 1 else 0 := by
  unfold cmpS orI cmpI laterB; grind
theorem later_not (a b : St) (h : laterB a b = true) : laterB b a = false := by
  unfold laterB at *; grind
theorem cmpS_lt (a b : St) : decide (cmpS a b < 0) = laterB b a := by
  rw [cmp_want]; cases h1 : laterB b a <;> cases h2 : laterB a b <;> simp
theorem cmpS_gt (a b : St) : decide (0 < cmpS a b) = laterB a b := by
  rw [cmp_want]; cases h1 : laterB b a <;> cases h2 : laterB a b <;> simp
  exact absurd (later_not _ _ h1) (by simp [h2])
theorem cmpS_le (a b : St) : decide (cmpS a b ≤ 0) = !laterB a b := by
  rw [← cmpS_gt]; by_cases h : cmpS a b ≤ 0
  · simp [h]
  · simp [h]; omega
theorem later_eq (a b : St) : eqSt a b = (!laterB a b && !laterB b a) := by
  unfold eqSt laterB; grind
theorem cmpS_eq (a b : St) : (cmpS a b == 0) = eqSt a b := by
  rw [cmp_want, later_eq]; cases h1 : laterB b a <;> cases h2 : laterB a b <;> simp
theorem cmpS_ne (a b : St) : (cmpS a b != 0) = !eqSt a b := by
  rw [bne, cmpS_eq]
/-- An entry. -/
structure En where
  key : ByteArray
  val : ByteArray
  dead : Bool
  st : St
  act : St
  keep : Int
  age : Int
abbrev Str (s : ByteArray) : AV := .val (.string s)
abbrev EnL (e : En) : List AV := [Str e.key, Str e.val, Bo e.dead, I e.st.c, I e.st.s, I e.act.c, I e.act.s, I e.keep, I e.age]
abbrev EnA (e : En) : AV := .agg (EnL e)
def plainB (e : En) : Bool := eqSt e.act e.st && (e.keep == 0 && e.age == 0)
def keptB (e : En) : Bool := decide (1 ≤ e.keep) && (decide (e.keep ≤ 4095) && (decide (0 ≤ e.age) && decide (e.age ≤ 2147483647)))
def shapeB (e : En) : Bool := goodB e.st && (goodB e.act && !laterB e.st e.act)
def checkI (e : En) : Int :=
  if (e.key.size : Int) < 1 then 9 else if 16 < (e.key.size : Int) then 9 else if 32 < (e.val.size : Int) then 10
  else if (e.dead && !(e.val == ⟨#[]⟩)) = true then 10 else if shapeB e = true then (if e.dead = true then (if keptB e = true then 0 else 1) else if plainB e = true then 0 else 1) else 1
/- quidnunc/quidnunclaw05.Of -/
noncomputable def c35_1 : ACode := .region false [⟨some 1, .box 0, [.t 0], none⟩,
  ⟨some 2, .alloc [(.string ⟨#[]⟩), (.string ⟨#[]⟩), (.bool false), (.int .i64 0), (.int .i64 0), (.int .i64 0), (.int .i64 0), (.int .i64 0), (.int .i64 0)], [], none⟩] [] [] [1, 2] true [] []
noncomputable def c35_3 : ACode := .region true [⟨some 3, .addr 0, [.t 1], none⟩,
  ⟨some 4, .load false 1, [.t 3], none⟩,
  ⟨some 5, .addr 1, [.t 1], none⟩,
  ⟨some 6, .load false 1, [.t 5], none⟩,
  ⟨some 7, .addr 2, [.t 1], none⟩,
  ⟨some 8, .load false 1, [.t 7], none⟩,
  ⟨some 9, .addr 3, [.t 1], none⟩,
  ⟨some 10, .load true 2, [.t 9], none⟩,
  ⟨some 11, .call 56, [.t 10], none⟩,
  ⟨some 12, .addr 5, [.t 1], none⟩,
  ⟨some 13, .load true 2, [.t 12], none⟩,
  ⟨some 14, .call 56, [.t 13], none⟩,
  ⟨some 15, .addr 7, [.t 1], none⟩,
  ⟨some 16, .load false 1, [.t 15], none⟩,
  ⟨some 17, .addr 8, [.t 1], none⟩,
  ⟨some 18, .load false 1, [.t 17], none⟩,
  ⟨some 19, .build [(.string ⟨#[]⟩), (.string ⟨#[]⟩), (.bool false), (.int .i64 0), (.int .i64 0), (.int .i64 0), (.int .i64 0), (.int .i64 0), (.int .i64 0)] [(0, 1), (1, 1), (2, 1), (3, 2), (5, 2), (7, 1), (8, 1)], [.t 4, .t 6, .t 8, .t 11, .t 14, .t 16, .t 18], none⟩,
  ⟨none, .store 9, [.t 2, .t 19], none⟩] [] [] [2] true [2] []
noncomputable def c35_2 : ACode := .seq c35_3 .ret
noncomputable def c35_0 : ACode := .seq c35_1 c35_2
noncomputable def code35 : Code := (Try.f35.body).getD .skip
theorem c35_ok : compC Try.prog 20 code35 = some (strip c35_0) := by kernel_rfl
theorem res35_ok : Try.f35.results.toList.mapM (resC Try.prog) = some [(2, some (true, 9))] := by kernel_rfl
/- quidnunc/quidnunclaw05.Short -/
noncomputable def c42_1 : ACode := .region false [⟨some 1, .box 0, [.t 0], none⟩,
  ⟨some 2, .move, [.c (.val (.bool false))], none⟩] [] [] [1] true [] []
noncomputable def c42_3 : ACode := .region false [⟨some 3, .addr 0, [.t 1], none⟩,
  ⟨some 4, .load false 1, [.t 3], none⟩,
  ⟨some 5, .lenStr, [.t 4], none⟩,
  ⟨some 6, .bin .leq, [.t 5, .c (.val (.int .i64 300))], none⟩,
  ⟨some 7, .move, [.t 6], none⟩,
  ⟨some 8, .addr 1, [.t 1], some (some 7, true)⟩,
  ⟨some 9, .load false 1, [.t 8], some (some 7, true)⟩,
  ⟨some 10, .lenStr, [.t 9], some (some 7, true)⟩,
  ⟨some 11, .bin .leq, [.t 10, .c (.val (.int .i64 300))], some (some 7, true)⟩,
  ⟨some 12, .pick, [.t 7, .t 11, .c (.val (.bool false))], none⟩,
  ⟨some 2, .move, [.t 12], none⟩] [] [] [2] false [] []
noncomputable def c42_2 : ACode := .seq c42_3 .ret
noncomputable def c42_0 : ACode := .seq c42_1 c42_2
noncomputable def code42 : Code := (Try.f42.body).getD .skip
theorem c42_ok : compC Try.prog 13 code42 = some (strip c42_0) := by kernel_rfl
theorem res42_ok : Try.f42.results.toList.mapM (resC Try.prog) = some [(2, none)] := by kernel_rfl
/- quidnunc/entry.plain -/
noncomputable def c83_1 : ACode := .region false [⟨some 1, .box 0, [.t 0], none⟩,
  ⟨some 2, .move, [.c (.val (.bool false))], none⟩] [] [] [1] true [] []
noncomputable def c83_3 : ACode := .region false [⟨some 3, .addr 5, [.t 1], none⟩,
  ⟨some 4, .load true 2, [.t 3], none⟩,
  ⟨some 5, .addr 3, [.t 1], none⟩,
  ⟨some 6, .load true 2, [.t 5], none⟩,
  ⟨some 7, .eqA false [(0, 0), (1, 0)], [.t 4, .t 6], none⟩,
  ⟨some 8, .move, [.t 7], none⟩,
  ⟨some 9, .addr 7, [.t 1], some (some 8, true)⟩,
  ⟨some 10, .load false 1, [.t 9], some (some 8, true)⟩,
  ⟨some 11, .bin .eql, [.t 10, .c (.val (.int .i64 0))], some (some 8, true)⟩,
  ⟨some 12, .pick, [.t 8, .t 11, .c (.val (.bool false))], none⟩,
  ⟨some 13, .move, [.t 12], none⟩,
  ⟨some 14, .addr 8, [.t 1], some (some 13, true)⟩,
  ⟨some 15, .load false 1, [.t 14], some (some 13, true)⟩,
  ⟨some 16, .bin .eql, [.t 15, .c (.val (.int .i64 0))], some (some 13, true)⟩,
  ⟨some 17, .pick, [.t 13, .t 16, .c (.val (.bool false))], none⟩,
  ⟨some 2, .move, [.t 17], none⟩] [] [] [2] false [] []
noncomputable def c83_2 : ACode := .seq c83_3 .ret
noncomputable def c83_0 : ACode := .seq c83_1 c83_2
noncomputable def code83 : Code := (Try.f83.body).getD .skip
theorem c83_ok : compC Try.prog 18 code83 = some (strip c83_0) := by kernel_rfl
theorem res83_ok : Try.f83.results.toList.mapM (resC Try.prog) = some [(2, none)] := by kernel_rfl
/- quidnunc/entry.kept -/
noncomputable def c84_1 : ACode := .region false [⟨some 1, .box 0, [.t 0], none⟩,
  ⟨some 2, .move, [.c (.val (.bool false))], none⟩] [] [] [1] true [] []
noncomputable def c84_3 : ACode := .region false [⟨some 3, .addr 7, [.t 1], none⟩,
  ⟨some 4, .load false 1, [.t 3], none⟩,
  ⟨some 5, .bin .geq, [.t 4, .c (.val (.int .i64 1))], none⟩,
  ⟨some 6, .move, [.t 5], none⟩,
  ⟨some 7, .addr 7, [.t 1], some (some 6, true)⟩,
  ⟨some 8, .load false 1, [.t 7], some (some 6, true)⟩,
  ⟨some 9, .bin .leq, [.t 8, .c (.val (.int .i64 4095))], some (some 6, true)⟩,
  ⟨some 10, .pick, [.t 6, .t 9, .c (.val (.bool false))], none⟩,
  ⟨some 11, .move, [.t 10], none⟩,
  ⟨some 12, .addr 8, [.t 1], some (some 11, true)⟩,
  ⟨some 13, .load false 1, [.t 12], some (some 11, true)⟩,
  ⟨some 14, .bin .geq, [.t 13, .c (.val (.int .i64 0))], some (some 11, true)⟩,
  ⟨some 15, .pick, [.t 11, .t 14, .c (.val (.bool false))], none⟩,
  ⟨some 16, .move, [.t 15], none⟩,
  ⟨some 17, .addr 8, [.t 1], some (some 16, true)⟩,
  ⟨some 18, .load false 1, [.t 17], some (some 16, true)⟩,
  ⟨some 19, .bin .leq, [.t 18, .c (.val (.int .i64 2147483647))], some (some 16, true)⟩,
  ⟨some 20, .pick, [.t 16, .t 19, .c (.val (.bool false))], none⟩,
  ⟨some 2, .move, [.t 20], none⟩] [] [] [2] false [] []
noncomputable def c84_2 : ACode := .seq c84_3 .ret
noncomputable def c84_0 : ACode := .seq c84_1 c84_2
noncomputable def code84 : Code := (Try.f84.body).getD .skip
theorem c84_ok : compC Try.prog 21 code84 = some (strip c84_0) := by kernel_rfl
theorem res84_ok : Try.f84.results.toList.mapM (resC Try.prog) = some [(2, none)] := by kernel_rfl
/- quidnunc/entry.Check -/
noncomputable def c65_1 : ACode := .region false [⟨some 1, .box 0, [.t 0], none⟩,
  ⟨some 2, .move, [.c (.val (.int .i64 0))], none⟩] [] [] [1] true [] []
noncomputable def c65_5 : ACode := .region false [⟨some 4, .addr 0, [.t 1], none⟩,
  ⟨some 5, .load false 1, [.t 4], none⟩,
  ⟨some 6, .lenStr, [.t 5], none⟩,
  ⟨some 7, .bin .lss, [.t 6, .c (.val (.int .i64 1))], none⟩,
  ⟨some 8, .move, [.t 7], none⟩,
  ⟨some 9, .addr 0, [.t 1], some (some 8, false)⟩,
  ⟨some 10, .load false 1, [.t 9], some (some 8, false)⟩,
  ⟨some 11, .lenStr, [.t 10], some (some 8, false)⟩,
  ⟨some 12, .bin .gtr, [.t 11, .c (.val (.int .i64 16))], some (some 8, false)⟩,
  ⟨some 13, .pick, [.t 8, .c (.val (.bool true)), .t 12], none⟩,
  ⟨some 3, .move, [.t 13], none⟩] [] [] [1, 3] false [] []
noncomputable def c65_8 : ACode := .region false [⟨some 2, .move, [.c (.val (.int .i64 9))], none⟩] [] [] [2] false [] []
noncomputable def c65_7 : ACode := .seq c65_8 .ret
noncomputable def c65_11 : ACode := .region false [⟨some 15, .addr 1, [.t 1], none⟩,
  ⟨some 16, .load false 1, [.t 15], none⟩,
  ⟨some 17, .lenStr, [.t 16], none⟩,
  ⟨some 18, .bin .gtr, [.t 17, .c (.val (.int .i64 32))], none⟩,
  ⟨some 14, .move, [.t 18], none⟩] [] [] [1, 14] false [] []
noncomputable def c65_13 : ACode := .region false [⟨some 19, .addr 2, [.t 1], none⟩,
  ⟨some 20, .load false 1, [.t 19], none⟩,
  ⟨some 21, .move, [.t 20], none⟩,
  ⟨some 22, .addr 1, [.t 1], some (some 21, true)⟩,
  ⟨some 23, .load false 1, [.t 22], some (some 21, true)⟩,
  ⟨some 24, .bin .neq, [.t 23, .c (.val (.string ⟨#[]⟩))], some (some 21, true)⟩,
  ⟨some 25, .pick, [.t 21, .t 24, .c (.val (.bool false))], none⟩,
  ⟨some 14, .move, [.t 25], none⟩] [] [] [1, 14] false [] []
noncomputable def c65_12 : ACode := .cond (.t 14) .skip c65_13
noncomputable def c65_10 : ACode := .seq c65_11 c65_12
noncomputable def c65_16 : ACode := .region false [⟨some 2, .move, [.c (.val (.int .i64 10))], none⟩] [] [] [2] false [] []
noncomputable def c65_15 : ACode := .seq c65_16 .ret
noncomputable def c65_19 : ACode := .region false [⟨some 27, .addr 3, [.t 1], none⟩,
  ⟨some 28, .load true 2, [.t 27], none⟩,
  ⟨some 29, .call 82, [.t 28], none⟩,
  ⟨some 30, .un .not, [.t 29], none⟩,
  ⟨some 26, .move, [.t 30], none⟩] [] [] [1, 26] true [] []
noncomputable def c65_22 : ACode := .region false [⟨some 31, .addr 5, [.t 1], none⟩,
  ⟨some 32, .load true 2, [.t 31], none⟩,
  ⟨some 33, .call 82, [.t 32], none⟩,
  ⟨some 34, .un .not, [.t 33], none⟩,
  ⟨some 26, .move, [.t 34], none⟩] [] [] [1, 26] true [] []
noncomputable def c65_24 : ACode := .region false [⟨some 35, .addr 5, [.t 1], none⟩,
  ⟨some 36, .load true 2, [.t 35], none⟩,
  ⟨some 37, .addr 3, [.t 1], none⟩,
  ⟨some 38, .load true 2, [.t 37], none⟩,
  ⟨some 39, .call 54, [.t 36, .t 38], none⟩,
  ⟨some 40, .bin .lss, [.t 39, .c (.val (.int .i64 0))], none⟩,
  ⟨some 26, .move, [.t 40], none⟩] [] [] [1, 26] true [] []
noncomputable def c65_23 : ACode := .cond (.t 26) .skip c65_24
noncomputable def c65_21 : ACode := .seq c65_22 c65_23
noncomputable def c65_20 : ACode := .cond (.t 26) .skip c65_21
noncomputable def c65_18 : ACode := .seq c65_19 c65_20
noncomputable def c65_27 : ACode := .region false [⟨some 2, .move, [.c (.val (.int .i64 1))], none⟩] [] [] [2] false [] []
noncomputable def c65_26 : ACode := .seq c65_27 .ret
noncomputable def c65_30 : ACode := .region false [⟨some 42, .addr 2, [.t 1], none⟩,
  ⟨some 43, .load false 1, [.t 42], none⟩,
  ⟨some 44, .un .not, [.t 43], none⟩,
  ⟨some 45, .move, [.t 44], none⟩,
  ⟨some 46, .load true 9, [.t 1], some (some 45, true)⟩,
  ⟨some 47, .call 83, [.t 46], some (some 45, true)⟩,
  ⟨some 48, .un .not, [.t 47], some (some 45, true)⟩,
  ⟨some 49, .pick, [.t 45, .t 48, .c (.val (.bool false))], none⟩,
  ⟨some 41, .move, [.t 49], none⟩] [] [] [1, 41] true [] []
noncomputable def c65_32 : ACode := .region false [⟨some 50, .addr 2, [.t 1], none⟩,
  ⟨some 51, .load false 1, [.t 50], none⟩,
  ⟨some 52, .move, [.t 51], none⟩,
  ⟨some 53, .load true 9, [.t 1], some (some 52, true)⟩,
  ⟨some 54, .call 84, [.t 53], some (some 52, true)⟩,
  ⟨some 55, .un .not, [.t 54], some (some 52, true)⟩,
  ⟨some 56, .pick, [.t 52, .t 55, .c (.val (.bool false))], none⟩,
  ⟨some 41, .move, [.t 56], none⟩] [] [] [41] true [] []
noncomputable def c65_31 : ACode := .cond (.t 41) .skip c65_32
noncomputable def c65_29 : ACode := .seq c65_30 c65_31
noncomputable def c65_35 : ACode := .region false [⟨some 2, .move, [.c (.val (.int .i64 1))], none⟩] [] [] [2] false [] []
noncomputable def c65_34 : ACode := .seq c65_35 .ret
noncomputable def c65_33 : ACode := .cond (.t 41) c65_34 .skip
noncomputable def c65_28 : ACode := .seq c65_29 c65_33
noncomputable def c65_25 : ACode := .cond (.t 26) c65_26 c65_28
noncomputable def c65_17 : ACode := .seq c65_18 c65_25
noncomputable def c65_14 : ACode := .cond (.t 14) c65_15 c65_17
noncomputable def c65_9 : ACode := .seq c65_10 c65_14
noncomputable def c65_6 : ACode := .cond (.t 3) c65_7 c65_9
noncomputable def c65_4 : ACode := .seq c65_5 c65_6
noncomputable def c65_3 : ACode := .block 0 c65_4
noncomputable def c65_37 : ACode := .region false [⟨some 2, .move, [.c (.val (.int .i64 0))], none⟩] [] [] [2] false [] []
noncomputable def c65_36 : ACode := .seq c65_37 .ret
noncomputable def c65_2 : ACode := .seq c65_3 c65_36
noncomputable def c65_0 : ACode := .seq c65_1 c65_2
noncomputable def code65 : Code := (Try.f65.body).getD .skip
theorem c65_ok : compC Try.prog 57 code65 = some (strip c65_0) := by kernel_rfl
theorem res65_ok : Try.f65.results.toList.mapM (resC Try.prog) = some [(2, none)] := by kernel_rfl
theorem of05_any (e : En) : ACall Try.prog 35 [EnA e] [] (Det (EnA e) []) := by
  refine ACall.startA c35_ok Try.func35 rfl Try.ntmps35 (by kernel_rfl) res35_ok rfl rfl rfl ?_; simp (maxSteps := 9999999) (disch := omega) only [go_sem]
  (repeat' (first | refine AWpA.seq ?_ | refine AWpA.block ?_ | (with_reducible refine CondP.tt ?_) | (with_reducible refine CondP.ff ?_) | refine AWpA.condv (by simp (maxSteps := 9999999) (disch := omega) only [go_sem]; rfl) ?_ | ((first | (apply AWpA.region; (focus (simp (maxSteps := 9999999) (disch := omega) only [go_sem]; rfl))) | (apply AWpA.draw [] [] follows; (focus (first | rfl | decide)); (focus (simp (maxSteps := 9999999) (disch := omega) only [go_sem]; rfl)); (focus (simp (maxSteps := 9999999) (disch := omega) only [go_sem]; first | done | trivial)); (focus (simp (maxSteps := 9999999) (disch := omega) only [go_sem]; rfl))) | (apply TailK.go; (focus (simp (maxSteps := 9999999) (disch := omega) only [go_sem]; rfl))) | refine AWpA.skip ?_ | refine AWpA.exit ?_ | refine AWpA.ret ?_ | (with_reducible refine ARoundsA.succ ?_) | ((first | refine Runs.kt (by assumption) (fun h9 => ?_) | refine Runs.kf (by assumption) (fun h9 => ?_) | refine Runs.nt (by assumption) (fun h9 => ?_) | refine Runs.nf (by assumption) (fun h9 => ?_) | refine CondP.ht (by assumption) (fun h9 => ?_) | refine CondP.hf (by assumption) (fun h9 => ?_) | refine CondP.nt (by assumption) (fun h9 => ?_) | refine CondP.nf (by assumption) (fun h9 => ?_)); (try simp only [h9]); clear h9) | ((first | (with_reducible apply CallG.plain1 [] (of04_any _)) | (with_reducible apply CallG.draw1 [] (of04_any _))); (focus ((try refine And.intro (leAs_of_eq rfl) ?_); (try refine And.intro (leOL_of_eq rfl) ?_); simp (maxSteps := 9999999) (disch := omega) only [go_sem]; first | done | (repeat' (first | rfl | (refine And.intro ?_ ?_))))); (focus (simp (maxSteps := 9999999) (disch := omega) only [go_sem]; rfl)))); (try simp (maxSteps := 9999999) (disch := omega) only [go_sem]); (try (refine And.intro ?_ ?_; (focus (first | omega | (simp only [go_sem]; done) | (simp; done) | (simp; omega) | assumption))))) | ((first | refine CondP.split (fun hif => ?_) (fun hif => ?_) | refine Runs.part (fun hif => ?_) (fun hif => ?_)) <;> ((try simp only [hif]); (try simp only [decide_eq_true_eq, decide_eq_false_iff_not, Bool.not_eq_true, Bool.not_eq_false, Bool.not_eq_true', Bool.not_eq_false', beq_iff_eq, bne_iff_ne, bne_eq_false_iff_eq, beq_eq_false_iff_ne, ne_eq, Bool.and_eq_true, Bool.or_eq_true, Bool.or_eq_false_iff] at hif); (try (have h9 : _ = true := hif; simp only [h9])); (try (have h9 : _ = false := hif; simp only [h9])); (try simp (maxSteps := 9999999) (disch := omega) only [go_sem]); (try (refine And.intro ?_ ?_; (focus (first | omega | (simp only [go_sem]; done) | (simp; done) | (simp; omega) | assumption)))); (try (exfalso; omega; done))))))
  all_goals (apply Ret.det []; (focus (first | exact .inl rfl | exact .inr rfl)); (focus (simp (maxSteps := 9999999) (disch := omega) only [go_sem]; rfl)); (simp (maxSteps := 9999999) (disch := omega) only [go_sem]; (try (repeat' (first | done | trivial | rfl | exact leAs_rfl _ | decide | (refine And.intro ?_ ?_) | (simp; done) | omega | (simp; decide))))))
def shortB (e : En) : Bool := decide ((e.key.size : Int) ≤ 300) && decide ((e.val.size : Int) ≤ 300)
theorem short_any (e : En) : ACall Try.prog 42 [EnA e] [] (Det (Bo (shortB e)) []) := by
  refine ACall.startA c42_ok Try.func42 rfl Try.ntmps42 (by kernel_rfl) res42_ok rfl rfl rfl ?_; simp (maxSteps := 9999999) (disch := omega) only [go_sem]
  (repeat' (first | refine AWpA.seq ?_ | refine AWpA.block ?_ | (with_reducible refine CondP.tt ?_) | (with_reducible refine CondP.ff ?_) | refine AWpA.condv (by simp (maxSteps := 9999999) (disch := omega) only [go_sem]; rfl) ?_ | ((first | (apply AWpA.region; (focus (simp (maxSteps := 9999999) (disch := omega) only [go_sem]; rfl))) | (apply AWpA.draw [] [] follows; (focus (first | rfl | decide)); (focus (simp (maxSteps := 9999999) (disch := omega) only [go_sem]; rfl)); (focus (simp (maxSteps := 9999999) (disch := omega) only [go_sem]; first | done | trivial)); (focus (simp (maxSteps := 9999999) (disch := omega) only [go_sem]; rfl))) | (apply TailK.go; (focus (simp (maxSteps := 9999999) (disch := omega) only [go_sem]; rfl))) | refine AWpA.skip ?_ | refine AWpA.exit ?_ | refine AWpA.ret ?_ | (with_reducible refine ARoundsA.succ ?_) | ((first | refine Runs.kt (by assumption) (fun h9 => ?_) | refine Runs.kf (by assumption) (fun h9 => ?_) | refine Runs.nt (by assumption) (fun h9 => ?_) | refine Runs.nf (by assumption) (fun h9 => ?_) | refine CondP.ht (by assumption) (fun h9 => ?_) | refine CondP.hf (by assumption) (fun h9 => ?_) | refine CondP.nt (by assumption) (fun h9 => ?_) | refine CondP.nf (by assumption) (fun h9 => ?_)); (try simp only [h9]); clear h9)); (try simp (maxSteps := 9999999) (disch := omega) only [go_sem]); (try (refine And.intro ?_ ?_; (focus (first | omega | (simp only [go_sem]; done) | (simp; done) | (simp; omega) | assumption))))) | ((first | refine CondP.split (fun hif => ?_) (fun hif => ?_) | refine Runs.part (fun hif => ?_) (fun hif => ?_)) <;> ((try simp only [hif]); (try simp only [decide_eq_true_eq, decide_eq_false_iff_not, Bool.not_eq_true, Bool.not_eq_false, Bool.not_eq_true', Bool.not_eq_false', beq_iff_eq, bne_iff_ne, bne_eq_false_iff_eq, beq_eq_false_iff_ne, ne_eq, Bool.and_eq_true, Bool.or_eq_true, Bool.or_eq_false_iff] at hif); (try (have h9 : _ = true := hif; simp only [h9])); (try (have h9 : _ = false := hif; simp only [h9])); (try simp (maxSteps := 9999999) (disch := omega) only [go_sem]); (try (refine And.intro ?_ ?_; (focus (first | omega | (simp only [go_sem]; done) | (simp; done) | (simp; omega) | assumption)))); (try (exfalso; omega; done))))))
  all_goals
    (apply Ret.det []; (focus (first | exact .inl rfl | exact .inr rfl)); (focus (simp (maxSteps := 9999999) (disch := omega) only [go_sem]; rfl)); (simp (maxSteps := 9999999) (disch := omega) only [go_sem]; (try (repeat' (first | done | trivial | rfl | exact leAs_rfl _ | decide | (refine And.intro ?_ ?_) | (simp; done) | omega | (simp; decide))))))
    all_goals (simp [shortB, *])
def newerB (a b : En) : Bool := if eqSt a.st b.st = true then laterB a.act b.act else laterB a.st b.st
theorem plain_any (e : En) : ACall Try.prog 83 [EnA e] [] (Det (Bo (plainB e)) []) := by
  refine ACall.startA c83_ok Try.func83 rfl Try.ntmps83 (by kernel_rfl) res83_ok rfl rfl rfl ?_; simp (maxSteps := 9999999) (disch := omega) only [go_sem]
  (repeat' (first | refine AWpA.seq ?_ | refine AWpA.block ?_ | (with_reducible refine CondP.tt ?_) | (with_reducible refine CondP.ff ?_) | refine AWpA.condv (by simp (maxSteps := 9999999) (disch := omega) only [go_sem]; rfl) ?_ | ((first | (apply AWpA.region; (focus (simp (maxSteps := 9999999) (disch := omega) only [go_sem]; rfl))) | (apply AWpA.draw [] [] follows; (focus (first | rfl | decide)); (focus (simp (maxSteps := 9999999) (disch := omega) only [go_sem]; rfl)); (focus (simp (maxSteps := 9999999) (disch := omega) only [go_sem]; first | done | trivial)); (focus (simp (maxSteps := 9999999) (disch := omega) only [go_sem]; rfl))) | (apply TailK.go; (focus (simp (maxSteps := 9999999) (disch := omega) only [go_sem]; rfl))) | refine AWpA.skip ?_ | refine AWpA.exit ?_ | refine AWpA.ret ?_ | (with_reducible refine ARoundsA.succ ?_) | ((first | refine Runs.kt (by assumption) (fun h9 => ?_) | refine Runs.kf (by assumption) (fun h9 => ?_) | refine Runs.nt (by assumption) (fun h9 => ?_) | refine Runs.nf (by assumption) (fun h9 => ?_) | refine CondP.ht (by assumption) (fun h9 => ?_) | refine CondP.hf (by assumption) (fun h9 => ?_) | refine CondP.nt (by assumption) (fun h9 => ?_) | refine CondP.nf (by assumption) (fun h9 => ?_)); (try simp only [h9]); clear h9)); (try simp (maxSteps := 9999999) (disch := omega) only [go_sem]); (try (refine And.intro ?_ ?_; (focus (first | omega | (simp only [go_sem]; done) | (simp; done) | (simp; omega) | assumption))))) | ((first | refine CondP.split (fun hif => ?_) (fun hif => ?_) | refine Runs.part (fun hif => ?_) (fun hif => ?_)) <;> ((try simp only [hif]); (try simp only [decide_eq_true_eq, decide_eq_false_iff_not, Bool.not_eq_true, Bool.not_eq_false, Bool.not_eq_true', Bool.not_eq_false', beq_iff_eq, bne_iff_ne, bne_eq_false_iff_eq, beq_eq_false_iff_ne, ne_eq, Bool.and_eq_true, Bool.or_eq_true, Bool.or_eq_false_iff] at hif); (try (have h9 : _ = true := hif; simp only [h9])); (try (have h9 : _ = false := hif; simp only [h9])); (try simp (maxSteps := 9999999) (disch := omega) only [go_sem]); (try (refine And.intro ?_ ?_; (focus (first | omega | (simp only [go_sem]; done) | (simp; done) | (simp; omega) | assumption)))); (try (exfalso; omega; done))))))
  all_goals
    (apply Ret.det []; (focus (first | exact .inl rfl | exact .inr rfl)); (focus (simp (maxSteps := 9999999) (disch := omega) only [go_sem]; rfl)); (simp (maxSteps := 9999999) (disch := omega) only [go_sem]; (try (repeat' (first | done | trivial | rfl | exact leAs_rfl _ | decide | (refine And.intro ?_ ?_) | (simp; done) | omega | (simp; decide))))))
    all_goals (simp_all [plainB, eqSt])
theorem kept_any (e : En) : ACall Try.prog 84 [EnA e] [] (Det (Bo (keptB e)) []) := by
  refine ACall.startA c84_ok Try.func84 rfl Try.ntmps84 (by kernel_rfl) res84_ok rfl rfl rfl ?_; simp (maxSteps := 9999999) (disch := omega) only [go_sem]
  (repeat' (first | refine AWpA.seq ?_ | refine AWpA.block ?_ | (with_reducible refine CondP.tt ?_) | (with_reducible refine CondP.ff ?_) | refine AWpA.condv (by simp (maxSteps := 9999999) (disch := omega) only [go_sem]; rfl) ?_ | ((first | (apply AWpA.region; (focus (simp (maxSteps := 9999999) (disch := omega) only [go_sem]; rfl))) | (apply AWpA.draw [] [] follows; (focus (first | rfl | decide)); (focus (simp (maxSteps := 9999999) (disch := omega) only [go_sem]; rfl)); (focus (simp (maxSteps := 9999999) (disch := omega) only [go_sem]; first | done | trivial)); (focus (simp (maxSteps := 9999999) (disch := omega) only [go_sem]; rfl))) | (apply TailK.go; (focus (simp (maxSteps := 9999999) (disch := omega) only [go_sem]; rfl))) | refine AWpA.skip ?_ | refine AWpA.exit ?_ | refine AWpA.ret ?_ | (with_reducible refine ARoundsA.succ ?_) | ((first | refine Runs.kt (by assumption) (fun h9 => ?_) | refine Runs.kf (by assumption) (fun h9 => ?_) | refine Runs.nt (by assumption) (fun h9 => ?_) | refine Runs.nf (by assumption) (fun h9 => ?_) | refine CondP.ht (by assumption) (fun h9 => ?_) | refine CondP.hf (by assumption) (fun h9 => ?_) | refine CondP.nt (by assumption) (fun h9 => ?_) | refine CondP.nf (by assumption) (fun h9 => ?_)); (try simp only [h9]); clear h9)); (try simp (maxSteps := 9999999) (disch := omega) only [go_sem]); (try (refine And.intro ?_ ?_; (focus (first | omega | (simp only [go_sem]; done) | (simp; done) | (simp; omega) | assumption))))) | ((first | refine CondP.split (fun hif => ?_) (fun hif => ?_) | refine Runs.part (fun hif => ?_) (fun hif => ?_)) <;> ((try simp only [hif]); (try simp only [decide_eq_true_eq, decide_eq_false_iff_not, Bool.not_eq_true, Bool.not_eq_false, Bool.not_eq_true', Bool.not_eq_false', beq_iff_eq, bne_iff_ne, bne_eq_false_iff_eq, beq_eq_false_iff_ne, ne_eq, Bool.and_eq_true, Bool.or_eq_true, Bool.or_eq_false_iff] at hif); (try (have h9 : _ = true := hif; simp only [h9])); (try (have h9 : _ = false := hif; simp only [h9])); (try simp (maxSteps := 9999999) (disch := omega) only [go_sem]); (try (refine And.intro ?_ ?_; (focus (first | omega | (simp only [go_sem]; done) | (simp; done) | (simp; omega) | assumption)))); (try (exfalso; omega; done))))))
  all_goals
    (apply Ret.det []; (focus (first | exact .inl rfl | exact .inr rfl)); (focus (simp (maxSteps := 9999999) (disch := omega) only [go_sem]; rfl)); (simp (maxSteps := 9999999) (disch := omega) only [go_sem]; (try (repeat' (first | done | trivial | rfl | exact leAs_rfl _ | decide | (refine And.intro ?_ ?_) | (simp; done) | omega | (simp; decide))))))
    all_goals (simp_all [keptB]; try omega)
set_option maxHeartbeats 20000000 in
theorem check_any (e : En) : ACall Try.prog 65 [EnA e] [] (Det (I (checkI e)) []) := by
  refine ACall.startA c65_ok Try.func65 rfl Try.ntmps65 (by kernel_rfl) res65_ok rfl rfl rfl ?_; simp (maxSteps := 9999999) (disch := omega) only [go_sem]
  (repeat' (first | refine AWpA.seq ?_ | refine AWpA.block ?_ | (with_reducible refine CondP.tt ?_) | (with_reducible refine CondP.ff ?_) | refine AWpA.condv (by simp (maxSteps := 9999999) (disch := omega) only [go_sem, cmpS_lt]; rfl) ?_ | ((first | (apply AWpA.region; (focus (simp (maxSteps := 9999999) (disch := omega) only [go_sem, cmpS_lt]; rfl))) | (apply AWpA.draw [] [] follows; (focus (first | rfl | decide)); (focus (simp (maxSteps := 9999999) (disch := omega) only [go_sem, cmpS_lt]; rfl)); (focus (simp (maxSteps := 9999999) (disch := omega) only [go_sem, cmpS_lt]; first | done | trivial)); (focus (simp (maxSteps := 9999999) (disch := omega) only [go_sem, cmpS_lt]; rfl))) | (apply TailK.go; (focus (simp (maxSteps := 9999999) (disch := omega) only [go_sem, cmpS_lt]; rfl))) | refine AWpA.skip ?_ | refine AWpA.exit ?_ | refine AWpA.ret ?_ | (with_reducible refine ARoundsA.succ ?_) | ((first | refine Runs.kt (by assumption) (fun h9 => ?_) | refine Runs.kf (by assumption) (fun h9 => ?_) | refine Runs.nt (by assumption) (fun h9 => ?_) | refine Runs.nf (by assumption) (fun h9 => ?_) | refine CondP.ht (by assumption) (fun h9 => ?_) | refine CondP.hf (by assumption) (fun h9 => ?_) | refine CondP.nt (by assumption) (fun h9 => ?_) | refine CondP.nf (by assumption) (fun h9 => ?_)); (try simp only [h9]); clear h9) | ((first | (with_reducible apply CallG.plain1 [] (good_any _)) | (with_reducible apply CallG.plain1 [] (compare_any _ _)) | (with_reducible apply CallG.plain1 [] (plain_any _)) | (with_reducible apply CallG.plain1 [] (kept_any _)) | (with_reducible apply CallG.draw1 [] (good_any _)) | (with_reducible apply CallG.draw1 [] (compare_any _ _)) | (with_reducible apply CallG.draw1 [] (plain_any _)) | (with_reducible apply CallG.draw1 [] (kept_any _))); (focus ((try refine And.intro (leAs_of_eq rfl) ?_); (try refine And.intro (leOL_of_eq rfl) ?_); simp (maxSteps := 9999999) (disch := omega) only [go_sem, cmpS_lt]; first | done | (repeat' (first | rfl | (refine And.intro ?_ ?_))))); (focus (simp (maxSteps := 9999999) (disch := omega) only [go_sem, cmpS_lt]; rfl)))); (try simp (maxSteps := 9999999) (disch := omega) only [go_sem, cmpS_lt]); (try (refine And.intro ?_ ?_; (focus (first | omega | (simp only [go_sem]; done) | (simp; done) | (simp; omega) | assumption))))) | ((first | refine CondP.split (fun hif => ?_) (fun hif => ?_) | refine Runs.part (fun hif => ?_) (fun hif => ?_)) <;> ((try simp only [hif]); (try simp only [decide_eq_true_eq, decide_eq_false_iff_not, Bool.not_eq_true, Bool.not_eq_false, Bool.not_eq_true', Bool.not_eq_false', beq_iff_eq, bne_iff_ne, bne_eq_false_iff_eq, beq_eq_false_iff_ne, ne_eq, Bool.and_eq_true, Bool.or_eq_true, Bool.or_eq_false_iff] at hif); (try (have h9 : _ = true := hif; simp only [h9])); (try (have h9 : _ = false := hif; simp only [h9])); (try simp (maxSteps := 9999999) (disch := omega) only [go_sem, cmpS_lt]); (try (refine And.intro ?_ ?_; (focus (first | omega | (simp only [go_sem]; done) | (simp; done) | (simp; omega) | assumption)))); (try (exfalso; omega; done))))))
  all_goals
    (apply Ret.det []; (focus (first | exact .inl rfl | exact .inr rfl)); (focus (simp (maxSteps := 9999999) (disch := omega) only [go_sem]; rfl)); (simp (maxSteps := 9999999) (disch := omega) only [go_sem]; (try (repeat' (first | done | trivial | rfl | exact leAs_rfl _ | decide | (refine And.intro ?_ ?_) | (simp; done) | omega | (simp; decide))))))
    all_goals (simp [checkI, shapeB, *])
end Go.Proofs.Ytgjimlgofakbpaa
