/- Contracts: tables. -/
import Derived.Test.YtodnlihbmgigjaaBt3
namespace Go.Proofs.Ytodnlihbmgigjaa
set_option linter.unusedSimpArgs false
set_option linter.unusedVariables false
set_option maxHeartbeats 4000000
open Go Go.Am Go.RowKit
set_option maxRecDepth 100000
/-- A table: room, and keys with their numbers. -/
structure Tb where
  room : Int
  l : List Pi
abbrev Tb.ok (t : Tb) : Prop := Rise t.l ∧ t.l.length ≤ 1099511627776
abbrev TbO (j : Nat) (t : Tb) : AObj := .cells false [I t.room, .sl j 0 t.l.length 2 none]
abbrev TbR (j : Nat) (t : Tb) : AObj := .cells true [I t.room, .sl j 0 t.l.length 2 none]
theorem rp_split (l : List Pi) (i : Nat) (hi : i < l.length) : Rp 0 l = Rp 0 (l.take i) ++ [.val (.string l[i].key), I l[i].v] ++ Rp 0 (l.drop (i + 1)) := by
  have e : [AV.val (.string l[i].key), I l[i].v] = Rp 0 [l[i]] := rfl
  rw [e, ← rp_app, ← rp_app]
  congr 1
  rw [List.append_assoc, List.singleton_append, List.getElem_cons_drop, List.take_append_drop]
theorem rp_lenT (l : List Pi) (i : Nat) (hi : i ≤ l.length) : (Rp 0 (l.take i)).length = i * 2 := by
  have := rp_len 0 (l.take i)
  rw [List.length_take, Nat.min_eq_left hi] at this
  omega
theorem rp_v (l : List Pi) (i : Nat) (hi : i < l.length) : (Rp 0 l).getD (i * 2 + 1) AV.bad = I l[i].v := by
  have hX := rp_lenT l i (by omega)
  rw [rp_split l i hi, List.getD_eq_getElem?_getD, List.append_assoc, List.getElem?_append_right (by omega), hX, show i * 2 + 1 - i * 2 = 1 by omega]
  rfl
theorem rp_putv (l : List Pi) (i : Nat) (hi : i < l.length) (v : Int) : (Rp 0 l).take (i * 2 + 1) ++ [I v] ++ (Rp 0 l).drop (i * 2 + 1 + 1) = Rp 0 (l.take i ++ ⟨l[i].key, v⟩ :: l.drop (i + 1)) := by
  have hX := rp_lenT l i (by omega)
  rw [rp_app, rp_cons, rp_split l i hi]
  generalize Rp 0 (l.take i) = X at *
  generalize Rp 0 (l.drop (i + 1)) = Y
  have e1 : X ++ [AV.val (.string l[i].key), I l[i].v] ++ Y = (X ++ [AV.val (.string l[i].key)]) ++ (I l[i].v :: Y) := by simp
  have e2 : X ++ [AV.val (.string l[i].key), I l[i].v] ++ Y = (X ++ [AV.val (.string l[i].key), I l[i].v]) ++ Y := rfl
  have h1 : (X ++ [AV.val (.string l[i].key), I l[i].v] ++ Y).take (i * 2 + 1) = X ++ [AV.val (.string l[i].key)] := by
    rw [e1, show i * 2 + 1 = (X ++ [AV.val (.string l[i].key)]).length by simp; omega, List.take_left]
  have h2 : (X ++ [AV.val (.string l[i].key), I l[i].v] ++ Y).drop (i * 2 + 1 + 1) = Y := by
    rw [show i * 2 + 1 + 1 = (X ++ [AV.val (.string l[i].key), I l[i].v]).length by simp; omega, List.drop_left]
  rw [h1, h2]
  simp
/- (*quidnunc/table.Table[int]).Put -/
noncomputable def c15_1 : ACode := .region false [⟨some 6, .move, [.c (.val (.int .i64 0))], none⟩] [] [] [0, 1, 2] false [] []
noncomputable def c15_3 : ACode := .region false [⟨some 10, .move, [.t 0], none⟩,
  ⟨some 11, .move, [.t 1], none⟩,
  ⟨some 12, .call 33, [.t 10, .t 11], none⟩,
  ⟨some 9, .move, [.t 12], none⟩,
  ⟨some 13, .ext 0, [.t 9], none⟩,
  ⟨some 14, .ext 1, [.t 9], none⟩,
  ⟨some 7, .move, [.t 13], none⟩,
  ⟨some 8, .move, [.t 14], none⟩] [] [] [0, 1, 2, 7, 8] true [] []
noncomputable def c15_7 : ACode := .region false [⟨some 29, .move, [.t 8], none⟩,
  ⟨some 28, .move, [.t 29], none⟩] [] [] [0, 1, 2, 7, 28] false [] []
noncomputable def c15_9 : ACode := .region false [⟨some 30, .move, [.t 0], none⟩,
  ⟨some 31, .nilChk, [.t 30], none⟩,
  ⟨some 32, .addr 1, [.t 31], none⟩,
  ⟨some 33, .load false 1, [.t 32], none⟩,
  ⟨some 34, .move, [.t 7], none⟩,
  ⟨some 35, .move, [.t 2], none⟩,
  ⟨some 36, .ixS 2, [.t 33, .t 34], none⟩,
  ⟨some 37, .addr 1, [.t 36], none⟩,
  ⟨none, .store 1, [.t 37, .t 35], none⟩] [] [] [] true [] []
noncomputable def c15_11 : ACode := .region true [⟨some 39, .move, [.t 0], none⟩,
  ⟨some 40, .nilChk, [.t 39], none⟩,
  ⟨some 41, .addr 1, [.t 40], none⟩,
  ⟨some 42, .load false 1, [.t 41], none⟩,
  ⟨some 43, .len, [.t 42], none⟩,
  ⟨some 44, .move, [.t 0], none⟩,
  ⟨some 45, .nilChk, [.t 44], none⟩,
  ⟨some 46, .addr 0, [.t 45], none⟩,
  ⟨some 47, .load false 1, [.t 46], none⟩,
  ⟨some 48, .bin .eql, [.t 43, .t 47], none⟩,
  ⟨some 38, .move, [.t 48], none⟩] [] [] [0, 1, 2, 7, 38] false [] []
noncomputable def c15_14 : ACode := .region false [⟨some 6, .move, [.c (.val (.int .i64 7))], none⟩] [] [] [6] false [] []
noncomputable def c15_13 : ACode := .seq c15_14 .ret
noncomputable def c15_15 : ACode := .region false [⟨some 15, .move, [.t 0], none⟩,
  ⟨some 16, .move, [.t 0], none⟩,
  ⟨some 17, .nilChk, [.t 16], none⟩,
  ⟨some 18, .addr 1, [.t 17], none⟩,
  ⟨some 19, .load false 1, [.t 18], none⟩,
  ⟨some 20, .move, [.t 7], none⟩,
  ⟨some 21, .move, [.t 1], none⟩,
  ⟨some 22, .move, [.t 2], none⟩,
  ⟨some 23, .build [(.string ⟨#[]⟩), (.int .i64 0)] [(0, 1), (1, 1)], [.t 21, .t 22], none⟩,
  ⟨some 24, .buildSl 2 1 [(.string ⟨#[]⟩), (.int .i64 0)] [(0, 2)], [.t 23], none⟩,
  ⟨some 25, .call 34, [.t 19, .t 20, .t 24], none⟩,
  ⟨some 26, .nilChk, [.t 15], none⟩,
  ⟨some 27, .addr 1, [.t 26], none⟩,
  ⟨none, .store 1, [.t 27, .t 25], none⟩] [] [] [] true [] []
noncomputable def c15_12 : ACode := .cond (.t 38) c15_13 c15_15
noncomputable def c15_10 : ACode := .seq c15_11 c15_12
noncomputable def c15_8 : ACode := .cond (.t 28) c15_9 c15_10
noncomputable def c15_6 : ACode := .seq c15_7 c15_8
noncomputable def c15_5 : ACode := .block 0 c15_6
noncomputable def c15_17 : ACode := .region false [⟨some 6, .move, [.c (.val (.int .i64 0))], none⟩] [] [] [6] false [] []
noncomputable def c15_16 : ACode := .seq c15_17 .ret
noncomputable def c15_4 : ACode := .seq c15_5 c15_16
noncomputable def c15_2 : ACode := .seq c15_3 c15_4
noncomputable def c15_0 : ACode := .seq c15_1 c15_2
noncomputable def code15 : Code := (Try.f15.body).getD .skip
theorem c15_ok : compC Try.prog 49 code15 = some (strip c15_0) := by kernel_rfl
theorem res15_ok : Try.f15.results.toList.mapM (resC Try.prog) = some [(6, none)] := by kernel_rfl
/- (*quidnunc/table.Table[int]).Get -/
noncomputable def c24_1 : ACode := .region false [⟨some 4, .move, [.c (.val (.int .i64 0))], none⟩,
  ⟨some 5, .move, [.c (.val (.bool false))], none⟩] [] [] [0, 1] false [] []
noncomputable def c24_3 : ACode := .region false [⟨some 6, .move, [.c (.val (.int .i64 0))], none⟩] [] [] [0, 1, 6] false [] []
noncomputable def c24_5 : ACode := .region false [⟨some 10, .move, [.t 0], none⟩,
  ⟨some 11, .move, [.t 1], none⟩,
  ⟨some 12, .call 33, [.t 10, .t 11], none⟩,
  ⟨some 9, .move, [.t 12], none⟩,
  ⟨some 13, .ext 0, [.t 9], none⟩,
  ⟨some 14, .ext 1, [.t 9], none⟩,
  ⟨some 7, .move, [.t 13], none⟩,
  ⟨some 8, .move, [.t 14], none⟩] [] [] [0, 6, 7, 8] true [] []
noncomputable def c24_8 : ACode := .region false [⟨some 15, .move, [.t 8], none⟩,
  ⟨some 16, .un .not, [.t 15], none⟩] [] [] [0, 6, 7, 16] false [] []
noncomputable def c24_11 : ACode := .region false [⟨some 17, .move, [.t 6], none⟩,
  ⟨some 4, .move, [.t 17], none⟩,
  ⟨some 5, .move, [.c (.val (.bool false))], none⟩] [] [] [4, 5] false [] []
noncomputable def c24_10 : ACode := .seq c24_11 .ret
noncomputable def c24_9 : ACode := .cond (.t 16) c24_10 .skip
noncomputable def c24_7 : ACode := .seq c24_8 c24_9
noncomputable def c24_13 : ACode := .region false [⟨some 18, .move, [.t 0], none⟩,
  ⟨some 19, .nilChk, [.t 18], none⟩,
  ⟨some 20, .addr 1, [.t 19], none⟩,
  ⟨some 21, .load false 1, [.t 20], none⟩,
  ⟨some 22, .move, [.t 7], none⟩,
  ⟨some 23, .ixS 2, [.t 21, .t 22], none⟩,
  ⟨some 24, .addr 1, [.t 23], none⟩,
  ⟨some 25, .load false 1, [.t 24], none⟩,
  ⟨some 4, .move, [.t 25], none⟩,
  ⟨some 5, .move, [.c (.val (.bool true))], none⟩] [] [] [4, 5] false [] []
noncomputable def c24_12 : ACode := .seq c24_13 .ret
noncomputable def c24_6 : ACode := .seq c24_7 c24_12
noncomputable def c24_4 : ACode := .seq c24_5 c24_6
noncomputable def c24_2 : ACode := .seq c24_3 c24_4
noncomputable def c24_0 : ACode := .seq c24_1 c24_2
noncomputable def code24 : Code := (Try.f24.body).getD .skip
theorem c24_ok : compC Try.prog 26 code24 = some (strip c24_0) := by kernel_rfl
theorem res24_ok : Try.f24.results.toList.mapM (resC Try.prog) = some [(4, none), (5, none)] := by kernel_rfl
/- (*quidnunc/table.Table[int]).Drop -/
noncomputable def c18_1 : ACode := .region false [⟨some 4, .move, [.c (.val (.bool false))], none⟩] [] [] [0, 1] false [] []
noncomputable def c18_3 : ACode := .region false [⟨some 8, .move, [.t 0], none⟩,
  ⟨some 9, .move, [.t 1], none⟩,
  ⟨some 10, .call 33, [.t 8, .t 9], none⟩,
  ⟨some 7, .move, [.t 10], none⟩,
  ⟨some 11, .ext 0, [.t 7], none⟩,
  ⟨some 12, .ext 1, [.t 7], none⟩,
  ⟨some 5, .move, [.t 11], none⟩,
  ⟨some 6, .move, [.t 12], none⟩] [] [] [0, 5, 6] true [] []
noncomputable def c18_6 : ACode := .region false [⟨some 13, .move, [.t 6], none⟩] [] [] [0, 5, 6, 13] false [] []
noncomputable def c18_8 : ACode := .region false [⟨some 14, .move, [.t 0], none⟩,
  ⟨some 15, .move, [.t 0], none⟩,
  ⟨some 16, .nilChk, [.t 15], none⟩,
  ⟨some 17, .addr 1, [.t 16], none⟩,
  ⟨some 18, .load false 1, [.t 17], none⟩,
  ⟨some 19, .move, [.t 5], none⟩,
  ⟨some 20, .move, [.t 5], none⟩,
  ⟨some 21, .bin .add, [.t 20, .c (.val (.int .i64 1))], none⟩,
  ⟨some 22, .call 36, [.t 18, .t 19, .t 21], none⟩,
  ⟨some 23, .nilChk, [.t 14], none⟩,
  ⟨some 24, .addr 1, [.t 23], none⟩,
  ⟨none, .store 1, [.t 24, .t 22], none⟩] [] [] [6] true [] []
noncomputable def c18_7 : ACode := .cond (.t 13) c18_8 .skip
noncomputable def c18_5 : ACode := .seq c18_6 c18_7
noncomputable def c18_10 : ACode := .region false [⟨some 25, .move, [.t 6], none⟩,
  ⟨some 4, .move, [.t 25], none⟩] [] [] [4] false [] []
noncomputable def c18_9 : ACode := .seq c18_10 .ret
noncomputable def c18_4 : ACode := .seq c18_5 c18_9
noncomputable def c18_2 : ACode := .seq c18_3 c18_4
noncomputable def c18_0 : ACode := .seq c18_1 c18_2
noncomputable def code18 : Code := (Try.f18.body).getD .skip
theorem c18_ok : compC Try.prog 26 code18 = some (strip c18_0) := by kernel_rfl
theorem res18_ok : Try.f18.results.toList.mapM (resC Try.prog) = some [(4, none)] := by kernel_rfl
/- (*quidnunc/table.Table[int]).Scan -/
noncomputable def c16_1 : ACode := .region false [⟨some 6, .move, [.c (.val (.slice none 0 0))], none⟩] [] [] [0, 1, 2] false [] []
noncomputable def c16_3 : ACode := .region true [⟨some 8, .move, [.t 0], none⟩,
  ⟨some 9, .nilChk, [.t 8], none⟩,
  ⟨some 10, .addr 1, [.t 9], none⟩,
  ⟨some 11, .load false 1, [.t 10], none⟩,
  ⟨some 12, .move, [.t 0], none⟩,
  ⟨some 13, .move, [.t 1], none⟩,
  ⟨some 14, .call 17, [.t 12, .t 13], none⟩,
  ⟨some 15, .slS 2 true false false, [.t 11, .t 14], none⟩,
  ⟨some 7, .move, [.t 15], none⟩] [] [] [2, 7] true [] []
noncomputable def c16_5 : ACode := .region false [⟨some 16, .move, [.t 7], none⟩,
  ⟨some 17, .move, [.t 2], none⟩,
  ⟨some 18, .max, [.t 17, .c (.val (.int .i64 0))], none⟩,
  ⟨some 19, .move, [.t 7], none⟩,
  ⟨some 20, .len, [.t 19], none⟩,
  ⟨some 21, .min, [.t 18, .t 20], none⟩,
  ⟨some 22, .slS 2 false true false, [.t 16, .t 21], none⟩,
  ⟨some 23, .call 35, [.t 22], none⟩,
  ⟨some 6, .move, [.t 23], none⟩] [] [] [6] true [] []
noncomputable def c16_4 : ACode := .seq c16_5 .ret
noncomputable def c16_2 : ACode := .seq c16_3 c16_4
noncomputable def c16_0 : ACode := .seq c16_1 c16_2
noncomputable def code16 : Code := (Try.f16.body).getD .skip
theorem c16_ok : compC Try.prog 24 code16 = some (strip c16_0) := by kernel_rfl
theorem res16_ok : Try.f16.results.toList.mapM (resC Try.prog) = some [(6, none)] := by kernel_rfl
/- (*quidnunc/table.Table[int]).Rank -/
noncomputable def c17_1 : ACode := .region false [⟨some 4, .move, [.c (.val (.int .i64 0))], none⟩] [] [] [0, 1] false [] []
noncomputable def c17_3 : ACode := .region false [⟨some 8, .move, [.t 0], none⟩,
  ⟨some 9, .move, [.t 1], none⟩,
  ⟨some 10, .call 33, [.t 8, .t 9], none⟩,
  ⟨some 7, .move, [.t 10], none⟩,
  ⟨some 11, .ext 0, [.t 7], none⟩,
  ⟨some 12, .ext 1, [.t 7], none⟩,
  ⟨some 5, .move, [.t 11], none⟩,
  ⟨some 6, .move, [.t 12], none⟩] [] [] [5] true [] []
noncomputable def c17_5 : ACode := .region false [⟨some 13, .move, [.t 5], none⟩,
  ⟨some 4, .move, [.t 13], none⟩] [] [] [4] false [] []
noncomputable def c17_4 : ACode := .seq c17_5 .ret
noncomputable def c17_2 : ACode := .seq c17_3 c17_4
noncomputable def c17_0 : ACode := .seq c17_1 c17_2
noncomputable def code17 : Code := (Try.f17.body).getD .skip
theorem c17_ok : compC Try.prog 14 code17 = some (strip c17_0) := by kernel_rfl
theorem res17_ok : Try.f17.results.toList.mapM (resC Try.prog) = some [(4, none)] := by kernel_rfl
/- (*quidnunc/table.Table[int]).Len -/
noncomputable def c39_1 : ACode := .region false [⟨some 2, .move, [.c (.val (.int .i64 0))], none⟩] [] [] [0] false [] []
noncomputable def c39_3 : ACode := .region false [⟨some 3, .move, [.t 0], none⟩,
  ⟨some 4, .nilChk, [.t 3], none⟩,
  ⟨some 5, .addr 1, [.t 4], none⟩,
  ⟨some 6, .load false 1, [.t 5], none⟩,
  ⟨some 7, .len, [.t 6], none⟩,
  ⟨some 2, .move, [.t 7], none⟩] [] [] [2] false [] []
noncomputable def c39_2 : ACode := .seq c39_3 .ret
noncomputable def c39_0 : ACode := .seq c39_1 c39_2
noncomputable def code39 : Code := (Try.f39.body).getD .skip
theorem c39_ok : compC Try.prog 8 code39 = some (strip c39_0) := by kernel_rfl
theorem res39_ok : Try.f39.results.toList.mapM (resC Try.prog) = some [(2, none)] := by kernel_rfl
/- (*quidnunc/table.Table[int]).Room -/
noncomputable def c40_1 : ACode := .region false [⟨some 2, .move, [.c (.val (.int .i64 0))], none⟩] [] [] [0] false [] []
noncomputable def c40_3 : ACode := .region false [⟨some 3, .move, [.t 0], none⟩,
  ⟨some 4, .nilChk, [.t 3], none⟩,
  ⟨some 5, .addr 0, [.t 4], none⟩,
  ⟨some 6, .load false 1, [.t 5], none⟩,
  ⟨some 2, .move, [.t 6], none⟩] [] [] [2] false [] []
noncomputable def c40_2 : ACode := .seq c40_3 .ret
noncomputable def c40_0 : ACode := .seq c40_1 c40_2
noncomputable def code40 : Code := (Try.f40.body).getD .skip
theorem c40_ok : compC Try.prog 7 code40 = some (strip c40_0) := by kernel_rfl
theorem res40_ok : Try.f40.results.toList.mapM (resC Try.prog) = some [(2, none)] := by kernel_rfl
theorem find_any (t : Tb) (k : ByteArray) (ht : t.ok) : ACall Try.prog 33 [.ptr 0 0, .val (.string k)] [TbR 1 t, .cells true (Rp 0 t.l)] (Det (.tup [I (rankP t.l k), Bo (hasP' t.l k)]) [TbR 1 t, .cells true (Rp 0 t.l)]) := by
  have c := bsf_any 0 t.l k ht.1 ht.2
  have hr := rp_ren 0 t.l
  refine ACall.startA c33_ok Try.func33 rfl Try.ntmps33 (by kernel_rfl) res33_ok rfl rfl rfl ?_; simp (maxSteps := 9999999) (disch := omega) only [go_sem]
  (have k9 := And.intro @hr (k0); (repeat' (first | refine AWpA.seq ?_ | refine AWpA.block ?_ | (with_reducible refine CondP.tt ?_) | (with_reducible refine CondP.ff ?_) | refine AWpA.cg ?_ | ((first | refine AWpA.rg ?_ | refine AWpA.dg [] [] follows ?_ | refine TailK.tg ?_ | refine AWpA.skip ?_ | refine AWpA.exit ?_ | refine AWpA.ret ?_ | (with_reducible refine ARoundsA.succ ?_) | ((first | refine Runs.gkt (fun h9 => ?_) | refine Runs.gkf (fun h9 => ?_) | refine Runs.gnt (fun h9 => ?_) | refine Runs.gnf (fun h9 => ?_) | refine CondP.gt (fun h9 => ?_) | refine CondP.gf (fun h9 => ?_) | refine CondP.gnt (fun h9 => ?_) | refine CondP.gnf (fun h9 => ?_)); (try simp only [h9]); clear h9) | refine CallG.pg [1] (c) ?_ | refine CallG.dg [1] (c) ?_); (try simp (maxSteps := 9999999) (disch := omega) only [go_sem, k9]); (try refine cnd ?_)) | ((first | refine CondP.split (fun hif => ?_) (fun hif => ?_) | refine Runs.part (fun hif => ?_) (fun hif => ?_)) <;> ((try simp only [hif]); (try simp only [BL] at hif); (try (have h9 : _ = true := hif; simp only [h9])); (try (have h9 : _ = false := hif; simp only [h9])); (try simp (maxSteps := 9999999) (disch := omega) only [go_sem, k9]); (try refine cnd ?_); (try (exfalso; omega; done)))))); (all_goals (try clear k9)))
  (apply Ret.det [0, 1]; (focus (first | exact .inl rfl | exact .inr rfl)); (focus (simp (maxSteps := 9999999) (disch := omega) only [go_sem, hr]; rfl)); (simp (maxSteps := 9999999) (disch := omega) only [go_sem, hr]; (try (repeat' (first | done | trivial | rfl | exact leAs_rfl _ | decide | (refine And.intro ?_ ?_) | (simp; done) | omega | (simp; decide))))))
theorem rank_any (t : Tb) (k : ByteArray) (ht : t.ok) : ACall Try.prog 17 [.ptr 0 0, .val (.string k)] [TbR 1 t, .cells true (Rp 0 t.l)] (Det (I (rankP t.l k)) [TbR 1 t, .cells true (Rp 0 t.l)]) := by
  have c := find_any t k ht
  have hr := rp_ren 0 t.l
  refine ACall.startA c17_ok Try.func17 rfl Try.ntmps17 (by kernel_rfl) res17_ok rfl rfl rfl ?_; simp (maxSteps := 9999999) (disch := omega) only [go_sem]
  (have k9 := And.intro @hr (k0); (repeat' (first | refine AWpA.seq ?_ | refine AWpA.block ?_ | (with_reducible refine CondP.tt ?_) | (with_reducible refine CondP.ff ?_) | refine AWpA.cg ?_ | ((first | refine AWpA.rg ?_ | refine AWpA.dg [] [] follows ?_ | refine TailK.tg ?_ | refine AWpA.skip ?_ | refine AWpA.exit ?_ | refine AWpA.ret ?_ | (with_reducible refine ARoundsA.succ ?_) | ((first | refine Runs.gkt (fun h9 => ?_) | refine Runs.gkf (fun h9 => ?_) | refine Runs.gnt (fun h9 => ?_) | refine Runs.gnf (fun h9 => ?_) | refine CondP.gt (fun h9 => ?_) | refine CondP.gf (fun h9 => ?_) | refine CondP.gnt (fun h9 => ?_) | refine CondP.gnf (fun h9 => ?_)); (try simp only [h9]); clear h9) | refine CallG.pg [0, 1] (c) ?_ | refine CallG.dg [0, 1] (c) ?_); (try simp (maxSteps := 9999999) (disch := omega) only [go_sem, k9]); (try refine cnd ?_)) | ((first | refine CondP.split (fun hif => ?_) (fun hif => ?_) | refine Runs.part (fun hif => ?_) (fun hif => ?_)) <;> ((try simp only [hif]); (try simp only [BL] at hif); (try (have h9 : _ = true := hif; simp only [h9])); (try (have h9 : _ = false := hif; simp only [h9])); (try simp (maxSteps := 9999999) (disch := omega) only [go_sem, k9]); (try refine cnd ?_); (try (exfalso; omega; done)))))); (all_goals (try clear k9)))
  (apply Ret.det [0, 1]; (focus (first | exact .inl rfl | exact .inr rfl)); (focus (simp (maxSteps := 9999999) (disch := omega) only [go_sem, hr]; rfl)); (simp (maxSteps := 9999999) (disch := omega) only [go_sem, hr]; (try (repeat' (first | done | trivial | rfl | exact leAs_rfl _ | decide | (refine And.intro ?_ ?_) | (simp; done) | omega | (simp; decide))))))
theorem tlen_any (t : Tb) : ACall Try.prog 39 [.ptr 0 0] [TbR 1 t, .cells true (Rp 0 t.l)] (Det (I t.l.length) [TbR 1 t, .cells true (Rp 0 t.l)]) := by
  have hr := rp_ren 0 t.l
  refine ACall.startA c39_ok Try.func39 rfl Try.ntmps39 (by kernel_rfl) res39_ok rfl rfl rfl ?_; simp (maxSteps := 9999999) (disch := omega) only [go_sem]
  (have k9 := And.intro @hr (k0); (repeat' (first | refine AWpA.seq ?_ | refine AWpA.block ?_ | (with_reducible refine CondP.tt ?_) | (with_reducible refine CondP.ff ?_) | refine AWpA.cg ?_ | ((first | refine AWpA.rg ?_ | refine AWpA.dg [] [] follows ?_ | refine TailK.tg ?_ | refine AWpA.skip ?_ | refine AWpA.exit ?_ | refine AWpA.ret ?_ | (with_reducible refine ARoundsA.succ ?_) | ((first | refine Runs.gkt (fun h9 => ?_) | refine Runs.gkf (fun h9 => ?_) | refine Runs.gnt (fun h9 => ?_) | refine Runs.gnf (fun h9 => ?_) | refine CondP.gt (fun h9 => ?_) | refine CondP.gf (fun h9 => ?_) | refine CondP.gnt (fun h9 => ?_) | refine CondP.gnf (fun h9 => ?_)); (try simp only [h9]); clear h9)); (try simp (maxSteps := 9999999) (disch := omega) only [go_sem, k9]); (try refine cnd ?_)) | ((first | refine CondP.split (fun hif => ?_) (fun hif => ?_) | refine Runs.part (fun hif => ?_) (fun hif => ?_)) <;> ((try simp only [hif]); (try simp only [BL] at hif); (try (have h9 : _ = true := hif; simp only [h9])); (try (have h9 : _ = false := hif; simp only [h9])); (try simp (maxSteps := 9999999) (disch := omega) only [go_sem, k9]); (try refine cnd ?_); (try (exfalso; omega; done)))))); (all_goals (try clear k9)))
  (apply Ret.det [0, 1]; (focus (first | exact .inl rfl | exact .inr rfl)); (focus (simp (maxSteps := 9999999) (disch := omega) only [go_sem, hr]; rfl)); (simp (maxSteps := 9999999) (disch := omega) only [go_sem, hr]; (try (repeat' (first | done | trivial | rfl | exact leAs_rfl _ | decide | (refine And.intro ?_ ?_) | (simp; done) | omega | (simp; decide))))))
theorem troom_any (t : Tb) : ACall Try.prog 40 [.ptr 0 0] [TbR 1 t, .cells true (Rp 0 t.l)] (Det (I t.room) [TbR 1 t, .cells true (Rp 0 t.l)]) := by
  have hr := rp_ren 0 t.l
  refine ACall.startA c40_ok Try.func40 rfl Try.ntmps40 (by kernel_rfl) res40_ok rfl rfl rfl ?_; simp (maxSteps := 9999999) (disch := omega) only [go_sem]
  (have k9 := And.intro @hr (k0); (repeat' (first | refine AWpA.seq ?_ | refine AWpA.block ?_ | (with_reducible refine CondP.tt ?_) | (with_reducible refine CondP.ff ?_) | refine AWpA.cg ?_ | ((first | refine AWpA.rg ?_ | refine AWpA.dg [] [] follows ?_ | refine TailK.tg ?_ | refine AWpA.skip ?_ | refine AWpA.exit ?_ | refine AWpA.ret ?_ | (with_reducible refine ARoundsA.succ ?_) | ((first | refine Runs.gkt (fun h9 => ?_) | refine Runs.gkf (fun h9 => ?_) | refine Runs.gnt (fun h9 => ?_) | refine Runs.gnf (fun h9 => ?_) | refine CondP.gt (fun h9 => ?_) | refine CondP.gf (fun h9 => ?_) | refine CondP.gnt (fun h9 => ?_) | refine CondP.gnf (fun h9 => ?_)); (try simp only [h9]); clear h9)); (try simp (maxSteps := 9999999) (disch := omega) only [go_sem, k9]); (try refine cnd ?_)) | ((first | refine CondP.split (fun hif => ?_) (fun hif => ?_) | refine Runs.part (fun hif => ?_) (fun hif => ?_)) <;> ((try simp only [hif]); (try simp only [BL] at hif); (try (have h9 : _ = true := hif; simp only [h9])); (try (have h9 : _ = false := hif; simp only [h9])); (try simp (maxSteps := 9999999) (disch := omega) only [go_sem, k9]); (try refine cnd ?_); (try (exfalso; omega; done)))))); (all_goals (try clear k9)))
  (apply Ret.det [0, 1]; (focus (first | exact .inl rfl | exact .inr rfl)); (focus (simp (maxSteps := 9999999) (disch := omega) only [go_sem, hr]; rfl)); (simp (maxSteps := 9999999) (disch := omega) only [go_sem, hr]; (try (repeat' (first | done | trivial | rfl | exact leAs_rfl _ | decide | (refine And.intro ?_ ?_) | (simp; done) | omega | (simp; decide))))))
/-- The number that a key has (0: none). -/
def getP (l : List Pi) (k : ByteArray) : Int := match hasP' l k with | true => (l.getD (rankP l k) ⟨ByteArray.empty, 0⟩).v | false => 0
theorem hasP_lt {l : List Pi} {k : ByteArray} (h : hasP' l k = true) : rankP l k < l.length := by
  unfold hasP' at h
  split at h
  · rename_i p hp; exact (List.getElem?_eq_some_iff.1 hp).1
  · cases h
theorem tget_any (t : Tb) (k : ByteArray) (ht : t.ok) : ACall Try.prog 24 [.ptr 0 0, .val (.string k)] [TbR 1 t, .cells true (Rp 0 t.l)] (Det (.tup [I (getP t.l k), Bo (hasP' t.l k)]) [TbR 1 t, .cells true (Rp 0 t.l)]) := by
  have c := find_any t k ht
  have hr := rp_ren 0 t.l
  have hlen := rp_len 0 t.l
  cases hh : hasP' t.l k with
  | false =>
    have hg : getP t.l k = 0 := by unfold getP; rw [hh]
    rw [hg]
    rw [hh] at c
    refine ACall.startA c24_ok Try.func24 rfl Try.ntmps24 (by kernel_rfl) res24_ok rfl rfl rfl ?_; simp (maxSteps := 9999999) (disch := omega) only [go_sem]
    (have k9 := And.intro @hr (k0); (repeat' (first | refine AWpA.seq ?_ | refine AWpA.block ?_ | (with_reducible refine CondP.tt ?_) | (with_reducible refine CondP.ff ?_) | refine AWpA.cg ?_ | ((first | refine AWpA.rg ?_ | refine AWpA.dg [] [] follows ?_ | refine TailK.tg ?_ | refine AWpA.skip ?_ | refine AWpA.exit ?_ | refine AWpA.ret ?_ | (with_reducible refine ARoundsA.succ ?_) | ((first | refine Runs.gkt (fun h9 => ?_) | refine Runs.gkf (fun h9 => ?_) | refine Runs.gnt (fun h9 => ?_) | refine Runs.gnf (fun h9 => ?_) | refine CondP.gt (fun h9 => ?_) | refine CondP.gf (fun h9 => ?_) | refine CondP.gnt (fun h9 => ?_) | refine CondP.gnf (fun h9 => ?_)); (try simp only [h9]); clear h9) | refine CallG.pg [0, 1] (c) ?_ | refine CallG.dg [0, 1] (c) ?_); (try simp (maxSteps := 9999999) (disch := omega) only [go_sem, k9]); (try refine cnd ?_)) | ((first | refine CondP.split (fun hif => ?_) (fun hif => ?_) | refine Runs.part (fun hif => ?_) (fun hif => ?_)) <;> ((try simp only [hif]); (try simp only [BL] at hif); (try (have h9 : _ = true := hif; simp only [h9])); (try (have h9 : _ = false := hif; simp only [h9])); (try simp (maxSteps := 9999999) (disch := omega) only [go_sem, k9]); (try refine cnd ?_); (try (exfalso; omega; done)))))); (all_goals (try clear k9)))
    (apply Ret.det [0, 1]; (focus (first | exact .inl rfl | exact .inr rfl)); (focus (simp (maxSteps := 9999999) (disch := omega) only [go_sem, hr]; rfl)); (simp (maxSteps := 9999999) (disch := omega) only [go_sem, hr]; (try (repeat' (first | done | trivial | rfl | exact leAs_rfl _ | decide | (refine And.intro ?_ ?_) | (simp; done) | omega | (simp; decide))))))
  | true =>
    have hlt := hasP_lt hh
    have hg : getP t.l k = (t.l[rankP t.l k]).v := by unfold getP; rw [hh]; simp [hlt]
    have hat := rp_at 0 t.l (rankP t.l k) hlt
    rw [hg]
    rw [hh] at c
    have hv := rp_v t.l (rankP t.l k) hlt
    generalize t.l[rankP t.l k] = p at *
    refine ACall.startA c24_ok Try.func24 rfl Try.ntmps24 (by kernel_rfl) res24_ok rfl rfl rfl ?_; simp (maxSteps := 9999999) (disch := omega) only [go_sem]
    (have k9 := And.intro @hr (And.intro @hlen (And.intro @hat (And.intro @hv (k0)))); (repeat' (first | refine AWpA.seq ?_ | refine AWpA.block ?_ | (with_reducible refine CondP.tt ?_) | (with_reducible refine CondP.ff ?_) | refine AWpA.cg ?_ | ((first | refine AWpA.rg ?_ | refine AWpA.dg [] [] follows ?_ | refine TailK.tg ?_ | refine AWpA.skip ?_ | refine AWpA.exit ?_ | refine AWpA.ret ?_ | (with_reducible refine ARoundsA.succ ?_) | ((first | refine Runs.gkt (fun h9 => ?_) | refine Runs.gkf (fun h9 => ?_) | refine Runs.gnt (fun h9 => ?_) | refine Runs.gnf (fun h9 => ?_) | refine CondP.gt (fun h9 => ?_) | refine CondP.gf (fun h9 => ?_) | refine CondP.gnt (fun h9 => ?_) | refine CondP.gnf (fun h9 => ?_)); (try simp only [h9]); clear h9) | refine CallG.pg [0, 1] (c) ?_ | refine CallG.dg [0, 1] (c) ?_); (try simp (maxSteps := 9999999) (disch := omega) only [go_sem, k9]); (try refine cnd ?_)) | ((first | refine CondP.split (fun hif => ?_) (fun hif => ?_) | refine Runs.part (fun hif => ?_) (fun hif => ?_)) <;> ((try simp only [hif]); (try simp only [BL] at hif); (try (have h9 : _ = true := hif; simp only [h9])); (try (have h9 : _ = false := hif; simp only [h9])); (try simp (maxSteps := 9999999) (disch := omega) only [go_sem, k9]); (try refine cnd ?_); (try (exfalso; omega; done)))))); (all_goals (try clear k9)))
    (apply Ret.det [0, 1]; (focus (first | exact .inl rfl | exact .inr rfl)); (focus (simp (maxSteps := 9999999) (disch := omega) only [go_sem, hr, hv]; rfl)); (simp (maxSteps := 9999999) (disch := omega) only [go_sem, hr, hv]; (try (repeat' (first | done | trivial | rfl | exact leAs_rfl _ | decide | (refine And.intro ?_ ?_) | (simp; done) | omega | (simp; decide))))))
/-- Out of the table. -/
def dropP (l : List Pi) (k : ByteArray) : List Pi := match hasP' l k with | true => l.take (rankP l k) ++ l.drop (rankP l k + 1) | false => l
theorem hasP_key {l : List Pi} {k : ByteArray} (h : hasP' l k = true) : (l[rankP l k]'(hasP_lt h)).key = k := by
  have hl := hasP_lt h
  unfold hasP' at h
  rw [List.getElem?_eq_getElem hl] at h
  exact of_decide_eq_true h
theorem tdrop_any (t : Tb) (k : ByteArray) (ht : t.ok) : ACall Try.prog 18 [.ptr 0 0, .val (.string k)] [TbO 1 t, .cells false (Rp 0 t.l)] (Det (Bo (hasP' t.l k)) [TbO 2 ⟨t.room, dropP t.l k⟩, .gone, .cells false (Rp 0 (dropP t.l k))]) := by
  have c := find_any t k ht
  have hr := rp_ren 0
  cases hh : hasP' t.l k with
  | false =>
    have hd : dropP t.l k = t.l := by unfold dropP; rw [hh]
    rw [hh] at c
    rw [hd]
    refine ACall.startA c18_ok Try.func18 rfl Try.ntmps18 (by kernel_rfl) res18_ok rfl rfl rfl ?_; simp (maxSteps := 9999999) (disch := omega) only [go_sem]
    (have k9 := And.intro @hr (k0); (repeat' (first | refine AWpA.seq ?_ | refine AWpA.block ?_ | (with_reducible refine CondP.tt ?_) | (with_reducible refine CondP.ff ?_) | refine AWpA.cg ?_ | ((first | refine AWpA.rg ?_ | refine AWpA.dg [] [] follows ?_ | refine TailK.tg ?_ | refine AWpA.skip ?_ | refine AWpA.exit ?_ | refine AWpA.ret ?_ | (with_reducible refine ARoundsA.succ ?_) | ((first | refine Runs.gkt (fun h9 => ?_) | refine Runs.gkf (fun h9 => ?_) | refine Runs.gnt (fun h9 => ?_) | refine Runs.gnf (fun h9 => ?_) | refine CondP.gt (fun h9 => ?_) | refine CondP.gf (fun h9 => ?_) | refine CondP.gnt (fun h9 => ?_) | refine CondP.gnf (fun h9 => ?_)); (try simp only [h9]); clear h9) | refine CallG.pg [0, 1] (c) ?_ | refine CallG.dg [0, 1] (c) ?_); (try simp (maxSteps := 9999999) (disch := omega) only [go_sem, k9]); (try refine cnd ?_)) | ((first | refine CondP.split (fun hif => ?_) (fun hif => ?_) | refine Runs.part (fun hif => ?_) (fun hif => ?_)) <;> ((try simp only [hif]); (try simp only [BL] at hif); (try (have h9 : _ = true := hif; simp only [h9])); (try (have h9 : _ = false := hif; simp only [h9])); (try simp (maxSteps := 9999999) (disch := omega) only [go_sem, k9]); (try refine cnd ?_); (try (exfalso; omega; done)))))); (all_goals (try clear k9)))
    (apply Ret.det [0, 1, 1]; (focus (first | exact .inl rfl | exact .inr rfl)); (focus (simp (maxSteps := 9999999) (disch := omega) only [go_sem, hr]; rfl)); (simp (maxSteps := 9999999) (disch := omega) only [go_sem, hr]; (try (repeat' (first | done | trivial | rfl | exact leAs_rfl _ | decide | (refine And.intro ?_ ?_) | (simp; done) | omega | (simp; decide))))))
  | true =>
    have hlt := hasP_lt hh
    have d := delete_any t.l (rankP t.l k) hlt ht.2
    have hd : dropP t.l k = t.l.take (rankP t.l k) ++ t.l.drop (rankP t.l k + 1) := by unfold dropP; rw [hh]
    have hl : (t.l.take (rankP t.l k) ++ t.l.drop (rankP t.l k + 1)).length = t.l.length - 1 := by simp; omega
    have hle := ht.2
    rw [hh] at c
    rw [hd]
    generalize t.l.take (rankP t.l k) ++ t.l.drop (rankP t.l k + 1) = l' at *
    clear hd hh
    generalize rankP t.l k = r at *
    refine ACall.startA c18_ok Try.func18 rfl Try.ntmps18 (by kernel_rfl) res18_ok rfl rfl rfl ?_; simp (maxSteps := 9999999) (disch := omega) only [go_sem]
    (have k9 := And.intro @hr (k0); (repeat' (first | refine AWpA.seq ?_ | refine AWpA.block ?_ | (with_reducible refine CondP.tt ?_) | (with_reducible refine CondP.ff ?_) | refine AWpA.cg ?_ | ((first | refine AWpA.rg ?_ | refine AWpA.dg [] [] follows ?_ | refine TailK.tg ?_ | refine AWpA.skip ?_ | refine AWpA.exit ?_ | refine AWpA.ret ?_ | (with_reducible refine ARoundsA.succ ?_) | ((first | refine Runs.gkt (fun h9 => ?_) | refine Runs.gkf (fun h9 => ?_) | refine Runs.gnt (fun h9 => ?_) | refine Runs.gnf (fun h9 => ?_) | refine CondP.gt (fun h9 => ?_) | refine CondP.gf (fun h9 => ?_) | refine CondP.gnt (fun h9 => ?_) | refine CondP.gnf (fun h9 => ?_)); (try simp only [h9]); clear h9) | refine CallG.pg [0, 1] (c) ?_ | refine CallG.pg [1] (d) ?_ | refine CallG.dg [0, 1] (c) ?_ | refine CallG.dg [1] (d) ?_); (try simp (maxSteps := 9999999) (disch := omega) only [go_sem, k9]); (try refine cnd ?_)) | ((first | refine CondP.split (fun hif => ?_) (fun hif => ?_) | refine Runs.part (fun hif => ?_) (fun hif => ?_)) <;> ((try simp only [hif]); (try simp only [BL] at hif); (try (have h9 : _ = true := hif; simp only [h9])); (try (have h9 : _ = false := hif; simp only [h9])); (try simp (maxSteps := 9999999) (disch := omega) only [go_sem, k9]); (try refine cnd ?_); (try (exfalso; omega; done)))))); (all_goals (try clear k9)))
    (apply Ret.det [0, 1, 290]; (focus (first | exact .inl rfl | exact .inr rfl)); (focus (simp (maxSteps := 9999999) (disch := omega) only [go_sem, hr, hl]; rfl)); (simp (maxSteps := 9999999) (disch := omega) only [go_sem, hr, hl]; (try (repeat' (first | done | trivial | rfl | exact leAs_rfl _ | decide | (refine And.intro ?_ ?_) | (simp; done) | omega | (simp; decide))))))
/-- Into the table. -/
def putP (l : List Pi) (k : ByteArray) (v : Int) : List Pi := match hasP' l k with | true => l.take (rankP l k) ++ ⟨k, v⟩ :: l.drop (rankP l k + 1) | false => l.take (rankP l k) ++ ⟨k, v⟩ :: l.drop (rankP l k)
def putT (t : Tb) (k : ByteArray) (v : Int) : Tb := match !hasP' t.l k && decide ((t.l.length : Int) = t.room) with | true => t | false => ⟨t.room, putP t.l k v⟩
def putE (t : Tb) (k : ByteArray) : Int := match !hasP' t.l k && decide ((t.l.length : Int) = t.room) with | true => 7 | false => 0
theorem tput_any (t : Tb) (k : ByteArray) (v : Int) (ht : t.ok) : ACall Try.prog 15 [.ptr 0 0, .val (.string k), I v] [TbO 1 t, .cells false (Rp 0 t.l)] (Det (I (putE t k)) [TbO 2 (putT t k v), .gone, .cells false (Rp 0 (putT t k v).l)]) := by
  have c := find_any t k ht
  have hr := rp_ren 0
  have hlen := rp_len 0
  have hle := ht.2
  have hrk := rankP_le t.l k
  cases hh : hasP' t.l k with
  | true =>
    have hlt := hasP_lt hh
    have he : putE t k = 0 := by unfold putE; rw [hh]; rfl
    have hp : putT t k v = ⟨t.room, t.l.take (rankP t.l k) ++ ⟨k, v⟩ :: t.l.drop (rankP t.l k + 1)⟩ := by unfold putT putP; rw [hh]; rfl
    have hw := rp_putv t.l (rankP t.l k) hlt v
    rw [hasP_key hh] at hw
    have hl : (t.l.take (rankP t.l k) ++ (⟨k, v⟩ : Pi) :: t.l.drop (rankP t.l k + 1)).length = t.l.length := by simp; omega
    rw [hh] at c
    rw [he, hp]
    generalize t.l.take (rankP t.l k) ++ (⟨k, v⟩ : Pi) :: t.l.drop (rankP t.l k + 1) = l' at *
    clear hp he hh
    generalize rankP t.l k = r at *
    refine ACall.startA c15_ok Try.func15 rfl Try.ntmps15 (by kernel_rfl) res15_ok rfl rfl rfl ?_; simp (maxSteps := 9999999) (disch := omega) only [go_sem]
    (have k9 := And.intro @hr (And.intro @hlen (And.intro @hw (k0))); (repeat' (first | refine AWpA.seq ?_ | refine AWpA.block ?_ | (with_reducible refine CondP.tt ?_) | (with_reducible refine CondP.ff ?_) | refine AWpA.cg ?_ | ((first | refine AWpA.rg ?_ | refine AWpA.dg [] [] follows ?_ | refine TailK.tg ?_ | refine AWpA.skip ?_ | refine AWpA.exit ?_ | refine AWpA.ret ?_ | (with_reducible refine ARoundsA.succ ?_) | ((first | refine Runs.gkt (fun h9 => ?_) | refine Runs.gkf (fun h9 => ?_) | refine Runs.gnt (fun h9 => ?_) | refine Runs.gnf (fun h9 => ?_) | refine CondP.gt (fun h9 => ?_) | refine CondP.gf (fun h9 => ?_) | refine CondP.gnt (fun h9 => ?_) | refine CondP.gnf (fun h9 => ?_)); (try simp only [h9]); clear h9) | refine CallG.pg [0, 1] (c) ?_ | refine CallG.dg [0, 1] (c) ?_); (try simp (maxSteps := 9999999) (disch := omega) only [go_sem, k9]); (try refine cnd ?_)) | ((first | refine CondP.split (fun hif => ?_) (fun hif => ?_) | refine Runs.part (fun hif => ?_) (fun hif => ?_)) <;> ((try simp only [hif]); (try simp only [BL] at hif); (try (have h9 : _ = true := hif; simp only [h9])); (try (have h9 : _ = false := hif; simp only [h9])); (try simp (maxSteps := 9999999) (disch := omega) only [go_sem, k9]); (try refine cnd ?_); (try (exfalso; omega; done)))))); (all_goals (try clear k9)))
    (apply Ret.det [0, 1, 1]; (focus (first | exact .inl rfl | exact .inr rfl)); (focus (simp (maxSteps := 9999999) (disch := omega) only [go_sem, hr, hl]; rfl)); (simp (maxSteps := 9999999) (disch := omega) only [go_sem, hr, hl]; (try (repeat' (first | done | trivial | rfl | exact leAs_rfl _ | decide | (refine And.intro ?_ ?_) | (simp; done) | omega | (simp; decide))))))
  | false =>
    by_cases hf : (t.l.length : Int) = t.room
    · have he : putE t k = 7 := by unfold putE; rw [hh, decide_eq_true hf]; rfl
      have hp : putT t k v = t := by unfold putT; rw [hh, decide_eq_true hf]; rfl
      rw [hh] at c
      rw [he, hp]
      clear hp he hh
      generalize rankP t.l k = r at *
      refine ACall.startA c15_ok Try.func15 rfl Try.ntmps15 (by kernel_rfl) res15_ok rfl rfl rfl ?_; simp (maxSteps := 9999999) (disch := omega) only [go_sem]
      (have k9 := And.intro @hr (And.intro @hlen (And.intro @hf (k0))); (repeat' (first | refine AWpA.seq ?_ | refine AWpA.block ?_ | (with_reducible refine CondP.tt ?_) | (with_reducible refine CondP.ff ?_) | refine AWpA.cg ?_ | ((first | refine AWpA.rg ?_ | refine AWpA.dg [] [] follows ?_ | refine TailK.tg ?_ | refine AWpA.skip ?_ | refine AWpA.exit ?_ | refine AWpA.ret ?_ | (with_reducible refine ARoundsA.succ ?_) | ((first | refine Runs.gkt (fun h9 => ?_) | refine Runs.gkf (fun h9 => ?_) | refine Runs.gnt (fun h9 => ?_) | refine Runs.gnf (fun h9 => ?_) | refine CondP.gt (fun h9 => ?_) | refine CondP.gf (fun h9 => ?_) | refine CondP.gnt (fun h9 => ?_) | refine CondP.gnf (fun h9 => ?_)); (try simp only [h9]); clear h9) | refine CallG.pg [0, 1] (c) ?_ | refine CallG.dg [0, 1] (c) ?_); (try simp (maxSteps := 9999999) (disch := omega) only [go_sem, k9]); (try refine cnd ?_)) | ((first | refine CondP.split (fun hif => ?_) (fun hif => ?_) | refine Runs.part (fun hif => ?_) (fun hif => ?_)) <;> ((try simp only [hif]); (try simp only [BL] at hif); (try (have h9 : _ = true := hif; simp only [h9])); (try (have h9 : _ = false := hif; simp only [h9])); (try simp (maxSteps := 9999999) (disch := omega) only [go_sem, k9]); (try refine cnd ?_); (try (exfalso; omega; done)))))); (all_goals (try clear k9)))
      (apply Ret.det [0, 1, 1]; (focus (first | exact .inl rfl | exact .inr rfl)); (focus (simp (maxSteps := 9999999) (disch := omega) only [go_sem, hr]; rfl)); (simp (maxSteps := 9999999) (disch := omega) only [go_sem, hr]; (try (repeat' (first | done | trivial | rfl | exact leAs_rfl _ | decide | (refine And.intro ?_ ?_) | (simp; done) | omega | (simp; decide))))))
    · have he : putE t k = 0 := by unfold putE; rw [hh, decide_eq_false hf]; rfl
      have hp : putT t k v = ⟨t.room, t.l.take (rankP t.l k) ++ ⟨k, v⟩ :: t.l.drop (rankP t.l k)⟩ := by unfold putT putP; rw [hh, decide_eq_false hf]; rfl
      have d := insert_any t.l (rankP t.l k) ⟨k, v⟩ hrk ht.2
      have hl : (t.l.take (rankP t.l k) ++ (⟨k, v⟩ : Pi) :: t.l.drop (rankP t.l k)).length = t.l.length + 1 := by simp; omega
      have hf' : ((t.l.length : Int) = t.room) = False := eq_false hf
      rw [hh] at c
      rw [he, hp]
      generalize t.l.take (rankP t.l k) ++ (⟨k, v⟩ : Pi) :: t.l.drop (rankP t.l k) = l' at *
      clear hp he hh hf
      generalize rankP t.l k = r at *
      refine ACall.startA c15_ok Try.func15 rfl Try.ntmps15 (by kernel_rfl) res15_ok rfl rfl rfl ?_; simp (maxSteps := 9999999) (disch := omega) only [go_sem]
      (have k9 := And.intro @hr (And.intro @hlen (And.intro @hf' (k0))); (repeat' (first | refine AWpA.seq ?_ | refine AWpA.block ?_ | (with_reducible refine CondP.tt ?_) | (with_reducible refine CondP.ff ?_) | refine AWpA.cg ?_ | ((first | refine AWpA.rg ?_ | refine AWpA.dg [] [] follows ?_ | refine TailK.tg ?_ | refine AWpA.skip ?_ | refine AWpA.exit ?_ | refine AWpA.ret ?_ | (with_reducible refine ARoundsA.succ ?_) | ((first | refine Runs.gkt (fun h9 => ?_) | refine Runs.gkf (fun h9 => ?_) | refine Runs.gnt (fun h9 => ?_) | refine Runs.gnf (fun h9 => ?_) | refine CondP.gt (fun h9 => ?_) | refine CondP.gf (fun h9 => ?_) | refine CondP.gnt (fun h9 => ?_) | refine CondP.gnf (fun h9 => ?_)); (try simp only [h9]); clear h9) | refine CallG.pg [0, 1] (c) ?_ | refine CallG.pg [1, 498] (d) ?_ | refine CallG.dg [0, 1] (c) ?_ | refine CallG.dg [1, 498] (d) ?_); (try simp (maxSteps := 9999999) (disch := omega) only [go_sem, k9]); (try refine cnd ?_)) | ((first | refine CondP.split (fun hif => ?_) (fun hif => ?_) | refine Runs.part (fun hif => ?_) (fun hif => ?_)) <;> ((try simp only [hif]); (try simp only [BL] at hif); (try (have h9 : _ = true := hif; simp only [h9])); (try (have h9 : _ = false := hif; simp only [h9])); (try simp (maxSteps := 9999999) (disch := omega) only [go_sem, k9]); (try refine cnd ?_); (try (exfalso; omega; done)))))); (all_goals (try clear k9)))
      · exact absurd (by assumption) (of_eq_false hf')
      (apply Ret.det [0, 1, 514]; (focus (first | exact .inl rfl | exact .inr rfl)); (focus (simp (maxSteps := 9999999) (disch := omega) only [go_sem, hr, hl]; rfl)); (simp (maxSteps := 9999999) (disch := omega) only [go_sem, hr, hl]; (try (repeat' (first | done | trivial | rfl | exact leAs_rfl _ | decide | (refine And.intro ?_ ?_) | (simp; done) | omega | (simp; decide))))))
/-- From a key on, at most so many. -/
def scanP (l : List Pi) (k : ByteArray) (n : Int) : List Pi := (l.drop (rankP l k)).take (min (max n 0).toNat (l.length - rankP l k))
theorem tscan_any (t : Tb) (k : ByteArray) (n : Int) (ht : t.ok) : ACall Try.prog 16 [.ptr 0 0, .val (.string k), I n] [TbR 1 t, .cells true (Rp 0 t.l)] (Det (.sl 2 0 (scanP t.l k n).length 2 none) [TbR 1 t, .cells true (Rp 0 t.l), .cells false (Rp 0 (scanP t.l k n))]) := by
  have c := rank_any t k ht
  have hr := rp_ren 0
  have hlen := rp_len 0 t.l
  have hle := ht.2
  have hrk := rankP_le t.l k
  obtain ⟨m, hm⟩ : ∃ m, m = min (max n 0).toNat (t.l.length - rankP t.l k) := ⟨_, rfl⟩
  have hml : m ≤ t.l.length - rankP t.l k := by omega
  have hsl : (scanP t.l k n).length = m := by unfold scanP; rw [← hm]; simp; omega
  have hseg : List.take ((scanP t.l k n).length * 2) (List.drop (rankP t.l k * 2) (Rp 0 t.l)) = Rp 0 (scanP t.l k n) := by
    rw [rp_drop t.l (rankP t.l k) rfl hrk, hsl]
    unfold scanP
    rw [← hm]
    exact rp_take _ m rfl (by simp; omega)
  have d := clonep_any (Rp 0 t.l) (rankP t.l k * 2) (scanP t.l k n) (by omega) (hr _) (by omega) hseg
  generalize scanP t.l k n = l' at *
  generalize rankP t.l k = r at *
  rw [hsl] at d ⊢
  have hmm : (if ((t.l.length - r : Nat) : Int) < (if n < 0 then 0 else n) then ((t.l.length - r : Nat) : Int) else (if n < 0 then 0 else n)) = (m : Int) := by (repeat' split) <;> omega
  refine ACall.startA c16_ok Try.func16 rfl Try.ntmps16 (by kernel_rfl) res16_ok rfl rfl rfl ?_; simp (maxSteps := 9999999) (disch := omega) only [go_sem]
  (have k9 := And.intro @hr (And.intro @hlen (And.intro @hmm (k0))); (repeat' (first | refine AWpA.seq ?_ | refine AWpA.block ?_ | (with_reducible refine CondP.tt ?_) | (with_reducible refine CondP.ff ?_) | refine AWpA.cg ?_ | ((first | refine AWpA.rg ?_ | refine AWpA.dg [] [] follows ?_ | refine TailK.tg ?_ | refine AWpA.skip ?_ | refine AWpA.exit ?_ | refine AWpA.ret ?_ | (with_reducible refine ARoundsA.succ ?_) | ((first | refine Runs.gkt (fun h9 => ?_) | refine Runs.gkf (fun h9 => ?_) | refine Runs.gnt (fun h9 => ?_) | refine Runs.gnf (fun h9 => ?_) | refine CondP.gt (fun h9 => ?_) | refine CondP.gf (fun h9 => ?_) | refine CondP.gnt (fun h9 => ?_) | refine CondP.gnf (fun h9 => ?_)); (try simp only [h9]); clear h9) | refine CallG.pg [0, 1] (c) ?_ | refine CallG.pg [1] (d) ?_ | refine CallG.dg [0, 1] (c) ?_ | refine CallG.dg [1] (d) ?_); (try simp (maxSteps := 9999999) (disch := omega) only [go_sem, k9]); (try refine cnd ?_)) | ((first | refine CondP.split (fun hif => ?_) (fun hif => ?_) | refine Runs.part (fun hif => ?_) (fun hif => ?_)) <;> ((try simp only [hif]); (try simp only [BL] at hif); (try (have h9 : _ = true := hif; simp only [h9])); (try (have h9 : _ = false := hif; simp only [h9])); (try simp (maxSteps := 9999999) (disch := omega) only [go_sem, k9]); (try refine cnd ?_); (try (exfalso; omega; done)))))); (all_goals (try clear k9)))
  (apply Ret.det [0, 1, 274]; (focus (first | exact .inl rfl | exact .inr rfl)); (focus (simp (maxSteps := 9999999) (disch := omega) only [go_sem, hr, hsl]; rfl)); (simp (maxSteps := 9999999) (disch := omega) only [go_sem, hr, hsl]; (try (repeat' (first | done | trivial | rfl | exact leAs_rfl _ | decide | (refine And.intro ?_ ?_) | (simp; done) | omega | (simp; decide))))))
end Go.Proofs.Ytodnlihbmgigjaa
