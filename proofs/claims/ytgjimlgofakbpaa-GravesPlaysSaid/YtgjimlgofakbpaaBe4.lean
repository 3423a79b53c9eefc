/- Made by wip/gen_te.py: the same contracts for Table[api.Entry]. -/
import Derived.Test.YtgjimlgofakbpaaBe3
namespace Go.Proofs.Ytgjimlgofakbpaa.Ue
set_option linter.unusedSimpArgs false
set_option linter.unusedVariables false
set_option maxHeartbeats 4000000
open Go Go.Am Go.RowKit
set_option maxRecDepth 100000
/-- A table: room, and keys with their numbers. -/
structure Tb where
  room : Int
  l : List Pi
abbrev Tb.ok (t : Tb) : Prop := Rise t.l ∧ t.l.length ≤ 1099511627776
abbrev TbO (j : Nat) (t : Tb) : AObj := .cells false [I t.room, .sl j 0 t.l.length 10 none]
abbrev TbR (j : Nat) (t : Tb) : AObj := .cells true [I t.room, .sl j 0 t.l.length 10 none]
theorem rp_split (l : List Pi) (i : Nat) (hi : i < l.length) : Rp 0 l = Rp 0 (l.take i) ++ PiL l[i] ++ Rp 0 (l.drop (i + 1)) := by
  have e : PiL l[i] = Rp 0 [l[i]] := rfl
  rw [e, ← rp_app, ← rp_app]
  congr 1
  rw [List.append_assoc, List.singleton_append, List.getElem_cons_drop, List.take_append_drop]
theorem rp_lenT (l : List Pi) (i : Nat) (hi : i ≤ l.length) : (Rp 0 (l.take i)).length = i * 10 := by
  have := rp_len 0 (l.take i)
  rw [List.length_take, Nat.min_eq_left hi] at this
  omega
theorem rp_v (l : List Pi) (i : Nat) (hi : i < l.length) : ((Rp 0 l).drop (i * 10 + 1)).take 9 = EnL l[i].v := by
  have hX := rp_lenT l i (by omega)
  rw [rp_split l i hi, List.append_assoc, show i * 10 + 1 = (Rp 0 (l.take i)).length + 1 by omega, List.drop_append, List.drop_of_length_le (by omega)]
  simp
theorem rp_putv (l : List Pi) (i : Nat) (hi : i < l.length) (v : En) : (Rp 0 l).take (i * 10 + 1) ++ [Str v.key, Str v.val, Bo v.dead, I v.st.c, I v.st.s, I v.act.c, I v.act.s, I v.keep, I v.age] ++ (Rp 0 l).drop (i * 10 + 1 + 9) = Rp 0 (l.take i ++ ⟨l[i].key, v⟩ :: l.drop (i + 1)) := by
  have hX := rp_lenT l i (by omega)
  rw [rp_app, rp_cons, rp_split l i hi]
  generalize Rp 0 (l.take i) = X at *
  generalize Rp 0 (l.drop (i + 1)) = Y
  generalize l[i] = p
  have h1 : (X ++ PiL p ++ Y).take (i * 10 + 1) = X ++ [Str p.key] := by
    rw [show i * 10 + 1 = X.length + 1 by omega, List.append_assoc, List.take_append, List.take_of_length_le (by omega), show X.length + 1 - X.length = 1 by omega]
    rfl
  have h2 : (X ++ PiL p ++ Y).drop (i * 10 + 1 + 9) = Y := by
    rw [show i * 10 + 1 + 9 = (X ++ PiL p).length by simp; omega, List.drop_left]
  rw [h1, h2]
  simp
/- (*quidnunc/table.Table[quidnunc/api.Entry]).Put -/
noncomputable def c63_1 : ACode := .region false [⟨some 5, .box 0, [.t 2], none⟩,
  ⟨some 6, .move, [.c (.val (.int .i64 0))], none⟩] [] [] [0, 1, 5] true [] []
noncomputable def c63_3 : ACode := .region false [⟨some 10, .move, [.t 0], none⟩,
  ⟨some 11, .move, [.t 1], none⟩,
  ⟨some 12, .call 68, [.t 10, .t 11], none⟩,
  ⟨some 9, .move, [.t 12], none⟩,
  ⟨some 13, .ext 0, [.t 9], none⟩,
  ⟨some 14, .ext 1, [.t 9], none⟩,
  ⟨some 7, .move, [.t 13], none⟩,
  ⟨some 8, .move, [.t 14], none⟩] [] [] [0, 1, 5, 7, 8] true [] []
noncomputable def c63_7 : ACode := .region false [⟨some 29, .move, [.t 8], none⟩,
  ⟨some 28, .move, [.t 29], none⟩] [] [] [0, 1, 5, 7, 28] false [] []
noncomputable def c63_9 : ACode := .region true [⟨some 30, .move, [.t 0], none⟩,
  ⟨some 31, .nilChk, [.t 30], none⟩,
  ⟨some 32, .addr 1, [.t 31], none⟩,
  ⟨some 33, .load false 1, [.t 32], none⟩,
  ⟨some 34, .move, [.t 7], none⟩,
  ⟨some 35, .load true 9, [.t 5], none⟩,
  ⟨some 36, .ixS 10, [.t 33, .t 34], none⟩,
  ⟨some 37, .addr 1, [.t 36], none⟩,
  ⟨none, .store 9, [.t 37, .t 35], none⟩] [] [] [] true [] []
noncomputable def c63_11 : ACode := .region true [⟨some 39, .move, [.t 0], none⟩,
  ⟨some 40, .nilChk, [.t 39], none⟩,
  ⟨some 41, .addr 1, [.t 40], none⟩,
  ⟨some 42, .load false 1, [.t 41], none⟩,
  ⟨some 43, .len, [.t 42], none⟩,
  ⟨some 44, .move, [.t 0], none⟩,
  ⟨some 45, .nilChk, [.t 44], none⟩,
  ⟨some 46, .addr 0, [.t 45], none⟩,
  ⟨some 47, .load false 1, [.t 46], none⟩,
  ⟨some 48, .bin .eql, [.t 43, .t 47], none⟩,
  ⟨some 38, .move, [.t 48], none⟩] [] [] [0, 1, 5, 7, 38] false [] []
noncomputable def c63_14 : ACode := .region false [⟨some 6, .move, [.c (.val (.int .i64 7))], none⟩] [] [] [6] false [] []
noncomputable def c63_13 : ACode := .seq c63_14 .ret
noncomputable def c63_15 : ACode := .region true [⟨some 15, .move, [.t 0], none⟩,
  ⟨some 16, .move, [.t 0], none⟩,
  ⟨some 17, .nilChk, [.t 16], none⟩,
  ⟨some 18, .addr 1, [.t 17], none⟩,
  ⟨some 19, .load false 1, [.t 18], none⟩,
  ⟨some 20, .move, [.t 7], none⟩,
  ⟨some 21, .move, [.t 1], none⟩,
  ⟨some 22, .load true 9, [.t 5], none⟩,
  ⟨some 23, .build [(.string ⟨#[]⟩), (.string ⟨#[]⟩), (.string ⟨#[]⟩), (.bool false), (.int .i64 0), (.int .i64 0), (.int .i64 0), (.int .i64 0), (.int .i64 0), (.int .i64 0)] [(0, 1), (1, 9)], [.t 21, .t 22], none⟩,
  ⟨some 24, .buildSl 10 1 [(.string ⟨#[]⟩), (.string ⟨#[]⟩), (.string ⟨#[]⟩), (.bool false), (.int .i64 0), (.int .i64 0), (.int .i64 0), (.int .i64 0), (.int .i64 0), (.int .i64 0)] [(0, 10)], [.t 23], none⟩,
  ⟨some 25, .call 80, [.t 19, .t 20, .t 24], none⟩,
  ⟨some 26, .nilChk, [.t 15], none⟩,
  ⟨some 27, .addr 1, [.t 26], none⟩,
  ⟨none, .store 1, [.t 27, .t 25], none⟩] [4] [(4, 9)] [] true [0] []
noncomputable def c63_12 : ACode := .cond (.t 38) c63_13 c63_15
noncomputable def c63_10 : ACode := .seq c63_11 c63_12
noncomputable def c63_8 : ACode := .cond (.t 28) c63_9 c63_10
noncomputable def c63_6 : ACode := .seq c63_7 c63_8
noncomputable def c63_5 : ACode := .block 0 c63_6
noncomputable def c63_17 : ACode := .region false [⟨some 6, .move, [.c (.val (.int .i64 0))], none⟩] [] [] [6] false [] []
noncomputable def c63_16 : ACode := .seq c63_17 .ret
noncomputable def c63_4 : ACode := .seq c63_5 c63_16
noncomputable def c63_2 : ACode := .seq c63_3 c63_4
noncomputable def c63_0 : ACode := .seq c63_1 c63_2
noncomputable def code63 : Code := (Try.f63.body).getD .skip
theorem c63_ok : compC Try.prog 49 code63 = some (strip c63_0) := by kernel_rfl
theorem res63_ok : Try.f63.results.toList.mapM (resC Try.prog) = some [(6, none)] := by kernel_rfl
/- (*quidnunc/table.Table[quidnunc/api.Entry]).Get -/
noncomputable def c36_1 : ACode := .region false [⟨some 4, .alloc [(.string ⟨#[]⟩), (.string ⟨#[]⟩), (.bool false), (.int .i64 0), (.int .i64 0), (.int .i64 0), (.int .i64 0), (.int .i64 0), (.int .i64 0)], [], none⟩,
  ⟨some 5, .move, [.c (.val (.bool false))], none⟩] [] [] [0, 1, 4] true [] []
noncomputable def c36_3 : ACode := .region false [⟨some 6, .alloc [(.string ⟨#[]⟩), (.string ⟨#[]⟩), (.bool false), (.int .i64 0), (.int .i64 0), (.int .i64 0), (.int .i64 0), (.int .i64 0), (.int .i64 0)], [], none⟩] [] [] [0, 1, 4, 6] true [] []
noncomputable def c36_5 : ACode := .region false [⟨some 10, .move, [.t 0], none⟩,
  ⟨some 11, .move, [.t 1], none⟩,
  ⟨some 12, .call 68, [.t 10, .t 11], none⟩,
  ⟨some 9, .move, [.t 12], none⟩,
  ⟨some 13, .ext 0, [.t 9], none⟩,
  ⟨some 14, .ext 1, [.t 9], none⟩,
  ⟨some 7, .move, [.t 13], none⟩,
  ⟨some 8, .move, [.t 14], none⟩] [] [] [0, 4, 6, 7, 8] true [] []
noncomputable def c36_8 : ACode := .region false [⟨some 15, .move, [.t 8], none⟩,
  ⟨some 16, .un .not, [.t 15], none⟩] [] [] [0, 4, 6, 7, 16] false [] []
noncomputable def c36_11 : ACode := .region false [⟨some 17, .load true 9, [.t 6], none⟩,
  ⟨none, .store 9, [.t 4, .t 17], none⟩,
  ⟨some 5, .move, [.c (.val (.bool false))], none⟩] [] [] [4, 5] true [] []
noncomputable def c36_10 : ACode := .seq c36_11 .ret
noncomputable def c36_9 : ACode := .cond (.t 16) c36_10 .skip
noncomputable def c36_7 : ACode := .seq c36_8 c36_9
noncomputable def c36_13 : ACode := .region false [⟨some 18, .move, [.t 0], none⟩,
  ⟨some 19, .nilChk, [.t 18], none⟩,
  ⟨some 20, .addr 1, [.t 19], none⟩,
  ⟨some 21, .load false 1, [.t 20], none⟩,
  ⟨some 22, .move, [.t 7], none⟩,
  ⟨some 23, .ixS 10, [.t 21, .t 22], none⟩,
  ⟨some 24, .addr 1, [.t 23], none⟩,
  ⟨some 25, .load true 9, [.t 24], none⟩,
  ⟨none, .store 9, [.t 4, .t 25], none⟩,
  ⟨some 5, .move, [.c (.val (.bool true))], none⟩] [] [] [4, 5] true [] []
noncomputable def c36_12 : ACode := .seq c36_13 .ret
noncomputable def c36_6 : ACode := .seq c36_7 c36_12
noncomputable def c36_4 : ACode := .seq c36_5 c36_6
noncomputable def c36_2 : ACode := .seq c36_3 c36_4
noncomputable def c36_0 : ACode := .seq c36_1 c36_2
noncomputable def code36 : Code := (Try.f36.body).getD .skip
theorem c36_ok : compC Try.prog 26 code36 = some (strip c36_0) := by kernel_rfl
theorem res36_ok : Try.f36.results.toList.mapM (resC Try.prog) = some [(4, some (true, 9)), (5, none)] := by kernel_rfl
/- (*quidnunc/table.Table[quidnunc/api.Entry]).Drop -/
noncomputable def c64_1 : ACode := .region false [⟨some 4, .move, [.c (.val (.bool false))], none⟩] [] [] [0, 1] false [] []
noncomputable def c64_3 : ACode := .region false [⟨some 8, .move, [.t 0], none⟩,
  ⟨some 9, .move, [.t 1], none⟩,
  ⟨some 10, .call 68, [.t 8, .t 9], none⟩,
  ⟨some 7, .move, [.t 10], none⟩,
  ⟨some 11, .ext 0, [.t 7], none⟩,
  ⟨some 12, .ext 1, [.t 7], none⟩,
  ⟨some 5, .move, [.t 11], none⟩,
  ⟨some 6, .move, [.t 12], none⟩] [] [] [0, 5, 6] true [] []
noncomputable def c64_6 : ACode := .region false [⟨some 13, .move, [.t 6], none⟩] [] [] [0, 5, 6, 13] false [] []
noncomputable def c64_8 : ACode := .region false [⟨some 14, .move, [.t 0], none⟩,
  ⟨some 15, .move, [.t 0], none⟩,
  ⟨some 16, .nilChk, [.t 15], none⟩,
  ⟨some 17, .addr 1, [.t 16], none⟩,
  ⟨some 18, .load false 1, [.t 17], none⟩,
  ⟨some 19, .move, [.t 5], none⟩,
  ⟨some 20, .move, [.t 5], none⟩,
  ⟨some 21, .bin .add, [.t 20, .c (.val (.int .i64 1))], none⟩,
  ⟨some 22, .call 81, [.t 18, .t 19, .t 21], none⟩,
  ⟨some 23, .nilChk, [.t 14], none⟩,
  ⟨some 24, .addr 1, [.t 23], none⟩,
  ⟨none, .store 1, [.t 24, .t 22], none⟩] [] [] [6] true [] []
noncomputable def c64_7 : ACode := .cond (.t 13) c64_8 .skip
noncomputable def c64_5 : ACode := .seq c64_6 c64_7
noncomputable def c64_10 : ACode := .region false [⟨some 25, .move, [.t 6], none⟩,
  ⟨some 4, .move, [.t 25], none⟩] [] [] [4] false [] []
noncomputable def c64_9 : ACode := .seq c64_10 .ret
noncomputable def c64_4 : ACode := .seq c64_5 c64_9
noncomputable def c64_2 : ACode := .seq c64_3 c64_4
noncomputable def c64_0 : ACode := .seq c64_1 c64_2
noncomputable def code64 : Code := (Try.f64.body).getD .skip
theorem c64_ok : compC Try.prog 26 code64 = some (strip c64_0) := by kernel_rfl
theorem res64_ok : Try.f64.results.toList.mapM (resC Try.prog) = some [(4, none)] := by kernel_rfl
/- (*quidnunc/table.Table[quidnunc/api.Entry]).Len -/
noncomputable def c41_1 : ACode := .region false [⟨some 2, .move, [.c (.val (.int .i64 0))], none⟩] [] [] [0] false [] []
noncomputable def c41_3 : ACode := .region false [⟨some 3, .move, [.t 0], none⟩,
  ⟨some 4, .nilChk, [.t 3], none⟩,
  ⟨some 5, .addr 1, [.t 4], none⟩,
  ⟨some 6, .load false 1, [.t 5], none⟩,
  ⟨some 7, .len, [.t 6], none⟩,
  ⟨some 2, .move, [.t 7], none⟩] [] [] [2] false [] []
noncomputable def c41_2 : ACode := .seq c41_3 .ret
noncomputable def c41_0 : ACode := .seq c41_1 c41_2
noncomputable def code41 : Code := (Try.f41.body).getD .skip
theorem c41_ok : compC Try.prog 8 code41 = some (strip c41_0) := by kernel_rfl
theorem res41_ok : Try.f41.results.toList.mapM (resC Try.prog) = some [(2, none)] := by kernel_rfl
theorem find_any (t : Tb) (k : ByteArray) (ht : t.ok) : ACall Try.prog 68 [.ptr 0 0, .val (.string k)] [TbR 1 t, .cells true (Rp 0 t.l)] (Det (.tup [I (rankP t.l k), Bo (hasP' t.l k)]) [TbR 1 t, .cells true (Rp 0 t.l)]) := by
  have c := bsf_any 0 t.l k ht.1 ht.2
  have hr := rp_ren 0 t.l
  refine ACall.startA c68_ok Try.func68 rfl Try.ntmps68 (by kernel_rfl) res68_ok rfl rfl rfl ?_; simp (maxSteps := 9999999) (disch := omega) only [go_sem]
  (repeat' (first | refine AWpA.seq ?_ | refine AWpA.block ?_ | (with_reducible refine CondP.tt ?_) | (with_reducible refine CondP.ff ?_) | refine AWpA.condv (by simp (maxSteps := 9999999) (disch := omega) only [go_sem, hr]; rfl) ?_ | ((first | (apply AWpA.region; (focus (simp (maxSteps := 9999999) (disch := omega) only [go_sem, hr]; rfl))) | (apply AWpA.draw [] [] follows; (focus (first | rfl | decide)); (focus (simp (maxSteps := 9999999) (disch := omega) only [go_sem, hr]; rfl)); (focus (simp (maxSteps := 9999999) (disch := omega) only [go_sem, hr]; first | done | trivial)); (focus (simp (maxSteps := 9999999) (disch := omega) only [go_sem, hr]; rfl))) | (apply TailK.go; (focus (simp (maxSteps := 9999999) (disch := omega) only [go_sem, hr]; rfl))) | refine AWpA.skip ?_ | refine AWpA.exit ?_ | refine AWpA.ret ?_ | (with_reducible refine ARoundsA.succ ?_) | ((first | refine Runs.kt (by assumption) (fun h9 => ?_) | refine Runs.kf (by assumption) (fun h9 => ?_) | refine Runs.nt (by assumption) (fun h9 => ?_) | refine Runs.nf (by assumption) (fun h9 => ?_) | refine CondP.ht (by assumption) (fun h9 => ?_) | refine CondP.hf (by assumption) (fun h9 => ?_) | refine CondP.nt (by assumption) (fun h9 => ?_) | refine CondP.nf (by assumption) (fun h9 => ?_)); (try simp only [h9]); clear h9) | ((first | (with_reducible apply CallG.plain1 [1] (c)) | (with_reducible apply CallG.draw1 [1] (c))); (focus ((try refine And.intro (leAs_of_eq rfl) ?_); (try refine And.intro (leOL_of_eq rfl) ?_); simp (maxSteps := 9999999) (disch := omega) only [go_sem, hr]; first | done | (repeat' (first | rfl | (refine And.intro ?_ ?_))))); (focus (simp (maxSteps := 9999999) (disch := omega) only [go_sem, hr]; rfl)))); (try simp (maxSteps := 9999999) (disch := omega) only [go_sem, hr]); (try (refine And.intro ?_ ?_; (focus (first | omega | (simp only [go_sem]; done) | (simp; done) | (simp; omega) | assumption))))) | ((first | refine CondP.split (fun hif => ?_) (fun hif => ?_) | refine Runs.part (fun hif => ?_) (fun hif => ?_)) <;> ((try simp only [hif]); (try simp only [decide_eq_true_eq, decide_eq_false_iff_not, Bool.not_eq_true, Bool.not_eq_false, Bool.not_eq_true', Bool.not_eq_false', beq_iff_eq, bne_iff_ne, bne_eq_false_iff_eq, beq_eq_false_iff_ne, ne_eq, Bool.and_eq_true, Bool.or_eq_true, Bool.or_eq_false_iff] at hif); (try (have h9 : _ = true := hif; simp only [h9])); (try (have h9 : _ = false := hif; simp only [h9])); (try simp (maxSteps := 9999999) (disch := omega) only [go_sem, hr]); (try (refine And.intro ?_ ?_; (focus (first | omega | (simp only [go_sem]; done) | (simp; done) | (simp; omega) | assumption)))); (try (exfalso; omega; done))))))
  (apply Ret.det [0, 1]; (focus (first | exact .inl rfl | exact .inr rfl)); (focus (simp (maxSteps := 9999999) (disch := omega) only [go_sem, hr]; rfl)); (simp (maxSteps := 9999999) (disch := omega) only [go_sem, hr]; (try (repeat' (first | done | trivial | rfl | exact leAs_rfl _ | decide | (refine And.intro ?_ ?_) | (simp; done) | omega | (simp; decide))))))
theorem tlen_any (t : Tb) : ACall Try.prog 41 [.ptr 0 0] [TbR 1 t, .cells true (Rp 0 t.l)] (Det (I t.l.length) [TbR 1 t, .cells true (Rp 0 t.l)]) := by
  have hr := rp_ren 0 t.l
  refine ACall.startA c41_ok Try.func41 rfl Try.ntmps41 (by kernel_rfl) res41_ok rfl rfl rfl ?_; simp (maxSteps := 9999999) (disch := omega) only [go_sem]
  (repeat' (first | refine AWpA.seq ?_ | refine AWpA.block ?_ | (with_reducible refine CondP.tt ?_) | (with_reducible refine CondP.ff ?_) | refine AWpA.condv (by simp (maxSteps := 9999999) (disch := omega) only [go_sem, hr]; rfl) ?_ | ((first | (apply AWpA.region; (focus (simp (maxSteps := 9999999) (disch := omega) only [go_sem, hr]; rfl))) | (apply AWpA.draw [] [] follows; (focus (first | rfl | decide)); (focus (simp (maxSteps := 9999999) (disch := omega) only [go_sem, hr]; rfl)); (focus (simp (maxSteps := 9999999) (disch := omega) only [go_sem, hr]; first | done | trivial)); (focus (simp (maxSteps := 9999999) (disch := omega) only [go_sem, hr]; rfl))) | (apply TailK.go; (focus (simp (maxSteps := 9999999) (disch := omega) only [go_sem, hr]; rfl))) | refine AWpA.skip ?_ | refine AWpA.exit ?_ | refine AWpA.ret ?_ | (with_reducible refine ARoundsA.succ ?_) | ((first | refine Runs.kt (by assumption) (fun h9 => ?_) | refine Runs.kf (by assumption) (fun h9 => ?_) | refine Runs.nt (by assumption) (fun h9 => ?_) | refine Runs.nf (by assumption) (fun h9 => ?_) | refine CondP.ht (by assumption) (fun h9 => ?_) | refine CondP.hf (by assumption) (fun h9 => ?_) | refine CondP.nt (by assumption) (fun h9 => ?_) | refine CondP.nf (by assumption) (fun h9 => ?_)); (try simp only [h9]); clear h9)); (try simp (maxSteps := 9999999) (disch := omega) only [go_sem, hr]); (try (refine And.intro ?_ ?_; (focus (first | omega | (simp only [go_sem]; done) | (simp; done) | (simp; omega) | assumption))))) | ((first | refine CondP.split (fun hif => ?_) (fun hif => ?_) | refine Runs.part (fun hif => ?_) (fun hif => ?_)) <;> ((try simp only [hif]); (try simp only [decide_eq_true_eq, decide_eq_false_iff_not, Bool.not_eq_true, Bool.not_eq_false, Bool.not_eq_true', Bool.not_eq_false', beq_iff_eq, bne_iff_ne, bne_eq_false_iff_eq, beq_eq_false_iff_ne, ne_eq, Bool.and_eq_true, Bool.or_eq_true, Bool.or_eq_false_iff] at hif); (try (have h9 : _ = true := hif; simp only [h9])); (try (have h9 : _ = false := hif; simp only [h9])); (try simp (maxSteps := 9999999) (disch := omega) only [go_sem, hr]); (try (refine And.intro ?_ ?_; (focus (first | omega | (simp only [go_sem]; done) | (simp; done) | (simp; omega) | assumption)))); (try (exfalso; omega; done))))))
  (apply Ret.det [0, 1]; (focus (first | exact .inl rfl | exact .inr rfl)); (focus (simp (maxSteps := 9999999) (disch := omega) only [go_sem, hr]; rfl)); (simp (maxSteps := 9999999) (disch := omega) only [go_sem, hr]; (try (repeat' (first | done | trivial | rfl | exact leAs_rfl _ | decide | (refine And.intro ?_ ?_) | (simp; done) | omega | (simp; decide))))))
/-- The number that a key has (0: none). -/
abbrev noE : En := ⟨⟨#[]⟩, ⟨#[]⟩, false, ⟨0, 0⟩, ⟨0, 0⟩, 0, 0⟩
def getP (l : List Pi) (k : ByteArray) : En := match hasP' l k with | true => (l.getD (rankP l k) ⟨ByteArray.empty, noE⟩).v | false => noE
theorem hasP_lt {l : List Pi} {k : ByteArray} (h : hasP' l k = true) : rankP l k < l.length := by
  unfold hasP' at h
  split at h
  · rename_i p hp; exact (List.getElem?_eq_some_iff.1 hp).1
  · cases h
theorem tget_any (t : Tb) (k : ByteArray) (ht : t.ok) : ACall Try.prog 36 [.ptr 0 0, .val (.string k)] [TbR 1 t, .cells true (Rp 0 t.l)] (Det (.tup [EnA (getP t.l k), Bo (hasP' t.l k)]) [TbR 1 t, .cells true (Rp 0 t.l)]) := by
  have c := find_any t k ht
  have hr := rp_ren 0 t.l
  have hlen := rp_len 0 t.l
  cases hh : hasP' t.l k with
  | false =>
    have hg : getP t.l k = noE := by unfold getP; rw [hh]
    rw [hg]
    rw [hh] at c
    refine ACall.startA c36_ok Try.func36 rfl Try.ntmps36 (by kernel_rfl) res36_ok rfl rfl rfl ?_; simp (maxSteps := 9999999) (disch := omega) only [go_sem]
    (repeat' (first | refine AWpA.seq ?_ | refine AWpA.block ?_ | (with_reducible refine CondP.tt ?_) | (with_reducible refine CondP.ff ?_) | refine AWpA.condv (by simp (maxSteps := 9999999) (disch := omega) only [go_sem, hr]; rfl) ?_ | ((first | (apply AWpA.region; (focus (simp (maxSteps := 9999999) (disch := omega) only [go_sem, hr]; rfl))) | (apply AWpA.draw [] [] follows; (focus (first | rfl | decide)); (focus (simp (maxSteps := 9999999) (disch := omega) only [go_sem, hr]; rfl)); (focus (simp (maxSteps := 9999999) (disch := omega) only [go_sem, hr]; first | done | trivial)); (focus (simp (maxSteps := 9999999) (disch := omega) only [go_sem, hr]; rfl))) | (apply TailK.go; (focus (simp (maxSteps := 9999999) (disch := omega) only [go_sem, hr]; rfl))) | refine AWpA.skip ?_ | refine AWpA.exit ?_ | refine AWpA.ret ?_ | (with_reducible refine ARoundsA.succ ?_) | ((first | refine Runs.kt (by assumption) (fun h9 => ?_) | refine Runs.kf (by assumption) (fun h9 => ?_) | refine Runs.nt (by assumption) (fun h9 => ?_) | refine Runs.nf (by assumption) (fun h9 => ?_) | refine CondP.ht (by assumption) (fun h9 => ?_) | refine CondP.hf (by assumption) (fun h9 => ?_) | refine CondP.nt (by assumption) (fun h9 => ?_) | refine CondP.nf (by assumption) (fun h9 => ?_)); (try simp only [h9]); clear h9) | ((first | (with_reducible apply CallG.plain1 [0, 1] (c)) | (with_reducible apply CallG.draw1 [0, 1] (c))); (focus ((try refine And.intro (leAs_of_eq rfl) ?_); (try refine And.intro (leOL_of_eq rfl) ?_); simp (maxSteps := 9999999) (disch := omega) only [go_sem, hr]; first | done | (repeat' (first | rfl | (refine And.intro ?_ ?_))))); (focus (simp (maxSteps := 9999999) (disch := omega) only [go_sem, hr]; rfl)))); (try simp (maxSteps := 9999999) (disch := omega) only [go_sem, hr]); (try (refine And.intro ?_ ?_; (focus (first | omega | (simp only [go_sem]; done) | (simp; done) | (simp; omega) | assumption))))) | ((first | refine CondP.split (fun hif => ?_) (fun hif => ?_) | refine Runs.part (fun hif => ?_) (fun hif => ?_)) <;> ((try simp only [hif]); (try simp only [decide_eq_true_eq, decide_eq_false_iff_not, Bool.not_eq_true, Bool.not_eq_false, Bool.not_eq_true', Bool.not_eq_false', beq_iff_eq, bne_iff_ne, bne_eq_false_iff_eq, beq_eq_false_iff_ne, ne_eq, Bool.and_eq_true, Bool.or_eq_true, Bool.or_eq_false_iff] at hif); (try (have h9 : _ = true := hif; simp only [h9])); (try (have h9 : _ = false := hif; simp only [h9])); (try simp (maxSteps := 9999999) (disch := omega) only [go_sem, hr]); (try (refine And.intro ?_ ?_; (focus (first | omega | (simp only [go_sem]; done) | (simp; done) | (simp; omega) | assumption)))); (try (exfalso; omega; done))))))
    (apply Ret.det [0, 1]; (focus (first | exact .inl rfl | exact .inr rfl)); (focus (simp (maxSteps := 9999999) (disch := omega) only [go_sem, hr]; rfl)); (simp (maxSteps := 9999999) (disch := omega) only [go_sem, hr]; (try (repeat' (first | done | trivial | rfl | exact leAs_rfl _ | decide | (refine And.intro ?_ ?_) | (simp; done) | omega | (simp; decide))))))
  | true =>
    have hlt := hasP_lt hh
    have hg : getP t.l k = (t.l[rankP t.l k]).v := by unfold getP; rw [hh]; simp [hlt]
    have hat := rp_at 0 t.l (rankP t.l k) hlt
    rw [hg]
    rw [hh] at c
    have hv := rp_v t.l (rankP t.l k) hlt
    generalize t.l[rankP t.l k] = p at *
    refine ACall.startA c36_ok Try.func36 rfl Try.ntmps36 (by kernel_rfl) res36_ok rfl rfl rfl ?_; simp (maxSteps := 9999999) (disch := omega) only [go_sem]
    (repeat' (first | refine AWpA.seq ?_ | refine AWpA.block ?_ | (with_reducible refine CondP.tt ?_) | (with_reducible refine CondP.ff ?_) | refine AWpA.condv (by simp (maxSteps := 9999999) (disch := omega) only [go_sem, hr, hlen, hat, hv]; rfl) ?_ | ((first | (apply AWpA.region; (focus (simp (maxSteps := 9999999) (disch := omega) only [go_sem, hr, hlen, hat, hv]; rfl))) | (apply AWpA.draw [] [] follows; (focus (first | rfl | decide)); (focus (simp (maxSteps := 9999999) (disch := omega) only [go_sem, hr, hlen, hat, hv]; rfl)); (focus (simp (maxSteps := 9999999) (disch := omega) only [go_sem, hr, hlen, hat, hv]; first | done | trivial)); (focus (simp (maxSteps := 9999999) (disch := omega) only [go_sem, hr, hlen, hat, hv]; rfl))) | (apply TailK.go; (focus (simp (maxSteps := 9999999) (disch := omega) only [go_sem, hr, hlen, hat, hv]; rfl))) | refine AWpA.skip ?_ | refine AWpA.exit ?_ | refine AWpA.ret ?_ | (with_reducible refine ARoundsA.succ ?_) | ((first | refine Runs.kt (by assumption) (fun h9 => ?_) | refine Runs.kf (by assumption) (fun h9 => ?_) | refine Runs.nt (by assumption) (fun h9 => ?_) | refine Runs.nf (by assumption) (fun h9 => ?_) | refine CondP.ht (by assumption) (fun h9 => ?_) | refine CondP.hf (by assumption) (fun h9 => ?_) | refine CondP.nt (by assumption) (fun h9 => ?_) | refine CondP.nf (by assumption) (fun h9 => ?_)); (try simp only [h9]); clear h9) | ((first | (with_reducible apply CallG.plain1 [0, 1] (c)) | (with_reducible apply CallG.draw1 [0, 1] (c))); (focus ((try refine And.intro (leAs_of_eq rfl) ?_); (try refine And.intro (leOL_of_eq rfl) ?_); simp (maxSteps := 9999999) (disch := omega) only [go_sem, hr, hlen, hat, hv]; first | done | (repeat' (first | rfl | (refine And.intro ?_ ?_))))); (focus (simp (maxSteps := 9999999) (disch := omega) only [go_sem, hr, hlen, hat, hv]; rfl)))); (try simp (maxSteps := 9999999) (disch := omega) only [go_sem, hr, hlen, hat, hv]); (try (refine And.intro ?_ ?_; (focus (first | omega | (simp only [go_sem]; done) | (simp; done) | (simp; omega) | assumption))))) | ((first | refine CondP.split (fun hif => ?_) (fun hif => ?_) | refine Runs.part (fun hif => ?_) (fun hif => ?_)) <;> ((try simp only [hif]); (try simp only [decide_eq_true_eq, decide_eq_false_iff_not, Bool.not_eq_true, Bool.not_eq_false, Bool.not_eq_true', Bool.not_eq_false', beq_iff_eq, bne_iff_ne, bne_eq_false_iff_eq, beq_eq_false_iff_ne, ne_eq, Bool.and_eq_true, Bool.or_eq_true, Bool.or_eq_false_iff] at hif); (try (have h9 : _ = true := hif; simp only [h9])); (try (have h9 : _ = false := hif; simp only [h9])); (try simp (maxSteps := 9999999) (disch := omega) only [go_sem, hr, hlen, hat, hv]); (try (refine And.intro ?_ ?_; (focus (first | omega | (simp only [go_sem]; done) | (simp; done) | (simp; omega) | assumption)))); (try (exfalso; omega; done))))))
    (apply Ret.det [0, 1]; (focus (first | exact .inl rfl | exact .inr rfl)); (focus (simp (maxSteps := 9999999) (disch := omega) only [go_sem, hr, hv]; rfl)); (simp (maxSteps := 9999999) (disch := omega) only [go_sem, hr, hv]; (try (repeat' (first | done | trivial | rfl | exact leAs_rfl _ | decide | (refine And.intro ?_ ?_) | (simp; done) | omega | (simp; decide))))))
/-- Out of the table. -/
def dropP (l : List Pi) (k : ByteArray) : List Pi := match hasP' l k with | true => l.take (rankP l k) ++ l.drop (rankP l k + 1) | false => l
theorem hasP_key {l : List Pi} {k : ByteArray} (h : hasP' l k = true) : (l[rankP l k]'(hasP_lt h)).key = k := by
  have hl := hasP_lt h
  unfold hasP' at h
  rw [List.getElem?_eq_getElem hl] at h
  exact of_decide_eq_true h
theorem tdrop_any (t : Tb) (k : ByteArray) (ht : t.ok) : ACall Try.prog 64 [.ptr 0 0, .val (.string k)] [TbO 1 t, .cells false (Rp 0 t.l)] (Det (Bo (hasP' t.l k)) [TbO 2 ⟨t.room, dropP t.l k⟩, .gone, .cells false (Rp 0 (dropP t.l k))]) := by
  have c := find_any t k ht
  have hr := rp_ren 0
  cases hh : hasP' t.l k with
  | false =>
    have hd : dropP t.l k = t.l := by unfold dropP; rw [hh]
    rw [hh] at c
    rw [hd]
    refine ACall.startA c64_ok Try.func64 rfl Try.ntmps64 (by kernel_rfl) res64_ok rfl rfl rfl ?_; simp (maxSteps := 9999999) (disch := omega) only [go_sem]
    (repeat' (first | refine AWpA.seq ?_ | refine AWpA.block ?_ | (with_reducible refine CondP.tt ?_) | (with_reducible refine CondP.ff ?_) | refine AWpA.condv (by simp (maxSteps := 9999999) (disch := omega) only [go_sem, hr]; rfl) ?_ | ((first | (apply AWpA.region; (focus (simp (maxSteps := 9999999) (disch := omega) only [go_sem, hr]; rfl))) | (apply AWpA.draw [] [] follows; (focus (first | rfl | decide)); (focus (simp (maxSteps := 9999999) (disch := omega) only [go_sem, hr]; rfl)); (focus (simp (maxSteps := 9999999) (disch := omega) only [go_sem, hr]; first | done | trivial)); (focus (simp (maxSteps := 9999999) (disch := omega) only [go_sem, hr]; rfl))) | (apply TailK.go; (focus (simp (maxSteps := 9999999) (disch := omega) only [go_sem, hr]; rfl))) | refine AWpA.skip ?_ | refine AWpA.exit ?_ | refine AWpA.ret ?_ | (with_reducible refine ARoundsA.succ ?_) | ((first | refine Runs.kt (by assumption) (fun h9 => ?_) | refine Runs.kf (by assumption) (fun h9 => ?_) | refine Runs.nt (by assumption) (fun h9 => ?_) | refine Runs.nf (by assumption) (fun h9 => ?_) | refine CondP.ht (by assumption) (fun h9 => ?_) | refine CondP.hf (by assumption) (fun h9 => ?_) | refine CondP.nt (by assumption) (fun h9 => ?_) | refine CondP.nf (by assumption) (fun h9 => ?_)); (try simp only [h9]); clear h9) | ((first | (with_reducible apply CallG.plain1 [0, 1] (c)) | (with_reducible apply CallG.draw1 [0, 1] (c))); (focus ((try refine And.intro (leAs_of_eq rfl) ?_); (try refine And.intro (leOL_of_eq rfl) ?_); simp (maxSteps := 9999999) (disch := omega) only [go_sem, hr]; first | done | (repeat' (first | rfl | (refine And.intro ?_ ?_))))); (focus (simp (maxSteps := 9999999) (disch := omega) only [go_sem, hr]; rfl)))); (try simp (maxSteps := 9999999) (disch := omega) only [go_sem, hr]); (try (refine And.intro ?_ ?_; (focus (first | omega | (simp only [go_sem]; done) | (simp; done) | (simp; omega) | assumption))))) | ((first | refine CondP.split (fun hif => ?_) (fun hif => ?_) | refine Runs.part (fun hif => ?_) (fun hif => ?_)) <;> ((try simp only [hif]); (try simp only [decide_eq_true_eq, decide_eq_false_iff_not, Bool.not_eq_true, Bool.not_eq_false, Bool.not_eq_true', Bool.not_eq_false', beq_iff_eq, bne_iff_ne, bne_eq_false_iff_eq, beq_eq_false_iff_ne, ne_eq, Bool.and_eq_true, Bool.or_eq_true, Bool.or_eq_false_iff] at hif); (try (have h9 : _ = true := hif; simp only [h9])); (try (have h9 : _ = false := hif; simp only [h9])); (try simp (maxSteps := 9999999) (disch := omega) only [go_sem, hr]); (try (refine And.intro ?_ ?_; (focus (first | omega | (simp only [go_sem]; done) | (simp; done) | (simp; omega) | assumption)))); (try (exfalso; omega; done))))))
    (apply Ret.det [0, 1, 1]; (focus (first | exact .inl rfl | exact .inr rfl)); (focus (simp (maxSteps := 9999999) (disch := omega) only [go_sem, hr]; rfl)); (simp (maxSteps := 9999999) (disch := omega) only [go_sem, hr]; (try (repeat' (first | done | trivial | rfl | exact leAs_rfl _ | decide | (refine And.intro ?_ ?_) | (simp; done) | omega | (simp; decide))))))
  | true =>
    have hlt := hasP_lt hh
    have d := delete_any t.l (rankP t.l k) hlt ht.2
    have hd : dropP t.l k = t.l.take (rankP t.l k) ++ t.l.drop (rankP t.l k + 1) := by unfold dropP; rw [hh]
    have hl : (t.l.take (rankP t.l k) ++ t.l.drop (rankP t.l k + 1)).length = t.l.length - 1 := by simp; omega
    have hle := ht.2
    rw [hh] at c
    rw [hd]
    generalize t.l.take (rankP t.l k) ++ t.l.drop (rankP t.l k + 1) = l' at *
    clear hd hh
    generalize rankP t.l k = r at *
    refine ACall.startA c64_ok Try.func64 rfl Try.ntmps64 (by kernel_rfl) res64_ok rfl rfl rfl ?_; simp (maxSteps := 9999999) (disch := omega) only [go_sem]
    (repeat' (first | refine AWpA.seq ?_ | refine AWpA.block ?_ | (with_reducible refine CondP.tt ?_) | (with_reducible refine CondP.ff ?_) | refine AWpA.condv (by simp (maxSteps := 9999999) (disch := omega) only [go_sem, hr]; rfl) ?_ | ((first | (apply AWpA.region; (focus (simp (maxSteps := 9999999) (disch := omega) only [go_sem, hr]; rfl))) | (apply AWpA.draw [] [] follows; (focus (first | rfl | decide)); (focus (simp (maxSteps := 9999999) (disch := omega) only [go_sem, hr]; rfl)); (focus (simp (maxSteps := 9999999) (disch := omega) only [go_sem, hr]; first | done | trivial)); (focus (simp (maxSteps := 9999999) (disch := omega) only [go_sem, hr]; rfl))) | (apply TailK.go; (focus (simp (maxSteps := 9999999) (disch := omega) only [go_sem, hr]; rfl))) | refine AWpA.skip ?_ | refine AWpA.exit ?_ | refine AWpA.ret ?_ | (with_reducible refine ARoundsA.succ ?_) | ((first | refine Runs.kt (by assumption) (fun h9 => ?_) | refine Runs.kf (by assumption) (fun h9 => ?_) | refine Runs.nt (by assumption) (fun h9 => ?_) | refine Runs.nf (by assumption) (fun h9 => ?_) | refine CondP.ht (by assumption) (fun h9 => ?_) | refine CondP.hf (by assumption) (fun h9 => ?_) | refine CondP.nt (by assumption) (fun h9 => ?_) | refine CondP.nf (by assumption) (fun h9 => ?_)); (try simp only [h9]); clear h9) | ((first | (with_reducible apply CallG.plain1 [0, 1] (c)) | (with_reducible apply CallG.draw1 [0, 1] (c))); (focus ((try refine And.intro (leAs_of_eq rfl) ?_); (try refine And.intro (leOL_of_eq rfl) ?_); simp (maxSteps := 9999999) (disch := omega) only [go_sem, hr]; first | done | (repeat' (first | rfl | (refine And.intro ?_ ?_))))); (focus (simp (maxSteps := 9999999) (disch := omega) only [go_sem, hr]; rfl))) | ((first | (with_reducible apply CallG.plain1 [1] (d)) | (with_reducible apply CallG.draw1 [1] (d))); (focus ((try refine And.intro (leAs_of_eq rfl) ?_); (try refine And.intro (leOL_of_eq rfl) ?_); simp (maxSteps := 9999999) (disch := omega) only [go_sem, hr]; first | done | (repeat' (first | rfl | (refine And.intro ?_ ?_))))); (focus (simp (maxSteps := 9999999) (disch := omega) only [go_sem, hr]; rfl)))); (try simp (maxSteps := 9999999) (disch := omega) only [go_sem, hr]); (try (refine And.intro ?_ ?_; (focus (first | omega | (simp only [go_sem]; done) | (simp; done) | (simp; omega) | assumption))))) | ((first | refine CondP.split (fun hif => ?_) (fun hif => ?_) | refine Runs.part (fun hif => ?_) (fun hif => ?_)) <;> ((try simp only [hif]); (try simp only [decide_eq_true_eq, decide_eq_false_iff_not, Bool.not_eq_true, Bool.not_eq_false, Bool.not_eq_true', Bool.not_eq_false', beq_iff_eq, bne_iff_ne, bne_eq_false_iff_eq, beq_eq_false_iff_ne, ne_eq, Bool.and_eq_true, Bool.or_eq_true, Bool.or_eq_false_iff] at hif); (try (have h9 : _ = true := hif; simp only [h9])); (try (have h9 : _ = false := hif; simp only [h9])); (try simp (maxSteps := 9999999) (disch := omega) only [go_sem, hr]); (try (refine And.intro ?_ ?_; (focus (first | omega | (simp only [go_sem]; done) | (simp; done) | (simp; omega) | assumption)))); (try (exfalso; omega; done))))))
    (apply Ret.det [0, 1, 290]; (focus (first | exact .inl rfl | exact .inr rfl)); (focus (simp (maxSteps := 9999999) (disch := omega) only [go_sem, hr, hl]; rfl)); (simp (maxSteps := 9999999) (disch := omega) only [go_sem, hr, hl]; (try (repeat' (first | done | trivial | rfl | exact leAs_rfl _ | decide | (refine And.intro ?_ ?_) | (simp; done) | omega | (simp; decide))))))
/-- Into the table. -/
def putP (l : List Pi) (k : ByteArray) (v : En) : List Pi := match hasP' l k with | true => l.take (rankP l k) ++ ⟨k, v⟩ :: l.drop (rankP l k + 1) | false => l.take (rankP l k) ++ ⟨k, v⟩ :: l.drop (rankP l k)
def putT (t : Tb) (k : ByteArray) (v : En) : Tb := match !hasP' t.l k && decide ((t.l.length : Int) = t.room) with | true => t | false => ⟨t.room, putP t.l k v⟩
def putE (t : Tb) (k : ByteArray) : Int := match !hasP' t.l k && decide ((t.l.length : Int) = t.room) with | true => 7 | false => 0
theorem tput_any (t : Tb) (k : ByteArray) (v : En) (ht : t.ok) : ACall Try.prog 63 [.ptr 0 0, .val (.string k), EnA v] [TbO 1 t, .cells false (Rp 0 t.l)] (Det (I (putE t k)) [TbO 2 (putT t k v), .gone, .cells false (Rp 0 (putT t k v).l)]) := by
  have c := find_any t k ht
  have hr := rp_ren 0
  have hlen := rp_len 0
  have hle := ht.2
  have hrk := rankP_le t.l k
  cases hh : hasP' t.l k with
  | true =>
    have hlt := hasP_lt hh
    have he : putE t k = 0 := by unfold putE; rw [hh]; rfl
    have hp : putT t k v = ⟨t.room, t.l.take (rankP t.l k) ++ ⟨k, v⟩ :: t.l.drop (rankP t.l k + 1)⟩ := by unfold putT putP; rw [hh]; rfl
    have hw := rp_putv t.l (rankP t.l k) hlt v
    rw [hasP_key hh] at hw
    have hl : (t.l.take (rankP t.l k) ++ (⟨k, v⟩ : Pi) :: t.l.drop (rankP t.l k + 1)).length = t.l.length := by simp; omega
    rw [hh] at c
    rw [he, hp]
    generalize t.l.take (rankP t.l k) ++ (⟨k, v⟩ : Pi) :: t.l.drop (rankP t.l k + 1) = l' at *
    clear hp he hh
    generalize rankP t.l k = r at *
    refine ACall.startA c63_ok Try.func63 rfl Try.ntmps63 (by kernel_rfl) res63_ok rfl rfl rfl ?_; simp (maxSteps := 9999999) (disch := omega) only [go_sem]
    (repeat' (first | refine AWpA.seq ?_ | refine AWpA.block ?_ | (with_reducible refine CondP.tt ?_) | (with_reducible refine CondP.ff ?_) | refine AWpA.condv (by simp (maxSteps := 9999999) (disch := omega) only [go_sem, hr, hlen, hw]; rfl) ?_ | ((first | (apply AWpA.region; (focus (simp (maxSteps := 9999999) (disch := omega) only [go_sem, hr, hlen, hw]; rfl))) | (apply AWpA.draw [1] [] follows; (focus (first | rfl | decide)); (focus (simp (maxSteps := 9999999) (disch := omega) only [go_sem, hr, hlen, hw]; rfl)); (focus (simp (maxSteps := 9999999) (disch := omega) only [go_sem, hr, hlen, hw]; first | done | trivial)); (focus (simp (maxSteps := 9999999) (disch := omega) only [go_sem, hr, hlen, hw]; rfl))) | (apply TailK.go; (focus (simp (maxSteps := 9999999) (disch := omega) only [go_sem, hr, hlen, hw]; rfl))) | refine AWpA.skip ?_ | refine AWpA.exit ?_ | refine AWpA.ret ?_ | (with_reducible refine ARoundsA.succ ?_) | ((first | refine Runs.kt (by assumption) (fun h9 => ?_) | refine Runs.kf (by assumption) (fun h9 => ?_) | refine Runs.nt (by assumption) (fun h9 => ?_) | refine Runs.nf (by assumption) (fun h9 => ?_) | refine CondP.ht (by assumption) (fun h9 => ?_) | refine CondP.hf (by assumption) (fun h9 => ?_) | refine CondP.nt (by assumption) (fun h9 => ?_) | refine CondP.nf (by assumption) (fun h9 => ?_)); (try simp only [h9]); clear h9) | ((first | (with_reducible apply CallG.plain1 [0, 1] (c)) | (with_reducible apply CallG.draw1 [0, 1] (c))); (focus ((try refine And.intro (leAs_of_eq rfl) ?_); (try refine And.intro (leOL_of_eq rfl) ?_); simp (maxSteps := 9999999) (disch := omega) only [go_sem, hr, hlen, hw]; first | done | (repeat' (first | rfl | (refine And.intro ?_ ?_))))); (focus (simp (maxSteps := 9999999) (disch := omega) only [go_sem, hr, hlen, hw]; rfl)))); (try simp (maxSteps := 9999999) (disch := omega) only [go_sem, hr, hlen, hw]); (try (refine And.intro ?_ ?_; (focus (first | omega | (simp only [go_sem]; done) | (simp; done) | (simp; omega) | assumption))))) | ((first | refine CondP.split (fun hif => ?_) (fun hif => ?_) | refine Runs.part (fun hif => ?_) (fun hif => ?_)) <;> ((try simp only [hif]); (try simp only [decide_eq_true_eq, decide_eq_false_iff_not, Bool.not_eq_true, Bool.not_eq_false, Bool.not_eq_true', Bool.not_eq_false', beq_iff_eq, bne_iff_ne, bne_eq_false_iff_eq, beq_eq_false_iff_ne, ne_eq, Bool.and_eq_true, Bool.or_eq_true, Bool.or_eq_false_iff] at hif); (try (have h9 : _ = true := hif; simp only [h9])); (try (have h9 : _ = false := hif; simp only [h9])); (try simp (maxSteps := 9999999) (disch := omega) only [go_sem, hr, hlen, hw]); (try (refine And.intro ?_ ?_; (focus (first | omega | (simp only [go_sem]; done) | (simp; done) | (simp; omega) | assumption)))); (try (exfalso; omega; done))))))
    (apply Ret.det [0, 1, 1]; (focus (first | exact .inl rfl | exact .inr rfl)); (focus (simp (maxSteps := 9999999) (disch := omega) only [go_sem, hr, hl]; rfl)); (simp (maxSteps := 9999999) (disch := omega) only [go_sem, hr, hl]; (try (repeat' (first | done | trivial | rfl | exact leAs_rfl _ | decide | (refine And.intro ?_ ?_) | (simp; done) | omega | (simp; decide))))))
  | false =>
    by_cases hf : (t.l.length : Int) = t.room
    · have he : putE t k = 7 := by unfold putE; rw [hh, decide_eq_true hf]; rfl
      have hp : putT t k v = t := by unfold putT; rw [hh, decide_eq_true hf]; rfl
      rw [hh] at c
      rw [he, hp]
      clear hp he hh
      generalize rankP t.l k = r at *
      refine ACall.startA c63_ok Try.func63 rfl Try.ntmps63 (by kernel_rfl) res63_ok rfl rfl rfl ?_; simp (maxSteps := 9999999) (disch := omega) only [go_sem]
      (repeat' (first | refine AWpA.seq ?_ | refine AWpA.block ?_ | (with_reducible refine CondP.tt ?_) | (with_reducible refine CondP.ff ?_) | refine AWpA.condv (by simp (maxSteps := 9999999) (disch := omega) only [go_sem, hr, hlen, hf]; rfl) ?_ | ((first | (apply AWpA.region; (focus (simp (maxSteps := 9999999) (disch := omega) only [go_sem, hr, hlen, hf]; rfl))) | (apply AWpA.draw [] [] follows; (focus (first | rfl | decide)); (focus (simp (maxSteps := 9999999) (disch := omega) only [go_sem, hr, hlen, hf]; rfl)); (focus (simp (maxSteps := 9999999) (disch := omega) only [go_sem, hr, hlen, hf]; first | done | trivial)); (focus (simp (maxSteps := 9999999) (disch := omega) only [go_sem, hr, hlen, hf]; rfl))) | (apply TailK.go; (focus (simp (maxSteps := 9999999) (disch := omega) only [go_sem, hr, hlen, hf]; rfl))) | refine AWpA.skip ?_ | refine AWpA.exit ?_ | refine AWpA.ret ?_ | (with_reducible refine ARoundsA.succ ?_) | ((first | refine Runs.kt (by assumption) (fun h9 => ?_) | refine Runs.kf (by assumption) (fun h9 => ?_) | refine Runs.nt (by assumption) (fun h9 => ?_) | refine Runs.nf (by assumption) (fun h9 => ?_) | refine CondP.ht (by assumption) (fun h9 => ?_) | refine CondP.hf (by assumption) (fun h9 => ?_) | refine CondP.nt (by assumption) (fun h9 => ?_) | refine CondP.nf (by assumption) (fun h9 => ?_)); (try simp only [h9]); clear h9) | ((first | (with_reducible apply CallG.plain1 [0, 1] (c)) | (with_reducible apply CallG.draw1 [0, 1] (c))); (focus ((try refine And.intro (leAs_of_eq rfl) ?_); (try refine And.intro (leOL_of_eq rfl) ?_); simp (maxSteps := 9999999) (disch := omega) only [go_sem, hr, hlen, hf]; first | done | (repeat' (first | rfl | (refine And.intro ?_ ?_))))); (focus (simp (maxSteps := 9999999) (disch := omega) only [go_sem, hr, hlen, hf]; rfl)))); (try simp (maxSteps := 9999999) (disch := omega) only [go_sem, hr, hlen, hf]); (try (refine And.intro ?_ ?_; (focus (first | omega | (simp only [go_sem]; done) | (simp; done) | (simp; omega) | assumption))))) | ((first | refine CondP.split (fun hif => ?_) (fun hif => ?_) | refine Runs.part (fun hif => ?_) (fun hif => ?_)) <;> ((try simp only [hif]); (try simp only [decide_eq_true_eq, decide_eq_false_iff_not, Bool.not_eq_true, Bool.not_eq_false, Bool.not_eq_true', Bool.not_eq_false', beq_iff_eq, bne_iff_ne, bne_eq_false_iff_eq, beq_eq_false_iff_ne, ne_eq, Bool.and_eq_true, Bool.or_eq_true, Bool.or_eq_false_iff] at hif); (try (have h9 : _ = true := hif; simp only [h9])); (try (have h9 : _ = false := hif; simp only [h9])); (try simp (maxSteps := 9999999) (disch := omega) only [go_sem, hr, hlen, hf]); (try (refine And.intro ?_ ?_; (focus (first | omega | (simp only [go_sem]; done) | (simp; done) | (simp; omega) | assumption)))); (try (exfalso; omega; done))))))
      (apply Ret.det [0, 1, 1]; (focus (first | exact .inl rfl | exact .inr rfl)); (focus (simp (maxSteps := 9999999) (disch := omega) only [go_sem, hr]; rfl)); (simp (maxSteps := 9999999) (disch := omega) only [go_sem, hr]; (try (repeat' (first | done | trivial | rfl | exact leAs_rfl _ | decide | (refine And.intro ?_ ?_) | (simp; done) | omega | (simp; decide))))))
    · have he : putE t k = 0 := by unfold putE; rw [hh, decide_eq_false hf]; rfl
      have hp : putT t k v = ⟨t.room, t.l.take (rankP t.l k) ++ ⟨k, v⟩ :: t.l.drop (rankP t.l k)⟩ := by unfold putT putP; rw [hh, decide_eq_false hf]; rfl
      have d := insert_any t.l (rankP t.l k) ⟨k, v⟩ hrk ht.2
      have hl : (t.l.take (rankP t.l k) ++ (⟨k, v⟩ : Pi) :: t.l.drop (rankP t.l k)).length = t.l.length + 1 := by simp; omega
      have hf' : ((t.l.length : Int) = t.room) = False := eq_false hf
      rw [hh] at c
      rw [he, hp]
      generalize t.l.take (rankP t.l k) ++ (⟨k, v⟩ : Pi) :: t.l.drop (rankP t.l k) = l' at *
      clear hp he hh hf
      generalize rankP t.l k = r at *
      refine ACall.startA c63_ok Try.func63 rfl Try.ntmps63 (by kernel_rfl) res63_ok rfl rfl rfl ?_; simp (maxSteps := 9999999) (disch := omega) only [go_sem]
      (repeat' (first | refine AWpA.seq ?_ | refine AWpA.block ?_ | (with_reducible refine CondP.tt ?_) | (with_reducible refine CondP.ff ?_) | refine AWpA.condv (by simp (maxSteps := 9999999) (disch := omega) only [go_sem, hr, hlen, hf']; rfl) ?_ | ((first | (apply AWpA.region; (focus (simp (maxSteps := 9999999) (disch := omega) only [go_sem, hr, hlen, hf']; rfl))) | (apply AWpA.draw [1] [] follows; (focus (first | rfl | decide)); (focus (simp (maxSteps := 9999999) (disch := omega) only [go_sem, hr, hlen, hf']; rfl)); (focus (simp (maxSteps := 9999999) (disch := omega) only [go_sem, hr, hlen, hf']; first | done | trivial)); (focus (simp (maxSteps := 9999999) (disch := omega) only [go_sem, hr, hlen, hf']; rfl))) | (apply TailK.go; (focus (simp (maxSteps := 9999999) (disch := omega) only [go_sem, hr, hlen, hf']; rfl))) | refine AWpA.skip ?_ | refine AWpA.exit ?_ | refine AWpA.ret ?_ | (with_reducible refine ARoundsA.succ ?_) | ((first | refine Runs.kt (by assumption) (fun h9 => ?_) | refine Runs.kf (by assumption) (fun h9 => ?_) | refine Runs.nt (by assumption) (fun h9 => ?_) | refine Runs.nf (by assumption) (fun h9 => ?_) | refine CondP.ht (by assumption) (fun h9 => ?_) | refine CondP.hf (by assumption) (fun h9 => ?_) | refine CondP.nt (by assumption) (fun h9 => ?_) | refine CondP.nf (by assumption) (fun h9 => ?_)); (try simp only [h9]); clear h9) | ((first | (with_reducible apply CallG.plain1 [0, 1] (c)) | (with_reducible apply CallG.draw1 [0, 1] (c))); (focus ((try refine And.intro (leAs_of_eq rfl) ?_); (try refine And.intro (leOL_of_eq rfl) ?_); simp (maxSteps := 9999999) (disch := omega) only [go_sem, hr, hlen, hf']; first | done | (repeat' (first | rfl | (refine And.intro ?_ ?_))))); (focus (simp (maxSteps := 9999999) (disch := omega) only [go_sem, hr, hlen, hf']; rfl))) | ((first | (with_reducible apply CallG.plain1 [1, 514] (d)) | (with_reducible apply CallG.draw1 [1, 514] (d))); (focus ((try refine And.intro (leAs_of_eq rfl) ?_); (try refine And.intro (leOL_of_eq rfl) ?_); simp (maxSteps := 9999999) (disch := omega) only [go_sem, hr, hlen, hf']; first | done | (repeat' (first | rfl | (refine And.intro ?_ ?_))))); (focus (simp (maxSteps := 9999999) (disch := omega) only [go_sem, hr, hlen, hf']; rfl)))); (try simp (maxSteps := 9999999) (disch := omega) only [go_sem, hr, hlen, hf']); (try (refine And.intro ?_ ?_; (focus (first | omega | (simp only [go_sem]; done) | (simp; done) | (simp; omega) | assumption))))) | ((first | refine CondP.split (fun hif => ?_) (fun hif => ?_) | refine Runs.part (fun hif => ?_) (fun hif => ?_)) <;> ((try simp only [hif]); (try simp only [decide_eq_true_eq, decide_eq_false_iff_not, Bool.not_eq_true, Bool.not_eq_false, Bool.not_eq_true', Bool.not_eq_false', beq_iff_eq, bne_iff_ne, bne_eq_false_iff_eq, beq_eq_false_iff_ne, ne_eq, Bool.and_eq_true, Bool.or_eq_true, Bool.or_eq_false_iff] at hif); (try (have h9 : _ = true := hif; simp only [h9])); (try (have h9 : _ = false := hif; simp only [h9])); (try simp (maxSteps := 9999999) (disch := omega) only [go_sem, hr, hlen, hf']); (try (refine And.intro ?_ ?_; (focus (first | omega | (simp only [go_sem]; done) | (simp; done) | (simp; omega) | assumption)))); (try (exfalso; omega; done))))))
      · exact absurd (by assumption) (of_eq_false hf')
      (apply Ret.det [0, 1, 530]; (focus (first | exact .inl rfl | exact .inr rfl)); (focus (simp (maxSteps := 9999999) (disch := omega) only [go_sem, hr, hl]; rfl)); (simp (maxSteps := 9999999) (disch := omega) only [go_sem, hr, hl]; (try (repeat' (first | done | trivial | rfl | exact leAs_rfl _ | decide | (refine And.intro ?_ ?_) | (simp; done) | omega | (simp; decide))))))
/-- From a key on, at most so many. -/
def scanP (l : List Pi) (k : ByteArray) (n : Int) : List Pi := (l.drop (rankP l k)).take (min (max n 0).toNat (l.length - rankP l k))
end Go.Proofs.Ytgjimlgofakbpaa.Ue
