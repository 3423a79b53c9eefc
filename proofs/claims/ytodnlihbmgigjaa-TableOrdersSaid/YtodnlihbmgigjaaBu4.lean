/- Made by wip/gen_ts.py: the same contracts for Table[string]. -/
import Derived.Test.YtodnlihbmgigjaaBu3
namespace Go.Proofs.Ytodnlihbmgigjaa.Us
set_option linter.unusedSimpArgs false
set_option linter.unusedVariables false
set_option maxHeartbeats 4000000
open Go Go.Am Go.RowKit
set_option maxRecDepth 100000
/-- A table: room, and keys with their numbers. -/
structure Tb where
  room : Int
  l : List Pi
abbrev Tb.ok (t : Tb) : Prop := Rise t.l ∧ t.l.length ≤ 1099511627776
abbrev TbO (j : Nat) (t : Tb) : AObj := .cells false [I t.room, .sl j 0 t.l.length 2 none]
abbrev TbR (j : Nat) (t : Tb) : AObj := .cells true [I t.room, .sl j 0 t.l.length 2 none]
theorem rp_split (l : List Pi) (i : Nat) (hi : i < l.length) : Rp 0 l = Rp 0 (l.take i) ++ [.val (.string l[i].key), AV.val (Value.string l[i].v)] ++ Rp 0 (l.drop (i + 1)) := by
  have e : [AV.val (.string l[i].key), AV.val (Value.string l[i].v)] = Rp 0 [l[i]] := rfl
  rw [e, ← rp_app, ← rp_app]
  congr 1
  rw [List.append_assoc, List.singleton_append, List.getElem_cons_drop, List.take_append_drop]
theorem rp_lenT (l : List Pi) (i : Nat) (hi : i ≤ l.length) : (Rp 0 (l.take i)).length = i * 2 := by
  have := rp_len 0 (l.take i)
  rw [List.length_take, Nat.min_eq_left hi] at this
  omega
theorem rp_v (l : List Pi) (i : Nat) (hi : i < l.length) : (Rp 0 l).getD (i * 2 + 1) AV.bad = AV.val (Value.string l[i].v) := by
  have hX := rp_lenT l i (by omega)
  rw [rp_split l i hi, List.getD_eq_getElem?_getD, List.append_assoc, List.getElem?_append_right (by omega), hX, show i * 2 + 1 - i * 2 = 1 by omega]
  rfl
theorem rp_putv (l : List Pi) (i : Nat) (hi : i < l.length) (v : ByteArray) : (Rp 0 l).take (i * 2 + 1) ++ [AV.val (Value.string v)] ++ (Rp 0 l).drop (i * 2 + 1 + 1) = Rp 0 (l.take i ++ ⟨l[i].key, v⟩ :: l.drop (i + 1)) := by
  have hX := rp_lenT l i (by omega)
  rw [rp_app, rp_cons, rp_split l i hi]
  generalize Rp 0 (l.take i) = X at *
  generalize Rp 0 (l.drop (i + 1)) = Y
  have e1 : X ++ [AV.val (.string l[i].key), AV.val (Value.string l[i].v)] ++ Y = (X ++ [AV.val (.string l[i].key)]) ++ (AV.val (Value.string l[i].v) :: Y) := by simp
  have e2 : X ++ [AV.val (.string l[i].key), AV.val (Value.string l[i].v)] ++ Y = (X ++ [AV.val (.string l[i].key), AV.val (Value.string l[i].v)]) ++ Y := rfl
  have h1 : (X ++ [AV.val (.string l[i].key), AV.val (Value.string l[i].v)] ++ Y).take (i * 2 + 1) = X ++ [AV.val (.string l[i].key)] := by
    rw [e1, show i * 2 + 1 = (X ++ [AV.val (.string l[i].key)]).length by simp; omega, List.take_left]
  have h2 : (X ++ [AV.val (.string l[i].key), AV.val (Value.string l[i].v)] ++ Y).drop (i * 2 + 1 + 1) = Y := by
    rw [show i * 2 + 1 + 1 = (X ++ [AV.val (.string l[i].key), AV.val (Value.string l[i].v)]).length by simp; omega, List.drop_left]
  rw [h1, h2]
  simp
/- (*quidnunc/table.Table[string]).Put -/
noncomputable def c9_1 : ACode := .region false [⟨some 6, .move, [.c (.val (.int .i64 0))], none⟩] [] [] [0, 1, 2] false [] []
noncomputable def c9_3 : ACode := .region false [⟨some 10, .move, [.t 0], none⟩,
  ⟨some 11, .move, [.t 1], none⟩,
  ⟨some 12, .call 28, [.t 10, .t 11], none⟩,
  ⟨some 9, .move, [.t 12], none⟩,
  ⟨some 13, .ext 0, [.t 9], none⟩,
  ⟨some 14, .ext 1, [.t 9], none⟩,
  ⟨some 7, .move, [.t 13], none⟩,
  ⟨some 8, .move, [.t 14], none⟩] [] [] [0, 1, 2, 7, 8] true [] []
noncomputable def c9_7 : ACode := .region false [⟨some 29, .move, [.t 8], none⟩,
  ⟨some 28, .move, [.t 29], none⟩] [] [] [0, 1, 2, 7, 28] false [] []
noncomputable def c9_9 : ACode := .region false [⟨some 30, .move, [.t 0], none⟩,
  ⟨some 31, .nilChk, [.t 30], none⟩,
  ⟨some 32, .addr 1, [.t 31], none⟩,
  ⟨some 33, .load false 1, [.t 32], none⟩,
  ⟨some 34, .move, [.t 7], none⟩,
  ⟨some 35, .move, [.t 2], none⟩,
  ⟨some 36, .ixS 2, [.t 33, .t 34], none⟩,
  ⟨some 37, .addr 1, [.t 36], none⟩,
  ⟨none, .store 1, [.t 37, .t 35], none⟩] [] [] [] true [] []
noncomputable def c9_11 : ACode := .region true [⟨some 39, .move, [.t 0], none⟩,
  ⟨some 40, .nilChk, [.t 39], none⟩,
  ⟨some 41, .addr 1, [.t 40], none⟩,
  ⟨some 42, .load false 1, [.t 41], none⟩,
  ⟨some 43, .len, [.t 42], none⟩,
  ⟨some 44, .move, [.t 0], none⟩,
  ⟨some 45, .nilChk, [.t 44], none⟩,
  ⟨some 46, .addr 0, [.t 45], none⟩,
  ⟨some 47, .load false 1, [.t 46], none⟩,
  ⟨some 48, .bin .eql, [.t 43, .t 47], none⟩,
  ⟨some 38, .move, [.t 48], none⟩] [] [] [0, 1, 2, 7, 38] false [] []
noncomputable def c9_14 : ACode := .region false [⟨some 6, .move, [.c (.val (.int .i64 7))], none⟩] [] [] [6] false [] []
noncomputable def c9_13 : ACode := .seq c9_14 .ret
noncomputable def c9_15 : ACode := .region false [⟨some 15, .move, [.t 0], none⟩,
  ⟨some 16, .move, [.t 0], none⟩,
  ⟨some 17, .nilChk, [.t 16], none⟩,
  ⟨some 18, .addr 1, [.t 17], none⟩,
  ⟨some 19, .load false 1, [.t 18], none⟩,
  ⟨some 20, .move, [.t 7], none⟩,
  ⟨some 21, .move, [.t 1], none⟩,
  ⟨some 22, .move, [.t 2], none⟩,
  ⟨some 23, .build [(.string ⟨#[]⟩), (.string ⟨#[]⟩)] [(0, 1), (1, 1)], [.t 21, .t 22], none⟩,
  ⟨some 24, .buildSl 2 1 [(.string ⟨#[]⟩), (.string ⟨#[]⟩)] [(0, 2)], [.t 23], none⟩,
  ⟨some 25, .call 29, [.t 19, .t 20, .t 24], none⟩,
  ⟨some 26, .nilChk, [.t 15], none⟩,
  ⟨some 27, .addr 1, [.t 26], none⟩,
  ⟨none, .store 1, [.t 27, .t 25], none⟩] [] [] [] true [] []
noncomputable def c9_12 : ACode := .cond (.t 38) c9_13 c9_15
noncomputable def c9_10 : ACode := .seq c9_11 c9_12
noncomputable def c9_8 : ACode := .cond (.t 28) c9_9 c9_10
noncomputable def c9_6 : ACode := .seq c9_7 c9_8
noncomputable def c9_5 : ACode := .block 0 c9_6
noncomputable def c9_17 : ACode := .region false [⟨some 6, .move, [.c (.val (.int .i64 0))], none⟩] [] [] [6] false [] []
noncomputable def c9_16 : ACode := .seq c9_17 .ret
noncomputable def c9_4 : ACode := .seq c9_5 c9_16
noncomputable def c9_2 : ACode := .seq c9_3 c9_4
noncomputable def c9_0 : ACode := .seq c9_1 c9_2
noncomputable def code9 : Code := (Try.f9.body).getD .skip
theorem c9_ok : compC Try.prog 49 code9 = some (strip c9_0) := by kernel_rfl
theorem res9_ok : Try.f9.results.toList.mapM (resC Try.prog) = some [(6, none)] := by kernel_rfl
/- (*quidnunc/table.Table[string]).Scan -/
noncomputable def c10_1 : ACode := .region false [⟨some 6, .move, [.c (.val (.slice none 0 0))], none⟩] [] [] [0, 1, 2] false [] []
noncomputable def c10_3 : ACode := .region true [⟨some 8, .move, [.t 0], none⟩,
  ⟨some 9, .nilChk, [.t 8], none⟩,
  ⟨some 10, .addr 1, [.t 9], none⟩,
  ⟨some 11, .load false 1, [.t 10], none⟩,
  ⟨some 12, .move, [.t 0], none⟩,
  ⟨some 13, .move, [.t 1], none⟩,
  ⟨some 14, .call 30, [.t 12, .t 13], none⟩,
  ⟨some 15, .slS 2 true false false, [.t 11, .t 14], none⟩,
  ⟨some 7, .move, [.t 15], none⟩] [] [] [2, 7] true [] []
noncomputable def c10_5 : ACode := .region false [⟨some 16, .move, [.t 7], none⟩,
  ⟨some 17, .move, [.t 2], none⟩,
  ⟨some 18, .max, [.t 17, .c (.val (.int .i64 0))], none⟩,
  ⟨some 19, .move, [.t 7], none⟩,
  ⟨some 20, .len, [.t 19], none⟩,
  ⟨some 21, .min, [.t 18, .t 20], none⟩,
  ⟨some 22, .slS 2 false true false, [.t 16, .t 21], none⟩,
  ⟨some 23, .call 31, [.t 22], none⟩,
  ⟨some 6, .move, [.t 23], none⟩] [] [] [6] true [] []
noncomputable def c10_4 : ACode := .seq c10_5 .ret
noncomputable def c10_2 : ACode := .seq c10_3 c10_4
noncomputable def c10_0 : ACode := .seq c10_1 c10_2
noncomputable def code10 : Code := (Try.f10.body).getD .skip
theorem c10_ok : compC Try.prog 24 code10 = some (strip c10_0) := by kernel_rfl
theorem res10_ok : Try.f10.results.toList.mapM (resC Try.prog) = some [(6, none)] := by kernel_rfl
/- (*quidnunc/table.Table[string]).Rank -/
noncomputable def c30_1 : ACode := .region false [⟨some 4, .move, [.c (.val (.int .i64 0))], none⟩] [] [] [0, 1] false [] []
noncomputable def c30_3 : ACode := .region false [⟨some 8, .move, [.t 0], none⟩,
  ⟨some 9, .move, [.t 1], none⟩,
  ⟨some 10, .call 28, [.t 8, .t 9], none⟩,
  ⟨some 7, .move, [.t 10], none⟩,
  ⟨some 11, .ext 0, [.t 7], none⟩,
  ⟨some 12, .ext 1, [.t 7], none⟩,
  ⟨some 5, .move, [.t 11], none⟩,
  ⟨some 6, .move, [.t 12], none⟩] [] [] [5] true [] []
noncomputable def c30_5 : ACode := .region false [⟨some 13, .move, [.t 5], none⟩,
  ⟨some 4, .move, [.t 13], none⟩] [] [] [4] false [] []
noncomputable def c30_4 : ACode := .seq c30_5 .ret
noncomputable def c30_2 : ACode := .seq c30_3 c30_4
noncomputable def c30_0 : ACode := .seq c30_1 c30_2
noncomputable def code30 : Code := (Try.f30.body).getD .skip
theorem c30_ok : compC Try.prog 14 code30 = some (strip c30_0) := by kernel_rfl
theorem res30_ok : Try.f30.results.toList.mapM (resC Try.prog) = some [(4, none)] := by kernel_rfl
/- (*quidnunc/table.Table[string]).Len -/
noncomputable def c11_1 : ACode := .region false [⟨some 2, .move, [.c (.val (.int .i64 0))], none⟩] [] [] [0] false [] []
noncomputable def c11_3 : ACode := .region false [⟨some 3, .move, [.t 0], none⟩,
  ⟨some 4, .nilChk, [.t 3], none⟩,
  ⟨some 5, .addr 1, [.t 4], none⟩,
  ⟨some 6, .load false 1, [.t 5], none⟩,
  ⟨some 7, .len, [.t 6], none⟩,
  ⟨some 2, .move, [.t 7], none⟩] [] [] [2] false [] []
noncomputable def c11_2 : ACode := .seq c11_3 .ret
noncomputable def c11_0 : ACode := .seq c11_1 c11_2
noncomputable def code11 : Code := (Try.f11.body).getD .skip
theorem c11_ok : compC Try.prog 8 code11 = some (strip c11_0) := by kernel_rfl
theorem res11_ok : Try.f11.results.toList.mapM (resC Try.prog) = some [(2, none)] := by kernel_rfl
theorem find_any (t : Tb) (k : ByteArray) (ht : t.ok) : ACall Try.prog 28 [.ptr 0 0, .val (.string k)] [TbR 1 t, .cells true (Rp 0 t.l)] (Det (.tup [I (rankP t.l k), Bo (hasP' t.l k)]) [TbR 1 t, .cells true (Rp 0 t.l)]) := by
  have c := bsf_any 0 t.l k ht.1 ht.2
  have hr := rp_ren 0 t.l
  refine ACall.startA c28_ok Try.func28 rfl Try.ntmps28 (by kernel_rfl) res28_ok rfl rfl rfl ?_; simp (maxSteps := 9999999) (disch := omega) only [go_sem]
  (repeat' (first | refine AWpA.seq ?_ | refine AWpA.block ?_ | (with_reducible refine CondP.tt ?_) | (with_reducible refine CondP.ff ?_) | refine AWpA.condv (by simp (maxSteps := 9999999) (disch := omega) only [go_sem, hr]; rfl) ?_ | ((first | (apply AWpA.region; (focus (simp (maxSteps := 9999999) (disch := omega) only [go_sem, hr]; rfl))) | (apply AWpA.draw [] [] follows; (focus (first | rfl | decide)); (focus (simp (maxSteps := 9999999) (disch := omega) only [go_sem, hr]; rfl)); (focus (simp (maxSteps := 9999999) (disch := omega) only [go_sem, hr]; first | done | trivial)); (focus (simp (maxSteps := 9999999) (disch := omega) only [go_sem, hr]; rfl))) | (apply TailK.go; (focus (simp (maxSteps := 9999999) (disch := omega) only [go_sem, hr]; rfl))) | refine AWpA.skip ?_ | refine AWpA.exit ?_ | refine AWpA.ret ?_ | (with_reducible refine ARoundsA.succ ?_) | ((first | refine Runs.kt (by assumption) (fun h9 => ?_) | refine Runs.kf (by assumption) (fun h9 => ?_) | refine Runs.nt (by assumption) (fun h9 => ?_) | refine Runs.nf (by assumption) (fun h9 => ?_) | refine CondP.ht (by assumption) (fun h9 => ?_) | refine CondP.hf (by assumption) (fun h9 => ?_) | refine CondP.nt (by assumption) (fun h9 => ?_) | refine CondP.nf (by assumption) (fun h9 => ?_)); (try simp only [h9]); clear h9) | ((first | (with_reducible apply CallG.plain1 [1] (c)) | (with_reducible apply CallG.draw1 [1] (c))); (focus ((try refine And.intro (leAs_of_eq rfl) ?_); (try refine And.intro (leOL_of_eq rfl) ?_); simp (maxSteps := 9999999) (disch := omega) only [go_sem, hr]; first | done | (repeat' (first | rfl | (refine And.intro ?_ ?_))))); (focus (simp (maxSteps := 9999999) (disch := omega) only [go_sem, hr]; rfl)))); (try simp (maxSteps := 9999999) (disch := omega) only [go_sem, hr]); (try (refine And.intro ?_ ?_; (focus (first | omega | (simp only [go_sem]; done) | (simp; done) | (simp; omega) | assumption))))) | ((first | refine CondP.split (fun hif => ?_) (fun hif => ?_) | refine Runs.part (fun hif => ?_) (fun hif => ?_)) <;> ((try simp only [hif]); (try simp only [decide_eq_true_eq, decide_eq_false_iff_not, Bool.not_eq_true, Bool.not_eq_false, Bool.not_eq_true', Bool.not_eq_false', beq_iff_eq, bne_iff_ne, bne_eq_false_iff_eq, beq_eq_false_iff_ne, ne_eq, Bool.and_eq_true, Bool.or_eq_true, Bool.or_eq_false_iff] at hif); (try (have h9 : _ = true := hif; simp only [h9])); (try (have h9 : _ = false := hif; simp only [h9])); (try simp (maxSteps := 9999999) (disch := omega) only [go_sem, hr]); (try (refine And.intro ?_ ?_; (focus (first | omega | (simp only [go_sem]; done) | (simp; done) | (simp; omega) | assumption)))); (try (exfalso; omega; done))))))
  (apply Ret.det [0, 1]; (focus (first | exact .inl rfl | exact .inr rfl)); (focus (simp (maxSteps := 9999999) (disch := omega) only [go_sem, hr]; rfl)); (simp (maxSteps := 9999999) (disch := omega) only [go_sem, hr]; (try (repeat' (first | done | trivial | rfl | exact leAs_rfl _ | decide | (refine And.intro ?_ ?_) | (simp; done) | omega | (simp; decide))))))
theorem rank_any (t : Tb) (k : ByteArray) (ht : t.ok) : ACall Try.prog 30 [.ptr 0 0, .val (.string k)] [TbR 1 t, .cells true (Rp 0 t.l)] (Det (I (rankP t.l k)) [TbR 1 t, .cells true (Rp 0 t.l)]) := by
  have c := find_any t k ht
  have hr := rp_ren 0 t.l
  refine ACall.startA c30_ok Try.func30 rfl Try.ntmps30 (by kernel_rfl) res30_ok rfl rfl rfl ?_; simp (maxSteps := 9999999) (disch := omega) only [go_sem]
  (repeat' (first | refine AWpA.seq ?_ | refine AWpA.block ?_ | (with_reducible refine CondP.tt ?_) | (with_reducible refine CondP.ff ?_) | refine AWpA.condv (by simp (maxSteps := 9999999) (disch := omega) only [go_sem, hr]; rfl) ?_ | ((first | (apply AWpA.region; (focus (simp (maxSteps := 9999999) (disch := omega) only [go_sem, hr]; rfl))) | (apply AWpA.draw [] [] follows; (focus (first | rfl | decide)); (focus (simp (maxSteps := 9999999) (disch := omega) only [go_sem, hr]; rfl)); (focus (simp (maxSteps := 9999999) (disch := omega) only [go_sem, hr]; first | done | trivial)); (focus (simp (maxSteps := 9999999) (disch := omega) only [go_sem, hr]; rfl))) | (apply TailK.go; (focus (simp (maxSteps := 9999999) (disch := omega) only [go_sem, hr]; rfl))) | refine AWpA.skip ?_ | refine AWpA.exit ?_ | refine AWpA.ret ?_ | (with_reducible refine ARoundsA.succ ?_) | ((first | refine Runs.kt (by assumption) (fun h9 => ?_) | refine Runs.kf (by assumption) (fun h9 => ?_) | refine Runs.nt (by assumption) (fun h9 => ?_) | refine Runs.nf (by assumption) (fun h9 => ?_) | refine CondP.ht (by assumption) (fun h9 => ?_) | refine CondP.hf (by assumption) (fun h9 => ?_) | refine CondP.nt (by assumption) (fun h9 => ?_) | refine CondP.nf (by assumption) (fun h9 => ?_)); (try simp only [h9]); clear h9) | ((first | (with_reducible apply CallG.plain1 [0, 1] (c)) | (with_reducible apply CallG.draw1 [0, 1] (c))); (focus ((try refine And.intro (leAs_of_eq rfl) ?_); (try refine And.intro (leOL_of_eq rfl) ?_); simp (maxSteps := 9999999) (disch := omega) only [go_sem, hr]; first | done | (repeat' (first | rfl | (refine And.intro ?_ ?_))))); (focus (simp (maxSteps := 9999999) (disch := omega) only [go_sem, hr]; rfl)))); (try simp (maxSteps := 9999999) (disch := omega) only [go_sem, hr]); (try (refine And.intro ?_ ?_; (focus (first | omega | (simp only [go_sem]; done) | (simp; done) | (simp; omega) | assumption))))) | ((first | refine CondP.split (fun hif => ?_) (fun hif => ?_) | refine Runs.part (fun hif => ?_) (fun hif => ?_)) <;> ((try simp only [hif]); (try simp only [decide_eq_true_eq, decide_eq_false_iff_not, Bool.not_eq_true, Bool.not_eq_false, Bool.not_eq_true', Bool.not_eq_false', beq_iff_eq, bne_iff_ne, bne_eq_false_iff_eq, beq_eq_false_iff_ne, ne_eq, Bool.and_eq_true, Bool.or_eq_true, Bool.or_eq_false_iff] at hif); (try (have h9 : _ = true := hif; simp only [h9])); (try (have h9 : _ = false := hif; simp only [h9])); (try simp (maxSteps := 9999999) (disch := omega) only [go_sem, hr]); (try (refine And.intro ?_ ?_; (focus (first | omega | (simp only [go_sem]; done) | (simp; done) | (simp; omega) | assumption)))); (try (exfalso; omega; done))))))
  (apply Ret.det [0, 1]; (focus (first | exact .inl rfl | exact .inr rfl)); (focus (simp (maxSteps := 9999999) (disch := omega) only [go_sem, hr]; rfl)); (simp (maxSteps := 9999999) (disch := omega) only [go_sem, hr]; (try (repeat' (first | done | trivial | rfl | exact leAs_rfl _ | decide | (refine And.intro ?_ ?_) | (simp; done) | omega | (simp; decide))))))
theorem tlen_any (t : Tb) : ACall Try.prog 11 [.ptr 0 0] [TbR 1 t, .cells true (Rp 0 t.l)] (Det (I t.l.length) [TbR 1 t, .cells true (Rp 0 t.l)]) := by
  have hr := rp_ren 0 t.l
  refine ACall.startA c11_ok Try.func11 rfl Try.ntmps11 (by kernel_rfl) res11_ok rfl rfl rfl ?_; simp (maxSteps := 9999999) (disch := omega) only [go_sem]
  (repeat' (first | refine AWpA.seq ?_ | refine AWpA.block ?_ | (with_reducible refine CondP.tt ?_) | (with_reducible refine CondP.ff ?_) | refine AWpA.condv (by simp (maxSteps := 9999999) (disch := omega) only [go_sem, hr]; rfl) ?_ | ((first | (apply AWpA.region; (focus (simp (maxSteps := 9999999) (disch := omega) only [go_sem, hr]; rfl))) | (apply AWpA.draw [] [] follows; (focus (first | rfl | decide)); (focus (simp (maxSteps := 9999999) (disch := omega) only [go_sem, hr]; rfl)); (focus (simp (maxSteps := 9999999) (disch := omega) only [go_sem, hr]; first | done | trivial)); (focus (simp (maxSteps := 9999999) (disch := omega) only [go_sem, hr]; rfl))) | (apply TailK.go; (focus (simp (maxSteps := 9999999) (disch := omega) only [go_sem, hr]; rfl))) | refine AWpA.skip ?_ | refine AWpA.exit ?_ | refine AWpA.ret ?_ | (with_reducible refine ARoundsA.succ ?_) | ((first | refine Runs.kt (by assumption) (fun h9 => ?_) | refine Runs.kf (by assumption) (fun h9 => ?_) | refine Runs.nt (by assumption) (fun h9 => ?_) | refine Runs.nf (by assumption) (fun h9 => ?_) | refine CondP.ht (by assumption) (fun h9 => ?_) | refine CondP.hf (by assumption) (fun h9 => ?_) | refine CondP.nt (by assumption) (fun h9 => ?_) | refine CondP.nf (by assumption) (fun h9 => ?_)); (try simp only [h9]); clear h9)); (try simp (maxSteps := 9999999) (disch := omega) only [go_sem, hr]); (try (refine And.intro ?_ ?_; (focus (first | omega | (simp only [go_sem]; done) | (simp; done) | (simp; omega) | assumption))))) | ((first | refine CondP.split (fun hif => ?_) (fun hif => ?_) | refine Runs.part (fun hif => ?_) (fun hif => ?_)) <;> ((try simp only [hif]); (try simp only [decide_eq_true_eq, decide_eq_false_iff_not, Bool.not_eq_true, Bool.not_eq_false, Bool.not_eq_true', Bool.not_eq_false', beq_iff_eq, bne_iff_ne, bne_eq_false_iff_eq, beq_eq_false_iff_ne, ne_eq, Bool.and_eq_true, Bool.or_eq_true, Bool.or_eq_false_iff] at hif); (try (have h9 : _ = true := hif; simp only [h9])); (try (have h9 : _ = false := hif; simp only [h9])); (try simp (maxSteps := 9999999) (disch := omega) only [go_sem, hr]); (try (refine And.intro ?_ ?_; (focus (first | omega | (simp only [go_sem]; done) | (simp; done) | (simp; omega) | assumption)))); (try (exfalso; omega; done))))))
  (apply Ret.det [0, 1]; (focus (first | exact .inl rfl | exact .inr rfl)); (focus (simp (maxSteps := 9999999) (disch := omega) only [go_sem, hr]; rfl)); (simp (maxSteps := 9999999) (disch := omega) only [go_sem, hr]; (try (repeat' (first | done | trivial | rfl | exact leAs_rfl _ | decide | (refine And.intro ?_ ?_) | (simp; done) | omega | (simp; decide))))))
theorem hasP_lt {l : List Pi} {k : ByteArray} (h : hasP' l k = true) : rankP l k < l.length := by
  unfold hasP' at h
  split at h
  · rename_i p hp; exact (List.getElem?_eq_some_iff.1 hp).1
  · cases h
/-- Out of the table. -/
def dropP (l : List Pi) (k : ByteArray) : List Pi := match hasP' l k with | true => l.take (rankP l k) ++ l.drop (rankP l k + 1) | false => l
theorem hasP_key {l : List Pi} {k : ByteArray} (h : hasP' l k = true) : (l[rankP l k]'(hasP_lt h)).key = k := by
  have hl := hasP_lt h
  unfold hasP' at h
  rw [List.getElem?_eq_getElem hl] at h
  exact of_decide_eq_true h
/-- Into the table. -/
def putP (l : List Pi) (k : ByteArray) (v : ByteArray) : List Pi := match hasP' l k with | true => l.take (rankP l k) ++ ⟨k, v⟩ :: l.drop (rankP l k + 1) | false => l.take (rankP l k) ++ ⟨k, v⟩ :: l.drop (rankP l k)
def putT (t : Tb) (k : ByteArray) (v : ByteArray) : Tb := match !hasP' t.l k && decide ((t.l.length : Int) = t.room) with | true => t | false => ⟨t.room, putP t.l k v⟩
def putE (t : Tb) (k : ByteArray) : Int := match !hasP' t.l k && decide ((t.l.length : Int) = t.room) with | true => 7 | false => 0
theorem tput_any (t : Tb) (k : ByteArray) (v : ByteArray) (ht : t.ok) : ACall Try.prog 9 [.ptr 0 0, .val (.string k), AV.val (Value.string v)] [TbO 1 t, .cells false (Rp 0 t.l)] (Det (I (putE t k)) [TbO 2 (putT t k v), .gone, .cells false (Rp 0 (putT t k v).l)]) := by
  have c := find_any t k ht
  have hr := rp_ren 0
  have hlen := rp_len 0
  have hle := ht.2
  have hrk := rankP_le t.l k
  cases hh : hasP' t.l k with
  | true =>
    have hlt := hasP_lt hh
    have he : putE t k = 0 := by unfold putE; rw [hh]; rfl
    have hp : putT t k v = ⟨t.room, t.l.take (rankP t.l k) ++ ⟨k, v⟩ :: t.l.drop (rankP t.l k + 1)⟩ := by unfold putT putP; rw [hh]; rfl
    have hw := rp_putv t.l (rankP t.l k) hlt v
    rw [hasP_key hh] at hw
    have hl : (t.l.take (rankP t.l k) ++ (⟨k, v⟩ : Pi) :: t.l.drop (rankP t.l k + 1)).length = t.l.length := by simp; omega
    rw [hh] at c
    rw [he, hp]
    generalize t.l.take (rankP t.l k) ++ (⟨k, v⟩ : Pi) :: t.l.drop (rankP t.l k + 1) = l' at *
    clear hp he hh
    generalize rankP t.l k = r at *
    refine ACall.startA c9_ok Try.func9 rfl Try.ntmps9 (by kernel_rfl) res9_ok rfl rfl rfl ?_; simp (maxSteps := 9999999) (disch := omega) only [go_sem]
    (repeat' (first | refine AWpA.seq ?_ | refine AWpA.block ?_ | (with_reducible refine CondP.tt ?_) | (with_reducible refine CondP.ff ?_) | refine AWpA.condv (by simp (maxSteps := 9999999) (disch := omega) only [go_sem, hr, hlen, hw]; rfl) ?_ | ((first | (apply AWpA.region; (focus (simp (maxSteps := 9999999) (disch := omega) only [go_sem, hr, hlen, hw]; rfl))) | (apply AWpA.draw [] [] follows; (focus (first | rfl | decide)); (focus (simp (maxSteps := 9999999) (disch := omega) only [go_sem, hr, hlen, hw]; rfl)); (focus (simp (maxSteps := 9999999) (disch := omega) only [go_sem, hr, hlen, hw]; first | done | trivial)); (focus (simp (maxSteps := 9999999) (disch := omega) only [go_sem, hr, hlen, hw]; rfl))) | (apply TailK.go; (focus (simp (maxSteps := 9999999) (disch := omega) only [go_sem, hr, hlen, hw]; rfl))) | refine AWpA.skip ?_ | refine AWpA.exit ?_ | refine AWpA.ret ?_ | (with_reducible refine ARoundsA.succ ?_) | ((first | refine Runs.kt (by assumption) (fun h9 => ?_) | refine Runs.kf (by assumption) (fun h9 => ?_) | refine Runs.nt (by assumption) (fun h9 => ?_) | refine Runs.nf (by assumption) (fun h9 => ?_) | refine CondP.ht (by assumption) (fun h9 => ?_) | refine CondP.hf (by assumption) (fun h9 => ?_) | refine CondP.nt (by assumption) (fun h9 => ?_) | refine CondP.nf (by assumption) (fun h9 => ?_)); (try simp only [h9]); clear h9) | ((first | (with_reducible apply CallG.plain1 [0, 1] (c)) | (with_reducible apply CallG.draw1 [0, 1] (c))); (focus ((try refine And.intro (leAs_of_eq rfl) ?_); (try refine And.intro (leOL_of_eq rfl) ?_); simp (maxSteps := 9999999) (disch := omega) only [go_sem, hr, hlen, hw]; first | done | (repeat' (first | rfl | (refine And.intro ?_ ?_))))); (focus (simp (maxSteps := 9999999) (disch := omega) only [go_sem, hr, hlen, hw]; rfl)))); (try simp (maxSteps := 9999999) (disch := omega) only [go_sem, hr, hlen, hw]); (try (refine And.intro ?_ ?_; (focus (first | omega | (simp only [go_sem]; done) | (simp; done) | (simp; omega) | assumption))))) | ((first | refine CondP.split (fun hif => ?_) (fun hif => ?_) | refine Runs.part (fun hif => ?_) (fun hif => ?_)) <;> ((try simp only [hif]); (try simp only [decide_eq_true_eq, decide_eq_false_iff_not, Bool.not_eq_true, Bool.not_eq_false, Bool.not_eq_true', Bool.not_eq_false', beq_iff_eq, bne_iff_ne, bne_eq_false_iff_eq, beq_eq_false_iff_ne, ne_eq, Bool.and_eq_true, Bool.or_eq_true, Bool.or_eq_false_iff] at hif); (try (have h9 : _ = true := hif; simp only [h9])); (try (have h9 : _ = false := hif; simp only [h9])); (try simp (maxSteps := 9999999) (disch := omega) only [go_sem, hr, hlen, hw]); (try (refine And.intro ?_ ?_; (focus (first | omega | (simp only [go_sem]; done) | (simp; done) | (simp; omega) | assumption)))); (try (exfalso; omega; done))))))
    (apply Ret.det [0, 1, 1]; (focus (first | exact .inl rfl | exact .inr rfl)); (focus (simp (maxSteps := 9999999) (disch := omega) only [go_sem, hr, hl]; rfl)); (simp (maxSteps := 9999999) (disch := omega) only [go_sem, hr, hl]; (try (repeat' (first | done | trivial | rfl | exact leAs_rfl _ | decide | (refine And.intro ?_ ?_) | (simp; done) | omega | (simp; decide))))))
  | false =>
    by_cases hf : (t.l.length : Int) = t.room
    · have he : putE t k = 7 := by unfold putE; rw [hh, decide_eq_true hf]; rfl
      have hp : putT t k v = t := by unfold putT; rw [hh, decide_eq_true hf]; rfl
      rw [hh] at c
      rw [he, hp]
      clear hp he hh
      generalize rankP t.l k = r at *
      refine ACall.startA c9_ok Try.func9 rfl Try.ntmps9 (by kernel_rfl) res9_ok rfl rfl rfl ?_; simp (maxSteps := 9999999) (disch := omega) only [go_sem]
      (repeat' (first | refine AWpA.seq ?_ | refine AWpA.block ?_ | (with_reducible refine CondP.tt ?_) | (with_reducible refine CondP.ff ?_) | refine AWpA.condv (by simp (maxSteps := 9999999) (disch := omega) only [go_sem, hr, hlen, hf]; rfl) ?_ | ((first | (apply AWpA.region; (focus (simp (maxSteps := 9999999) (disch := omega) only [go_sem, hr, hlen, hf]; rfl))) | (apply AWpA.draw [] [] follows; (focus (first | rfl | decide)); (focus (simp (maxSteps := 9999999) (disch := omega) only [go_sem, hr, hlen, hf]; rfl)); (focus (simp (maxSteps := 9999999) (disch := omega) only [go_sem, hr, hlen, hf]; first | done | trivial)); (focus (simp (maxSteps := 9999999) (disch := omega) only [go_sem, hr, hlen, hf]; rfl))) | (apply TailK.go; (focus (simp (maxSteps := 9999999) (disch := omega) only [go_sem, hr, hlen, hf]; rfl))) | refine AWpA.skip ?_ | refine AWpA.exit ?_ | refine AWpA.ret ?_ | (with_reducible refine ARoundsA.succ ?_) | ((first | refine Runs.kt (by assumption) (fun h9 => ?_) | refine Runs.kf (by assumption) (fun h9 => ?_) | refine Runs.nt (by assumption) (fun h9 => ?_) | refine Runs.nf (by assumption) (fun h9 => ?_) | refine CondP.ht (by assumption) (fun h9 => ?_) | refine CondP.hf (by assumption) (fun h9 => ?_) | refine CondP.nt (by assumption) (fun h9 => ?_) | refine CondP.nf (by assumption) (fun h9 => ?_)); (try simp only [h9]); clear h9) | ((first | (with_reducible apply CallG.plain1 [0, 1] (c)) | (with_reducible apply CallG.draw1 [0, 1] (c))); (focus ((try refine And.intro (leAs_of_eq rfl) ?_); (try refine And.intro (leOL_of_eq rfl) ?_); simp (maxSteps := 9999999) (disch := omega) only [go_sem, hr, hlen, hf]; first | done | (repeat' (first | rfl | (refine And.intro ?_ ?_))))); (focus (simp (maxSteps := 9999999) (disch := omega) only [go_sem, hr, hlen, hf]; rfl)))); (try simp (maxSteps := 9999999) (disch := omega) only [go_sem, hr, hlen, hf]); (try (refine And.intro ?_ ?_; (focus (first | omega | (simp only [go_sem]; done) | (simp; done) | (simp; omega) | assumption))))) | ((first | refine CondP.split (fun hif => ?_) (fun hif => ?_) | refine Runs.part (fun hif => ?_) (fun hif => ?_)) <;> ((try simp only [hif]); (try simp only [decide_eq_true_eq, decide_eq_false_iff_not, Bool.not_eq_true, Bool.not_eq_false, Bool.not_eq_true', Bool.not_eq_false', beq_iff_eq, bne_iff_ne, bne_eq_false_iff_eq, beq_eq_false_iff_ne, ne_eq, Bool.and_eq_true, Bool.or_eq_true, Bool.or_eq_false_iff] at hif); (try (have h9 : _ = true := hif; simp only [h9])); (try (have h9 : _ = false := hif; simp only [h9])); (try simp (maxSteps := 9999999) (disch := omega) only [go_sem, hr, hlen, hf]); (try (refine And.intro ?_ ?_; (focus (first | omega | (simp only [go_sem]; done) | (simp; done) | (simp; omega) | assumption)))); (try (exfalso; omega; done))))))
      (apply Ret.det [0, 1, 1]; (focus (first | exact .inl rfl | exact .inr rfl)); (focus (simp (maxSteps := 9999999) (disch := omega) only [go_sem, hr]; rfl)); (simp (maxSteps := 9999999) (disch := omega) only [go_sem, hr]; (try (repeat' (first | done | trivial | rfl | exact leAs_rfl _ | decide | (refine And.intro ?_ ?_) | (simp; done) | omega | (simp; decide))))))
    · have he : putE t k = 0 := by unfold putE; rw [hh, decide_eq_false hf]; rfl
      have hp : putT t k v = ⟨t.room, t.l.take (rankP t.l k) ++ ⟨k, v⟩ :: t.l.drop (rankP t.l k)⟩ := by unfold putT putP; rw [hh, decide_eq_false hf]; rfl
      have d := insert_any t.l (rankP t.l k) ⟨k, v⟩ hrk ht.2
      have hl : (t.l.take (rankP t.l k) ++ (⟨k, v⟩ : Pi) :: t.l.drop (rankP t.l k)).length = t.l.length + 1 := by simp; omega
      have hf' : ((t.l.length : Int) = t.room) = False := eq_false hf
      rw [hh] at c
      rw [he, hp]
      generalize t.l.take (rankP t.l k) ++ (⟨k, v⟩ : Pi) :: t.l.drop (rankP t.l k) = l' at *
      clear hp he hh hf
      generalize rankP t.l k = r at *
      refine ACall.startA c9_ok Try.func9 rfl Try.ntmps9 (by kernel_rfl) res9_ok rfl rfl rfl ?_; simp (maxSteps := 9999999) (disch := omega) only [go_sem]
      (repeat' (first | refine AWpA.seq ?_ | refine AWpA.block ?_ | (with_reducible refine CondP.tt ?_) | (with_reducible refine CondP.ff ?_) | refine AWpA.condv (by simp (maxSteps := 9999999) (disch := omega) only [go_sem, hr, hlen, hf']; rfl) ?_ | ((first | (apply AWpA.region; (focus (simp (maxSteps := 9999999) (disch := omega) only [go_sem, hr, hlen, hf']; rfl))) | (apply AWpA.draw [] [] follows; (focus (first | rfl | decide)); (focus (simp (maxSteps := 9999999) (disch := omega) only [go_sem, hr, hlen, hf']; rfl)); (focus (simp (maxSteps := 9999999) (disch := omega) only [go_sem, hr, hlen, hf']; first | done | trivial)); (focus (simp (maxSteps := 9999999) (disch := omega) only [go_sem, hr, hlen, hf']; rfl))) | (apply TailK.go; (focus (simp (maxSteps := 9999999) (disch := omega) only [go_sem, hr, hlen, hf']; rfl))) | refine AWpA.skip ?_ | refine AWpA.exit ?_ | refine AWpA.ret ?_ | (with_reducible refine ARoundsA.succ ?_) | ((first | refine Runs.kt (by assumption) (fun h9 => ?_) | refine Runs.kf (by assumption) (fun h9 => ?_) | refine Runs.nt (by assumption) (fun h9 => ?_) | refine Runs.nf (by assumption) (fun h9 => ?_) | refine CondP.ht (by assumption) (fun h9 => ?_) | refine CondP.hf (by assumption) (fun h9 => ?_) | refine CondP.nt (by assumption) (fun h9 => ?_) | refine CondP.nf (by assumption) (fun h9 => ?_)); (try simp only [h9]); clear h9) | ((first | (with_reducible apply CallG.plain1 [0, 1] (c)) | (with_reducible apply CallG.draw1 [0, 1] (c))); (focus ((try refine And.intro (leAs_of_eq rfl) ?_); (try refine And.intro (leOL_of_eq rfl) ?_); simp (maxSteps := 9999999) (disch := omega) only [go_sem, hr, hlen, hf']; first | done | (repeat' (first | rfl | (refine And.intro ?_ ?_))))); (focus (simp (maxSteps := 9999999) (disch := omega) only [go_sem, hr, hlen, hf']; rfl))) | ((first | (with_reducible apply CallG.plain1 [1, 498] (d)) | (with_reducible apply CallG.draw1 [1, 498] (d))); (focus ((try refine And.intro (leAs_of_eq rfl) ?_); (try refine And.intro (leOL_of_eq rfl) ?_); simp (maxSteps := 9999999) (disch := omega) only [go_sem, hr, hlen, hf']; first | done | (repeat' (first | rfl | (refine And.intro ?_ ?_))))); (focus (simp (maxSteps := 9999999) (disch := omega) only [go_sem, hr, hlen, hf']; rfl)))); (try simp (maxSteps := 9999999) (disch := omega) only [go_sem, hr, hlen, hf']); (try (refine And.intro ?_ ?_; (focus (first | omega | (simp only [go_sem]; done) | (simp; done) | (simp; omega) | assumption))))) | ((first | refine CondP.split (fun hif => ?_) (fun hif => ?_) | refine Runs.part (fun hif => ?_) (fun hif => ?_)) <;> ((try simp only [hif]); (try simp only [decide_eq_true_eq, decide_eq_false_iff_not, Bool.not_eq_true, Bool.not_eq_false, Bool.not_eq_true', Bool.not_eq_false', beq_iff_eq, bne_iff_ne, bne_eq_false_iff_eq, beq_eq_false_iff_ne, ne_eq, Bool.and_eq_true, Bool.or_eq_true, Bool.or_eq_false_iff] at hif); (try (have h9 : _ = true := hif; simp only [h9])); (try (have h9 : _ = false := hif; simp only [h9])); (try simp (maxSteps := 9999999) (disch := omega) only [go_sem, hr, hlen, hf']); (try (refine And.intro ?_ ?_; (focus (first | omega | (simp only [go_sem]; done) | (simp; done) | (simp; omega) | assumption)))); (try (exfalso; omega; done))))))
      · exact absurd (by assumption) (of_eq_false hf')
      (apply Ret.det [0, 1, 514]; (focus (first | exact .inl rfl | exact .inr rfl)); (focus (simp (maxSteps := 9999999) (disch := omega) only [go_sem, hr, hl]; rfl)); (simp (maxSteps := 9999999) (disch := omega) only [go_sem, hr, hl]; (try (repeat' (first | done | trivial | rfl | exact leAs_rfl _ | decide | (refine And.intro ?_ ?_) | (simp; done) | omega | (simp; decide))))))
/-- From a key on, at most so many. -/
def scanP (l : List Pi) (k : ByteArray) (n : Int) : List Pi := (l.drop (rankP l k)).take (min (max n 0).toNat (l.length - rankP l k))
theorem tscan_any (t : Tb) (k : ByteArray) (n : Int) (ht : t.ok) : ACall Try.prog 10 [.ptr 0 0, .val (.string k), I n] [TbR 1 t, .cells true (Rp 0 t.l)] (Det (.sl 2 0 (scanP t.l k n).length 2 none) [TbR 1 t, .cells true (Rp 0 t.l), .cells false (Rp 0 (scanP t.l k n))]) := by
  have c := rank_any t k ht
  have hr := rp_ren 0
  have hlen := rp_len 0 t.l
  have hle := ht.2
  have hrk := rankP_le t.l k
  obtain ⟨m, hm⟩ : ∃ m, m = min (max n 0).toNat (t.l.length - rankP t.l k) := ⟨_, rfl⟩
  have hml : m ≤ t.l.length - rankP t.l k := by omega
  have hsl : (scanP t.l k n).length = m := by unfold scanP; rw [← hm]; simp; omega
  have hseg : List.take ((scanP t.l k n).length * 2) (List.drop (rankP t.l k * 2) (Rp 0 t.l)) = Rp 0 (scanP t.l k n) := by
    rw [rp_drop t.l (rankP t.l k) rfl hrk, hsl]
    unfold scanP
    rw [← hm]
    exact rp_take _ m rfl (by simp; omega)
  have d := clonep_any (Rp 0 t.l) (rankP t.l k * 2) (scanP t.l k n) (by omega) (hr _) (by omega) hseg
  generalize scanP t.l k n = l' at *
  generalize rankP t.l k = r at *
  rw [hsl] at d ⊢
  have hmm : (if ((t.l.length - r : Nat) : Int) < (if n < 0 then 0 else n) then ((t.l.length - r : Nat) : Int) else (if n < 0 then 0 else n)) = (m : Int) := by (repeat' split) <;> omega
  refine ACall.startA c10_ok Try.func10 rfl Try.ntmps10 (by kernel_rfl) res10_ok rfl rfl rfl ?_; simp (maxSteps := 9999999) (disch := omega) only [go_sem]
  (repeat' (first | refine AWpA.seq ?_ | refine AWpA.block ?_ | (with_reducible refine CondP.tt ?_) | (with_reducible refine CondP.ff ?_) | refine AWpA.condv (by simp (maxSteps := 9999999) (disch := omega) only [go_sem, hr, hlen, hmm]; rfl) ?_ | ((first | (apply AWpA.region; (focus (simp (maxSteps := 9999999) (disch := omega) only [go_sem, hr, hlen, hmm]; rfl))) | (apply AWpA.draw [] [] follows; (focus (first | rfl | decide)); (focus (simp (maxSteps := 9999999) (disch := omega) only [go_sem, hr, hlen, hmm]; rfl)); (focus (simp (maxSteps := 9999999) (disch := omega) only [go_sem, hr, hlen, hmm]; first | done | trivial)); (focus (simp (maxSteps := 9999999) (disch := omega) only [go_sem, hr, hlen, hmm]; rfl))) | (apply TailK.go; (focus (simp (maxSteps := 9999999) (disch := omega) only [go_sem, hr, hlen, hmm]; rfl))) | refine AWpA.skip ?_ | refine AWpA.exit ?_ | refine AWpA.ret ?_ | (with_reducible refine ARoundsA.succ ?_) | ((first | refine Runs.kt (by assumption) (fun h9 => ?_) | refine Runs.kf (by assumption) (fun h9 => ?_) | refine Runs.nt (by assumption) (fun h9 => ?_) | refine Runs.nf (by assumption) (fun h9 => ?_) | refine CondP.ht (by assumption) (fun h9 => ?_) | refine CondP.hf (by assumption) (fun h9 => ?_) | refine CondP.nt (by assumption) (fun h9 => ?_) | refine CondP.nf (by assumption) (fun h9 => ?_)); (try simp only [h9]); clear h9) | ((first | (with_reducible apply CallG.plain1 [0, 1] (c)) | (with_reducible apply CallG.draw1 [0, 1] (c))); (focus ((try refine And.intro (leAs_of_eq rfl) ?_); (try refine And.intro (leOL_of_eq rfl) ?_); simp (maxSteps := 9999999) (disch := omega) only [go_sem, hr, hlen, hmm]; first | done | (repeat' (first | rfl | (refine And.intro ?_ ?_))))); (focus (simp (maxSteps := 9999999) (disch := omega) only [go_sem, hr, hlen, hmm]; rfl))) | ((first | (with_reducible apply CallG.plain1 [1] (d)) | (with_reducible apply CallG.draw1 [1] (d))); (focus ((try refine And.intro (leAs_of_eq rfl) ?_); (try refine And.intro (leOL_of_eq rfl) ?_); simp (maxSteps := 9999999) (disch := omega) only [go_sem, hr, hlen, hmm]; first | done | (repeat' (first | rfl | (refine And.intro ?_ ?_))))); (focus (simp (maxSteps := 9999999) (disch := omega) only [go_sem, hr, hlen, hmm]; rfl)))); (try simp (maxSteps := 9999999) (disch := omega) only [go_sem, hr, hlen, hmm]); (try (refine And.intro ?_ ?_; (focus (first | omega | (simp only [go_sem]; done) | (simp; done) | (simp; omega) | assumption))))) | ((first | refine CondP.split (fun hif => ?_) (fun hif => ?_) | refine Runs.part (fun hif => ?_) (fun hif => ?_)) <;> ((try simp only [hif]); (try simp only [decide_eq_true_eq, decide_eq_false_iff_not, Bool.not_eq_true, Bool.not_eq_false, Bool.not_eq_true', Bool.not_eq_false', beq_iff_eq, bne_iff_ne, bne_eq_false_iff_eq, beq_eq_false_iff_ne, ne_eq, Bool.and_eq_true, Bool.or_eq_true, Bool.or_eq_false_iff] at hif); (try (have h9 : _ = true := hif; simp only [h9])); (try (have h9 : _ = false := hif; simp only [h9])); (try simp (maxSteps := 9999999) (disch := omega) only [go_sem, hr, hlen, hmm]); (try (refine And.intro ?_ ?_; (focus (first | omega | (simp only [go_sem]; done) | (simp; done) | (simp; omega) | assumption)))); (try (exfalso; omega; done))))))
  (apply Ret.det [0, 1, 274]; (focus (first | exact .inl rfl | exact .inr rfl)); (focus (simp (maxSteps := 9999999) (disch := omega) only [go_sem, hr, hsl]; rfl)); (simp (maxSteps := 9999999) (disch := omega) only [go_sem, hr, hsl]; (try (repeat' (first | done | trivial | rfl | exact leAs_rfl _ | decide | (refine And.intro ?_ ?_) | (simp; done) | omega | (simp; decide))))))
end Go.Proofs.Ytodnlihbmgigjaa.Us
