/- Contracts: a reader. -/
import Derived.Test.YthbpdmlbfnjoiaaAo5
namespace Go.Proofs.Ythbpdmlbfnjoiaa
set_option linter.unusedSimpArgs false
set_option linter.unusedVariables false
set_option maxHeartbeats 4000000
open Go Go.Am
set_option maxRecDepth 100000
/- quidnunc/octets.Read -/
noncomputable def c46_1 : ACode := .region false [⟨some 2, .move, [.c (.val (.pointer none))], none⟩] [] [] [0] false [] []
noncomputable def c46_3 : ACode := .region false [⟨some 3, .move, [.t 0], none⟩,
  ⟨some 4, .call 65, [.t 3], none⟩,
  ⟨some 5, .build [(.int .i64 0), (.slice none 0 0)] [(1, 1)], [.t 4], none⟩,
  ⟨some 6, .box 0, [.t 5], none⟩,
  ⟨some 2, .move, [.t 6], none⟩] [] [] [2] true [] []
noncomputable def c46_2 : ACode := .seq c46_3 .ret
noncomputable def c46_0 : ACode := .seq c46_1 c46_2
noncomputable def code46 : Code := (Try.f46.body).getD .skip
theorem c46_ok : compC Try.prog 7 code46 = some (strip c46_0) := by kernel_rfl
theorem res46_ok : Try.f46.results.toList.mapM (resC Try.prog) = some [(2, none)] := by kernel_rfl
/- (*quidnunc/octets.Reader).has -/
noncomputable def c70_1 : ACode := .region false [⟨some 4, .move, [.c (.val (.bool false))], none⟩] [] [] [0, 1] false [] []
noncomputable def c70_4 : ACode := .region false [⟨some 5, .move, [.t 1], none⟩,
  ⟨some 6, .move, [.t 0], none⟩,
  ⟨some 7, .nilChk, [.t 6], none⟩,
  ⟨some 8, .addr 1, [.t 7], none⟩,
  ⟨some 9, .load false 1, [.t 8], none⟩,
  ⟨some 10, .len, [.t 9], none⟩,
  ⟨some 11, .bin .gtr, [.t 5, .t 10], none⟩] [] [] [0, 11] false [] []
noncomputable def c70_6 : ACode := .region false [⟨some 12, .move, [.t 0], none⟩,
  ⟨some 13, .nilChk, [.t 12], none⟩,
  ⟨some 14, .addr 0, [.t 13], none⟩,
  ⟨some 15, .call 69, [.t 14, .c (.val (.int .i64 6))], none⟩] [] [] [0] true [] []
noncomputable def c70_5 : ACode := .cond (.t 11) c70_6 .skip
noncomputable def c70_3 : ACode := .seq c70_4 c70_5
noncomputable def c70_8 : ACode := .region false [⟨some 16, .move, [.t 0], none⟩,
  ⟨some 17, .nilChk, [.t 16], none⟩,
  ⟨some 18, .addr 0, [.t 17], none⟩,
  ⟨some 19, .addr 0, [.t 18], none⟩,
  ⟨some 20, .load false 1, [.t 19], none⟩,
  ⟨some 21, .bin .eql, [.t 20, .c (.val (.int .i64 0))], none⟩,
  ⟨some 4, .move, [.t 21], none⟩] [] [] [4] false [] []
noncomputable def c70_7 : ACode := .seq c70_8 .ret
noncomputable def c70_2 : ACode := .seq c70_3 c70_7
noncomputable def c70_0 : ACode := .seq c70_1 c70_2
noncomputable def code70 : Code := (Try.f70.body).getD .skip
theorem c70_ok : compC Try.prog 22 code70 = some (strip c70_0) := by kernel_rfl
theorem res70_ok : Try.f70.results.toList.mapM (resC Try.prog) = some [(4, none)] := by kernel_rfl
/- (*quidnunc/octets.Reader).take -/
noncomputable def c71_1 : ACode := .region false [⟨some 4, .move, [.c (.val (.slice none 0 0))], none⟩] [] [] [0, 1] false [] []
noncomputable def c71_3 : ACode := .region false [⟨some 6, .move, [.t 0], none⟩,
  ⟨some 7, .nilChk, [.t 6], none⟩,
  ⟨some 8, .addr 1, [.t 7], none⟩,
  ⟨some 9, .load false 1, [.t 8], none⟩,
  ⟨some 10, .move, [.t 1], none⟩,
  ⟨some 11, .slS 1 false true false, [.t 9, .t 10], none⟩,
  ⟨some 12, .call 65, [.t 11], none⟩,
  ⟨some 5, .move, [.t 12], none⟩] [] [] [0, 1, 5] true [] []
noncomputable def c71_5 : ACode := .region false [⟨some 13, .move, [.t 0], none⟩,
  ⟨some 14, .move, [.t 0], none⟩,
  ⟨some 15, .nilChk, [.t 14], none⟩,
  ⟨some 16, .addr 1, [.t 15], none⟩,
  ⟨some 17, .load false 1, [.t 16], none⟩,
  ⟨some 18, .move, [.t 1], none⟩,
  ⟨some 19, .slS 1 true false false, [.t 17, .t 18], none⟩,
  ⟨some 20, .nilChk, [.t 13], none⟩,
  ⟨some 21, .addr 1, [.t 20], none⟩,
  ⟨none, .store 1, [.t 21, .t 19], none⟩] [] [] [5] true [] []
noncomputable def c71_7 : ACode := .region false [⟨some 22, .move, [.t 5], none⟩,
  ⟨some 4, .move, [.t 22], none⟩] [] [] [4] false [] []
noncomputable def c71_6 : ACode := .seq c71_7 .ret
noncomputable def c71_4 : ACode := .seq c71_5 c71_6
noncomputable def c71_2 : ACode := .seq c71_3 c71_4
noncomputable def c71_0 : ACode := .seq c71_1 c71_2
noncomputable def code71 : Code := (Try.f71.body).getD .skip
theorem c71_ok : compC Try.prog 23 code71 = some (strip c71_0) := by kernel_rfl
theorem res71_ok : Try.f71.results.toList.mapM (resC Try.prog) = some [(4, none)] := by kernel_rfl
/- (*quidnunc/octets.Reader).Raw -/
noncomputable def c48_1 : ACode := .region false [⟨some 4, .move, [.c (.val (.slice none 0 0))], none⟩] [] [] [0, 1] false [] []
noncomputable def c48_4 : ACode := .region false [⟨some 5, .move, [.t 1], none⟩,
  ⟨some 6, .bin .lss, [.t 5, .c (.val (.int .i64 0))], none⟩] [] [] [0, 1, 6] false [] []
noncomputable def c48_7 : ACode := .region false [⟨some 7, .move, [.t 0], none⟩,
  ⟨some 8, .nilChk, [.t 7], none⟩,
  ⟨some 9, .addr 0, [.t 8], none⟩,
  ⟨some 10, .call 69, [.t 9, .c (.val (.int .i64 1))], none⟩] [] [] [] true [] []
noncomputable def c48_9 : ACode := .region false [⟨some 4, .move, [.c (.val (.slice none 0 0))], none⟩] [] [] [4] false [] []
noncomputable def c48_8 : ACode := .seq c48_9 .ret
noncomputable def c48_6 : ACode := .seq c48_7 c48_8
noncomputable def c48_5 : ACode := .cond (.t 6) c48_6 .skip
noncomputable def c48_3 : ACode := .seq c48_4 c48_5
noncomputable def c48_12 : ACode := .region false [⟨some 11, .move, [.t 0], none⟩,
  ⟨some 12, .move, [.t 1], none⟩,
  ⟨some 13, .call 70, [.t 11, .t 12], none⟩,
  ⟨some 14, .un .not, [.t 13], none⟩] [] [] [0, 1, 14] true [] []
noncomputable def c48_15 : ACode := .region false [⟨some 4, .move, [.c (.val (.slice none 0 0))], none⟩] [] [] [4] false [] []
noncomputable def c48_14 : ACode := .seq c48_15 .ret
noncomputable def c48_13 : ACode := .cond (.t 14) c48_14 .skip
noncomputable def c48_11 : ACode := .seq c48_12 c48_13
noncomputable def c48_17 : ACode := .region false [⟨some 15, .move, [.t 0], none⟩,
  ⟨some 16, .move, [.t 1], none⟩,
  ⟨some 17, .call 71, [.t 15, .t 16], none⟩,
  ⟨some 4, .move, [.t 17], none⟩] [] [] [4] true [] []
noncomputable def c48_16 : ACode := .seq c48_17 .ret
noncomputable def c48_10 : ACode := .seq c48_11 c48_16
noncomputable def c48_2 : ACode := .seq c48_3 c48_10
noncomputable def c48_0 : ACode := .seq c48_1 c48_2
noncomputable def code48 : Code := (Try.f48.body).getD .skip
theorem c48_ok : compC Try.prog 18 code48 = some (strip c48_0) := by kernel_rfl
theorem res48_ok : Try.f48.results.toList.mapM (resC Try.prog) = some [(4, none)] := by kernel_rfl
/- (*quidnunc/octets.Reader).Left -/
noncomputable def c49_1 : ACode := .region false [⟨some 2, .move, [.c (.val (.int .i64 0))], none⟩] [] [] [0] false [] []
noncomputable def c49_3 : ACode := .region false [⟨some 3, .move, [.t 0], none⟩,
  ⟨some 4, .nilChk, [.t 3], none⟩,
  ⟨some 5, .addr 1, [.t 4], none⟩,
  ⟨some 6, .load false 1, [.t 5], none⟩,
  ⟨some 7, .len, [.t 6], none⟩,
  ⟨some 2, .move, [.t 7], none⟩] [] [] [2] false [] []
noncomputable def c49_2 : ACode := .seq c49_3 .ret
noncomputable def c49_0 : ACode := .seq c49_1 c49_2
noncomputable def code49 : Code := (Try.f49.body).getD .skip
theorem c49_ok : compC Try.prog 8 code49 = some (strip c49_0) := by kernel_rfl
theorem res49_ok : Try.f49.results.toList.mapM (resC Try.prog) = some [(2, none)] := by kernel_rfl
/-- A reader: its error, where its bytes are, how many were taken, of how many. -/
abbrev RdO (i a n : Nat) (err : Int) : AObj := .cells false [I err, .sl i a (n - a) 1 none]
theorem Seg.part {L : List Int} {a n : Nat} (hL : L.length ≤ 1099511627776) (h : a + n ≤ L.length) : Seg (bA L) a ((L.drop a).take n) :=
  ⟨by
    have hl : ((L.drop a).take n).length = n := by simp; omega
    rw [hl, bA_drop, bA_take], by simp [bA_len]; omega, fun ρ => bA_ren ρ L, by simp; omega⟩
theorem rfail_r (a : Nat) (L : List Int) (err e : Int) : ACall Try.prog 69 [.ptr 0 0, I e] [RdO 1 a L.length err, .cells true (bA L)] (Det (.tup []) [RdO 1 a L.length (failI err e), .cells true (bA L)]) := by
  refine ACall.startA c69_ok Try.func69 rfl Try.ntmps69 (by kernel_rfl) res69_ok rfl rfl rfl ?_; simp (maxSteps := 9999999) (disch := omega) only [go_sem]
  (have k9 := k0; (repeat' (first | refine AWpA.seq ?_ | refine AWpA.block ?_ | (with_reducible refine CondP.tt ?_) | (with_reducible refine CondP.ff ?_) | refine AWpA.cg ?_ | ((first | refine AWpA.rg ?_ | refine AWpA.dg [] [] follows ?_ | refine TailK.tg ?_ | refine AWpA.skip ?_ | refine AWpA.exit ?_ | refine AWpA.ret ?_ | (with_reducible refine ARoundsA.succ ?_) | ((first | refine Runs.gkt (fun h9 => ?_) | refine Runs.gkf (fun h9 => ?_) | refine Runs.gnt (fun h9 => ?_) | refine Runs.gnf (fun h9 => ?_) | refine CondP.gt (fun h9 => ?_) | refine CondP.gf (fun h9 => ?_) | refine CondP.gnt (fun h9 => ?_) | refine CondP.gnf (fun h9 => ?_)); (try simp only [h9]); clear h9)); (try simp (maxSteps := 9999999) (disch := omega) only [go_sem, k9]); (try refine cnd ?_)) | ((first | refine CondP.split (fun hif => ?_) (fun hif => ?_) | refine Runs.part (fun hif => ?_) (fun hif => ?_)) <;> ((try simp only [hif]); (try simp only [BL] at hif); (try (have h9 : _ = true := hif; simp only [h9])); (try (have h9 : _ = false := hif; simp only [h9])); (try simp (maxSteps := 9999999) (disch := omega) only [go_sem, k9]); (try refine cnd ?_); (try (exfalso; omega; done)))))); (all_goals (try clear k9)))
  all_goals
    (apply Ret.det [0, 1]; (focus (first | exact .inl rfl | exact .inr rfl)); (focus (simp (maxSteps := 9999999) (disch := omega) only [go_sem]; rfl)); (simp (maxSteps := 9999999) (disch := omega) only [go_sem]; (try (repeat' (first | done | trivial | rfl | exact leAs_rfl _ | decide | (refine And.intro ?_ ?_) | (simp; done) | omega | (simp; decide))))))
    all_goals (simp [failI, *])
def hasE (err n left : Int) : Int := cond (decide (left < n)) (failI err 6) err
theorem has_any (a : Nat) (L : List Int) (hL : L.length ≤ 1099511627776) (err n : Int) : ACall Try.prog 70 [.ptr 0 0, I n] [RdO 1 a L.length err, .cells true (bA L)] (Det (Bo (hasE err n (L.length - a : Nat) == 0)) [RdO 1 a L.length (hasE err n (L.length - a : Nat)), .cells true (bA L)]) := by
  by_cases h : ((L.length - a : Nat) : Int) < n
  · have e : hasE err n (L.length - a : Nat) = failI err 6 := by simp [hasE, h]
    rw [e]
    refine ACall.startA c70_ok Try.func70 rfl Try.ntmps70 (by kernel_rfl) res70_ok rfl rfl rfl ?_; simp (maxSteps := 9999999) (disch := omega) only [go_sem]
    (have k9 := And.intro (eq_true h) (k0); (repeat' (first | refine AWpA.seq ?_ | refine AWpA.block ?_ | (with_reducible refine CondP.tt ?_) | (with_reducible refine CondP.ff ?_) | refine AWpA.cg ?_ | ((first | refine AWpA.rg ?_ | refine AWpA.dg [] [] follows ?_ | refine TailK.tg ?_ | refine AWpA.skip ?_ | refine AWpA.exit ?_ | refine AWpA.ret ?_ | (with_reducible refine ARoundsA.succ ?_) | ((first | refine Runs.gkt (fun h9 => ?_) | refine Runs.gkf (fun h9 => ?_) | refine Runs.gnt (fun h9 => ?_) | refine Runs.gnf (fun h9 => ?_) | refine CondP.gt (fun h9 => ?_) | refine CondP.gf (fun h9 => ?_) | refine CondP.gnt (fun h9 => ?_) | refine CondP.gnf (fun h9 => ?_)); (try simp only [h9]); clear h9) | refine CallG.pg [0, 1] (rfail_r a L err 6) ?_ | refine CallG.dg [0, 1] (rfail_r a L err 6) ?_); (try simp (maxSteps := 9999999) (disch := omega) only [go_sem, k9]); (try refine cnd ?_)) | ((first | refine CondP.split (fun hif => ?_) (fun hif => ?_) | refine Runs.part (fun hif => ?_) (fun hif => ?_)) <;> ((try simp only [hif]); (try simp only [BL] at hif); (try (have h9 : _ = true := hif; simp only [h9])); (try (have h9 : _ = false := hif; simp only [h9])); (try simp (maxSteps := 9999999) (disch := omega) only [go_sem, k9]); (try refine cnd ?_); (try (exfalso; omega; done)))))); (all_goals (try clear k9)))
    (apply Ret.det [0, 1]; (focus (first | exact .inl rfl | exact .inr rfl)); (focus (simp (maxSteps := 9999999) (disch := omega) only [go_sem]; rfl)); (simp (maxSteps := 9999999) (disch := omega) only [go_sem]; (try (repeat' (first | done | trivial | rfl | exact leAs_rfl _ | decide | (refine And.intro ?_ ?_) | (simp; done) | omega | (simp; decide))))))
  · have e : hasE err n (L.length - a : Nat) = err := by simp [hasE, h]
    rw [e]
    refine ACall.startA c70_ok Try.func70 rfl Try.ntmps70 (by kernel_rfl) res70_ok rfl rfl rfl ?_; simp (maxSteps := 9999999) (disch := omega) only [go_sem]
    (have k9 := And.intro (eq_false h) (k0); (repeat' (first | refine AWpA.seq ?_ | refine AWpA.block ?_ | (with_reducible refine CondP.tt ?_) | (with_reducible refine CondP.ff ?_) | refine AWpA.cg ?_ | ((first | refine AWpA.rg ?_ | refine AWpA.dg [] [] follows ?_ | refine TailK.tg ?_ | refine AWpA.skip ?_ | refine AWpA.exit ?_ | refine AWpA.ret ?_ | (with_reducible refine ARoundsA.succ ?_) | ((first | refine Runs.gkt (fun h9 => ?_) | refine Runs.gkf (fun h9 => ?_) | refine Runs.gnt (fun h9 => ?_) | refine Runs.gnf (fun h9 => ?_) | refine CondP.gt (fun h9 => ?_) | refine CondP.gf (fun h9 => ?_) | refine CondP.gnt (fun h9 => ?_) | refine CondP.gnf (fun h9 => ?_)); (try simp only [h9]); clear h9) | refine CallG.pg [0, 1] (rfail_r a L err 6) ?_ | refine CallG.dg [0, 1] (rfail_r a L err 6) ?_); (try simp (maxSteps := 9999999) (disch := omega) only [go_sem, k9]); (try refine cnd ?_)) | ((first | refine CondP.split (fun hif => ?_) (fun hif => ?_) | refine Runs.part (fun hif => ?_) (fun hif => ?_)) <;> ((try simp only [hif]); (try simp only [BL] at hif); (try (have h9 : _ = true := hif; simp only [h9])); (try (have h9 : _ = false := hif; simp only [h9])); (try simp (maxSteps := 9999999) (disch := omega) only [go_sem, k9]); (try refine cnd ?_); (try (exfalso; omega; done)))))); (all_goals (try clear k9)))
    (apply Ret.det [0, 1]; (focus (first | exact .inl rfl | exact .inr rfl)); (focus (simp (maxSteps := 9999999) (disch := omega) only [go_sem]; rfl)); (simp (maxSteps := 9999999) (disch := omega) only [go_sem]; (try (repeat' (first | done | trivial | rfl | exact leAs_rfl _ | decide | (refine And.intro ?_ ?_) | (simp; done) | omega | (simp; decide))))))
theorem take_any (a n : Nat) (L : List Int) (hL : L.length ≤ 1099511627776) (err : Int) (h : a + n ≤ L.length) : ACall Try.prog 71 [.ptr 0 0, I (n : Int)] [RdO 1 a L.length err, .cells true (bA L)] (Det (.sl 2 0 n 1 none) [RdO 1 (a + n) L.length err, .cells true (bA L), .cells false (bA ((L.drop a).take n))]) := by
  have hc := clone_any (Seg.part (L := L) (a := a) (n := n) hL h)
  have hl : ((L.drop a).take n).length = n := by simp; omega
  rw [hl] at hc
  have h1 : ((n : Int) ≤ ((L.length - a : Nat) : Int)) = True := eq_true (by omega)
  have h2 : L.length - a - n = L.length - (a + n) := by omega
  refine ACall.startA c71_ok Try.func71 rfl Try.ntmps71 (by kernel_rfl) res71_ok rfl rfl rfl ?_; simp (maxSteps := 9999999) (disch := omega) only [go_sem]
  (have k9 := And.intro @h1 (And.intro @h2 (k0)); (repeat' (first | refine AWpA.seq ?_ | refine AWpA.block ?_ | (with_reducible refine CondP.tt ?_) | (with_reducible refine CondP.ff ?_) | refine AWpA.cg ?_ | ((first | refine AWpA.rg ?_ | refine AWpA.dg [] [] follows ?_ | refine TailK.tg ?_ | refine AWpA.skip ?_ | refine AWpA.exit ?_ | refine AWpA.ret ?_ | (with_reducible refine ARoundsA.succ ?_) | ((first | refine Runs.gkt (fun h9 => ?_) | refine Runs.gkf (fun h9 => ?_) | refine Runs.gnt (fun h9 => ?_) | refine Runs.gnf (fun h9 => ?_) | refine CondP.gt (fun h9 => ?_) | refine CondP.gf (fun h9 => ?_) | refine CondP.gnt (fun h9 => ?_) | refine CondP.gnf (fun h9 => ?_)); (try simp only [h9]); clear h9) | refine CallG.pg [1] (hc) ?_ | refine CallG.dg [1] (hc) ?_); (try simp (maxSteps := 9999999) (disch := omega) only [go_sem, k9]); (try refine cnd ?_)) | ((first | refine CondP.split (fun hif => ?_) (fun hif => ?_) | refine Runs.part (fun hif => ?_) (fun hif => ?_)) <;> ((try simp only [hif]); (try simp only [BL] at hif); (try (have h9 : _ = true := hif; simp only [h9])); (try (have h9 : _ = false := hif; simp only [h9])); (try simp (maxSteps := 9999999) (disch := omega) only [go_sem, k9]); (try refine cnd ?_); (try (exfalso; omega; done)))))); (all_goals (try clear k9)))
  (apply Ret.det [0, 1, _]; (focus (first | exact .inl rfl | exact .inr rfl)); (focus (simp (maxSteps := 9999999) (disch := omega) only [go_sem]; rfl)); (simp (maxSteps := 9999999) (disch := omega) only [go_sem]; (try (repeat' (first | done | trivial | rfl | exact leAs_rfl _ | decide | (refine And.intro ?_ ?_) | (simp; done) | omega | (simp; decide))))))
theorem read_any {P : List AV} {o : Nat} {l : List Int} (s : Seg P o l) : ACall Try.prog 46 [.sl 0 o l.length 1 none] [.cells true P] (Det (.ptr 1 0) [.cells true P, RdO 2 0 l.length 0, .cells false (bA l)]) := by
  refine ACall.startA c46_ok Try.func46 rfl Try.ntmps46 (by kernel_rfl) res46_ok rfl rfl rfl ?_; simp (maxSteps := 9999999) (disch := omega) only [go_sem]
  (have k9 := And.intro @s.ren (k0); (repeat' (first | refine AWpA.seq ?_ | refine AWpA.block ?_ | (with_reducible refine CondP.tt ?_) | (with_reducible refine CondP.ff ?_) | refine AWpA.cg ?_ | ((first | refine AWpA.rg ?_ | refine AWpA.dg [] [] follows ?_ | refine TailK.tg ?_ | refine AWpA.skip ?_ | refine AWpA.exit ?_ | refine AWpA.ret ?_ | (with_reducible refine ARoundsA.succ ?_) | ((first | refine Runs.gkt (fun h9 => ?_) | refine Runs.gkf (fun h9 => ?_) | refine Runs.gnt (fun h9 => ?_) | refine Runs.gnf (fun h9 => ?_) | refine CondP.gt (fun h9 => ?_) | refine CondP.gf (fun h9 => ?_) | refine CondP.gnt (fun h9 => ?_) | refine CondP.gnf (fun h9 => ?_)); (try simp only [h9]); clear h9) | refine CallG.pg [0] (clone_any s) ?_ | refine CallG.dg [0] (clone_any s) ?_); (try simp (maxSteps := 9999999) (disch := omega) only [go_sem, k9]); (try refine cnd ?_)) | ((first | refine CondP.split (fun hif => ?_) (fun hif => ?_) | refine Runs.part (fun hif => ?_) (fun hif => ?_)) <;> ((try simp only [hif]); (try simp only [BL] at hif); (try (have h9 : _ = true := hif; simp only [h9])); (try (have h9 : _ = false := hif; simp only [h9])); (try simp (maxSteps := 9999999) (disch := omega) only [go_sem, k9]); (try refine cnd ?_); (try (exfalso; omega; done)))))); (all_goals (try clear k9)))
  (apply Ret.det [0, _, _]; (focus (first | exact .inl rfl | exact .inr rfl)); (focus (simp (maxSteps := 9999999) (disch := omega) only [go_sem, s.ren]; rfl)); (simp (maxSteps := 9999999) (disch := omega) only [go_sem, s.ren]; (try (repeat' (first | done | trivial | rfl | exact leAs_rfl _ | decide | (refine And.intro ?_ ?_) | (simp; done) | omega | (simp; decide))))))
def rawOk (err n left : Int) : Bool := decide (0 ≤ n ∧ n ≤ left) && (err == 0)
def rawE (err n left : Int) : Int := cond (decide (n < 0)) (failI err 1) (hasE err n left)
def rawA (err n left : Int) (a : Nat) : Nat := cond (rawOk err n left) (a + n.toNat) a
def rawL (err n left : Int) (a : Nat) (L : List Int) : List Int := cond (rawOk err n left) ((L.drop a).take n.toNat) []
theorem rraw_any (a : Nat) (L : List Int) (ha : a ≤ L.length) (hL : L.length ≤ 1099511627776) (err n : Int) : ACall Try.prog 48 [.ptr 0 0, I n] [RdO 1 a L.length err, .cells true (bA L)] (Det (.sl 2 0 (rawL err n (L.length - a : Nat) a L).length 1 none) [RdO 1 (rawA err n (L.length - a : Nat) a) L.length (rawE err n (L.length - a : Nat)), .cells true (bA L), .cells false (bA (rawL err n (L.length - a : Nat) a L))]) := by
  by_cases h0 : n < 0
  · have e0 : rawOk err n (L.length - a : Nat) = false := by
      unfold rawOk
      rw [decide_eq_false (by omega)]
      rfl
    have e1 : rawL err n (L.length - a : Nat) a L = [] := by simp [rawL, e0]
    have e2 : rawA err n (L.length - a : Nat) a = a := by simp [rawA, e0]
    have e3 : rawE err n (L.length - a : Nat) = failI err 1 := by simp [rawE, h0]
    rw [e1, e2, e3]
    refine ACall.startA c48_ok Try.func48 rfl Try.ntmps48 (by kernel_rfl) res48_ok rfl rfl rfl ?_; simp (maxSteps := 9999999) (disch := omega) only [go_sem]
    refine AWpA.dummy ?_
    (have k9 := And.intro (eq_true h0) (k0); (repeat' (first | refine AWpA.seq ?_ | refine AWpA.block ?_ | (with_reducible refine CondP.tt ?_) | (with_reducible refine CondP.ff ?_) | refine AWpA.cg ?_ | ((first | refine AWpA.rg ?_ | refine AWpA.dg [] [] follows ?_ | refine TailK.tg ?_ | refine AWpA.skip ?_ | refine AWpA.exit ?_ | refine AWpA.ret ?_ | (with_reducible refine ARoundsA.succ ?_) | ((first | refine Runs.gkt (fun h9 => ?_) | refine Runs.gkf (fun h9 => ?_) | refine Runs.gnt (fun h9 => ?_) | refine Runs.gnf (fun h9 => ?_) | refine CondP.gt (fun h9 => ?_) | refine CondP.gf (fun h9 => ?_) | refine CondP.gnt (fun h9 => ?_) | refine CondP.gnf (fun h9 => ?_)); (try simp only [h9]); clear h9) | refine CallG.pg [0, 1] (rfail_r a L err 1) ?_ | refine CallG.dg [0, 1] (rfail_r a L err 1) ?_); (try simp (maxSteps := 9999999) (disch := omega) only [go_sem, k9]); (try refine cnd ?_)) | ((first | refine CondP.split (fun hif => ?_) (fun hif => ?_) | refine Runs.part (fun hif => ?_) (fun hif => ?_)) <;> ((try simp only [hif]); (try simp only [BL] at hif); (try (have h9 : _ = true := hif; simp only [h9])); (try (have h9 : _ = false := hif; simp only [h9])); (try simp (maxSteps := 9999999) (disch := omega) only [go_sem, k9]); (try refine cnd ?_); (try (exfalso; omega; done)))))); (all_goals (try clear k9)))
    (apply Ret.det [0, 1, 2]; (focus (first | exact .inl rfl | exact .inr rfl)); (focus (simp (maxSteps := 9999999) (disch := omega) only [go_sem, bA_nil]; rfl)); (simp (maxSteps := 9999999) (disch := omega) only [go_sem, bA_nil]; (try (repeat' (first | done | trivial | rfl | exact leAs_rfl _ | decide | (refine And.intro ?_ ?_) | (simp; done) | omega | (simp; decide))))))
  · have e3 : rawE err n (L.length - a : Nat) = hasE err n (L.length - a : Nat) := by simp [rawE, h0]
    rw [e3]
    cases hz : (hasE err n (L.length - a : Nat) == 0) with
    | false =>
      have e0 : rawOk err n (L.length - a : Nat) = false := by
        unfold hasE at hz
        unfold rawOk
        by_cases h : ((L.length - a : Nat) : Int) < n
        · simp; omega
        · simp [h] at hz; simp [hz]
      have e1 : rawL err n (L.length - a : Nat) a L = [] := by simp [rawL, e0]
      have e2 : rawA err n (L.length - a : Nat) a = a := by simp [rawA, e0]
      rw [e1, e2]
      refine ACall.startA c48_ok Try.func48 rfl Try.ntmps48 (by kernel_rfl) res48_ok rfl rfl rfl ?_; simp (maxSteps := 9999999) (disch := omega) only [go_sem]
      refine AWpA.dummy ?_
      (have k9 := And.intro (eq_false h0) (And.intro @hz (k0)); (repeat' (first | refine AWpA.seq ?_ | refine AWpA.block ?_ | (with_reducible refine CondP.tt ?_) | (with_reducible refine CondP.ff ?_) | refine AWpA.cg ?_ | ((first | refine AWpA.rg ?_ | refine AWpA.dg [] [] follows ?_ | refine TailK.tg ?_ | refine AWpA.skip ?_ | refine AWpA.exit ?_ | refine AWpA.ret ?_ | (with_reducible refine ARoundsA.succ ?_) | ((first | refine Runs.gkt (fun h9 => ?_) | refine Runs.gkf (fun h9 => ?_) | refine Runs.gnt (fun h9 => ?_) | refine Runs.gnf (fun h9 => ?_) | refine CondP.gt (fun h9 => ?_) | refine CondP.gf (fun h9 => ?_) | refine CondP.gnt (fun h9 => ?_) | refine CondP.gnf (fun h9 => ?_)); (try simp only [h9]); clear h9) | refine CallG.pg [0, 1] (has_any a L hL err n) ?_ | refine CallG.dg [0, 1] (has_any a L hL err n) ?_); (try simp (maxSteps := 9999999) (disch := omega) only [go_sem, k9]); (try refine cnd ?_)) | ((first | refine CondP.split (fun hif => ?_) (fun hif => ?_) | refine Runs.part (fun hif => ?_) (fun hif => ?_)) <;> ((try simp only [hif]); (try simp only [BL] at hif); (try (have h9 : _ = true := hif; simp only [h9])); (try (have h9 : _ = false := hif; simp only [h9])); (try simp (maxSteps := 9999999) (disch := omega) only [go_sem, k9]); (try refine cnd ?_); (try (exfalso; omega; done)))))); (all_goals (try clear k9)))
      (apply Ret.det [0, 1, 2]; (focus (first | exact .inl rfl | exact .inr rfl)); (focus (simp (maxSteps := 9999999) (disch := omega) only [go_sem, bA_nil]; rfl)); (simp (maxSteps := 9999999) (disch := omega) only [go_sem, bA_nil]; (try (repeat' (first | done | trivial | rfl | exact leAs_rfl _ | decide | (refine And.intro ?_ ?_) | (simp; done) | omega | (simp; decide))))))
    | true =>
      have hle : ¬ (((L.length - a : Nat) : Int) < n) := by
        intro h
        unfold hasE at hz
        rw [decide_eq_true h] at hz
        simp only [cond_true, failI] at hz
        split at hz
        · cases hz
        · rename_i h9; exact h9 hz
      have hE : hasE err n (L.length - a : Nat) = err := by simp [hasE, hle]
      rw [hE] at hz ⊢
      have e0 : rawOk err n (L.length - a : Nat) = true := by
        unfold rawOk
        rw [hz, decide_eq_true (by omega)]
        rfl
      have e1 : rawL err n (L.length - a : Nat) a L = (L.drop a).take n.toNat := by simp [rawL, e0]
      have e2 : rawA err n (L.length - a : Nat) a = a + n.toNat := by simp [rawA, e0]
      rw [e1, e2]
      have ht := take_any a n.toNat L hL err (by omega)
      rw [show ((n.toNat : Nat) : Int) = n by omega] at ht
      have hh := has_any a L hL err n
      rw [hE] at hh
      have hl : ((L.drop a).take n.toNat).length = n.toNat := by simp; omega
      rw [hl]
      refine ACall.startA c48_ok Try.func48 rfl Try.ntmps48 (by kernel_rfl) res48_ok rfl rfl rfl ?_; simp (maxSteps := 9999999) (disch := omega) only [go_sem]
      (have k9 := And.intro (eq_false h0) (And.intro @hz (k0)); (repeat' (first | refine AWpA.seq ?_ | refine AWpA.block ?_ | (with_reducible refine CondP.tt ?_) | (with_reducible refine CondP.ff ?_) | refine AWpA.cg ?_ | ((first | refine AWpA.rg ?_ | refine AWpA.dg [] [] follows ?_ | refine TailK.tg ?_ | refine AWpA.skip ?_ | refine AWpA.exit ?_ | refine AWpA.ret ?_ | (with_reducible refine ARoundsA.succ ?_) | ((first | refine Runs.gkt (fun h9 => ?_) | refine Runs.gkf (fun h9 => ?_) | refine Runs.gnt (fun h9 => ?_) | refine Runs.gnf (fun h9 => ?_) | refine CondP.gt (fun h9 => ?_) | refine CondP.gf (fun h9 => ?_) | refine CondP.gnt (fun h9 => ?_) | refine CondP.gnf (fun h9 => ?_)); (try simp only [h9]); clear h9) | refine CallG.pg [0, 1] (hh) ?_ | refine CallG.pg [0, 1] (ht) ?_ | refine CallG.dg [0, 1] (hh) ?_ | refine CallG.dg [0, 1] (ht) ?_); (try simp (maxSteps := 9999999) (disch := omega) only [go_sem, k9]); (try refine cnd ?_)) | ((first | refine CondP.split (fun hif => ?_) (fun hif => ?_) | refine Runs.part (fun hif => ?_) (fun hif => ?_)) <;> ((try simp only [hif]); (try simp only [BL] at hif); (try (have h9 : _ = true := hif; simp only [h9])); (try (have h9 : _ = false := hif; simp only [h9])); (try simp (maxSteps := 9999999) (disch := omega) only [go_sem, k9]); (try refine cnd ?_); (try (exfalso; omega; done)))))); (all_goals (try clear k9)))
      (apply Ret.det [0, 1, _]; (focus (first | exact .inl rfl | exact .inr rfl)); (focus (simp (maxSteps := 9999999) (disch := omega) only [go_sem]; rfl)); (simp (maxSteps := 9999999) (disch := omega) only [go_sem]; (try (repeat' (first | done | trivial | rfl | exact leAs_rfl _ | decide | (refine And.intro ?_ ?_) | (simp; done) | omega | (simp; decide))))))
theorem left_any (a : Nat) (L : List Int) (err : Int) : ACall Try.prog 49 [.ptr 0 0] [.cells true [.any, .sl 1 a (L.length - a) 1 none], .cells true (bA L)] (Det (I ((L.length - a : Nat) : Int)) [.cells true [.any, .sl 1 a (L.length - a) 1 none], .cells true (bA L)]) := by
  refine ACall.startA c49_ok Try.func49 rfl Try.ntmps49 (by kernel_rfl) res49_ok rfl rfl rfl ?_; simp (maxSteps := 9999999) (disch := omega) only [go_sem]
  (have k9 := k0; (repeat' (first | refine AWpA.seq ?_ | refine AWpA.block ?_ | (with_reducible refine CondP.tt ?_) | (with_reducible refine CondP.ff ?_) | refine AWpA.cg ?_ | ((first | refine AWpA.rg ?_ | refine AWpA.dg [] [] follows ?_ | refine TailK.tg ?_ | refine AWpA.skip ?_ | refine AWpA.exit ?_ | refine AWpA.ret ?_ | (with_reducible refine ARoundsA.succ ?_) | ((first | refine Runs.gkt (fun h9 => ?_) | refine Runs.gkf (fun h9 => ?_) | refine Runs.gnt (fun h9 => ?_) | refine Runs.gnf (fun h9 => ?_) | refine CondP.gt (fun h9 => ?_) | refine CondP.gf (fun h9 => ?_) | refine CondP.gnt (fun h9 => ?_) | refine CondP.gnf (fun h9 => ?_)); (try simp only [h9]); clear h9)); (try simp (maxSteps := 9999999) (disch := omega) only [go_sem, k9]); (try refine cnd ?_)) | ((first | refine CondP.split (fun hif => ?_) (fun hif => ?_) | refine Runs.part (fun hif => ?_) (fun hif => ?_)) <;> ((try simp only [hif]); (try simp only [BL] at hif); (try (have h9 : _ = true := hif; simp only [h9])); (try (have h9 : _ = false := hif; simp only [h9])); (try simp (maxSteps := 9999999) (disch := omega) only [go_sem, k9]); (try refine cnd ?_); (try (exfalso; omega; done)))))); (all_goals (try clear k9)))
  (apply Ret.det [0, 1]; (focus (first | exact .inl rfl | exact .inr rfl)); (focus (simp (maxSteps := 9999999) (disch := omega) only [go_sem]; rfl)); (simp (maxSteps := 9999999) (disch := omega) only [go_sem]; (try (repeat' (first | done | trivial | rfl | exact leAs_rfl _ | decide | (refine And.intro ?_ ?_) | (simp; done) | omega | (simp; decide))))))
def doneE (err : Int) (left : Nat) : Int := cond (decide (0 < left)) (failI err 4) err
end Go.Proofs.Ythbpdmlbfnjoiaa
