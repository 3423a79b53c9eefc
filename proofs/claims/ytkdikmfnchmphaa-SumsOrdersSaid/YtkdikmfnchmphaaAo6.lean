/- Contracts: a reader. -/
import Derived.Test.YtkdikmfnchmphaaAo5
namespace Go.Proofs.Ytkdikmfnchmphaa
set_option linter.unusedSimpArgs false
set_option linter.unusedVariables false
set_option maxHeartbeats 4000000
open Go Go.Am
set_option maxRecDepth 100000
/- quidnunc/octets.Read -/
noncomputable def c73_1 : ACode := .region false [⟨some 2, .move, [.c (.val (.pointer none))], none⟩] [] [] [0] false [] []
noncomputable def c73_3 : ACode := .region false [⟨some 3, .move, [.t 0], none⟩,
  ⟨some 4, .call 89, [.t 3], none⟩,
  ⟨some 5, .build [(.int .i64 0), (.slice none 0 0)] [(1, 1)], [.t 4], none⟩,
  ⟨some 6, .box 0, [.t 5], none⟩,
  ⟨some 2, .move, [.t 6], none⟩] [] [] [2] true [] []
noncomputable def c73_2 : ACode := .seq c73_3 .ret
noncomputable def c73_0 : ACode := .seq c73_1 c73_2
noncomputable def code73 : Code := (Try.f73.body).getD .skip
theorem c73_ok : compC Try.prog 7 code73 = some (strip c73_0) := by kernel_rfl
theorem res73_ok : Try.f73.results.toList.mapM (resC Try.prog) = some [(2, none)] := by kernel_rfl
/- (*quidnunc/octets.Reader).has -/
noncomputable def c91_1 : ACode := .region false [⟨some 4, .move, [.c (.val (.bool false))], none⟩] [] [] [0, 1] false [] []
noncomputable def c91_4 : ACode := .region false [⟨some 5, .move, [.t 1], none⟩,
  ⟨some 6, .move, [.t 0], none⟩,
  ⟨some 7, .nilChk, [.t 6], none⟩,
  ⟨some 8, .addr 1, [.t 7], none⟩,
  ⟨some 9, .load false 1, [.t 8], none⟩,
  ⟨some 10, .len, [.t 9], none⟩,
  ⟨some 11, .bin .gtr, [.t 5, .t 10], none⟩] [] [] [0, 11] false [] []
noncomputable def c91_6 : ACode := .region false [⟨some 12, .move, [.t 0], none⟩,
  ⟨some 13, .nilChk, [.t 12], none⟩,
  ⟨some 14, .addr 0, [.t 13], none⟩,
  ⟨some 15, .call 90, [.t 14, .c (.val (.int .i64 6))], none⟩] [] [] [0] true [] []
noncomputable def c91_5 : ACode := .cond (.t 11) c91_6 .skip
noncomputable def c91_3 : ACode := .seq c91_4 c91_5
noncomputable def c91_8 : ACode := .region false [⟨some 16, .move, [.t 0], none⟩,
  ⟨some 17, .nilChk, [.t 16], none⟩,
  ⟨some 18, .addr 0, [.t 17], none⟩,
  ⟨some 19, .addr 0, [.t 18], none⟩,
  ⟨some 20, .load false 1, [.t 19], none⟩,
  ⟨some 21, .bin .eql, [.t 20, .c (.val (.int .i64 0))], none⟩,
  ⟨some 4, .move, [.t 21], none⟩] [] [] [4] false [] []
noncomputable def c91_7 : ACode := .seq c91_8 .ret
noncomputable def c91_2 : ACode := .seq c91_3 c91_7
noncomputable def c91_0 : ACode := .seq c91_1 c91_2
noncomputable def code91 : Code := (Try.f91.body).getD .skip
theorem c91_ok : compC Try.prog 22 code91 = some (strip c91_0) := by kernel_rfl
theorem res91_ok : Try.f91.results.toList.mapM (resC Try.prog) = some [(4, none)] := by kernel_rfl
/- (*quidnunc/octets.Reader).take -/
noncomputable def c92_1 : ACode := .region false [⟨some 4, .move, [.c (.val (.slice none 0 0))], none⟩] [] [] [0, 1] false [] []
noncomputable def c92_3 : ACode := .region false [⟨some 6, .move, [.t 0], none⟩,
  ⟨some 7, .nilChk, [.t 6], none⟩,
  ⟨some 8, .addr 1, [.t 7], none⟩,
  ⟨some 9, .load false 1, [.t 8], none⟩,
  ⟨some 10, .move, [.t 1], none⟩,
  ⟨some 11, .slS 1 false true false, [.t 9, .t 10], none⟩,
  ⟨some 12, .call 89, [.t 11], none⟩,
  ⟨some 5, .move, [.t 12], none⟩] [] [] [0, 1, 5] true [] []
noncomputable def c92_5 : ACode := .region false [⟨some 13, .move, [.t 0], none⟩,
  ⟨some 14, .move, [.t 0], none⟩,
  ⟨some 15, .nilChk, [.t 14], none⟩,
  ⟨some 16, .addr 1, [.t 15], none⟩,
  ⟨some 17, .load false 1, [.t 16], none⟩,
  ⟨some 18, .move, [.t 1], none⟩,
  ⟨some 19, .slS 1 true false false, [.t 17, .t 18], none⟩,
  ⟨some 20, .nilChk, [.t 13], none⟩,
  ⟨some 21, .addr 1, [.t 20], none⟩,
  ⟨none, .store 1, [.t 21, .t 19], none⟩] [] [] [5] true [] []
noncomputable def c92_7 : ACode := .region false [⟨some 22, .move, [.t 5], none⟩,
  ⟨some 4, .move, [.t 22], none⟩] [] [] [4] false [] []
noncomputable def c92_6 : ACode := .seq c92_7 .ret
noncomputable def c92_4 : ACode := .seq c92_5 c92_6
noncomputable def c92_2 : ACode := .seq c92_3 c92_4
noncomputable def c92_0 : ACode := .seq c92_1 c92_2
noncomputable def code92 : Code := (Try.f92.body).getD .skip
theorem c92_ok : compC Try.prog 23 code92 = some (strip c92_0) := by kernel_rfl
theorem res92_ok : Try.f92.results.toList.mapM (resC Try.prog) = some [(4, none)] := by kernel_rfl
/- (*quidnunc/octets.Reader).Done -/
noncomputable def c75_1 : ACode := .region false [⟨some 2, .move, [.c (.val (.int .i64 0))], none⟩] [] [] [0] false [] []
noncomputable def c75_4 : ACode := .region false [⟨some 3, .move, [.t 0], none⟩,
  ⟨some 4, .nilChk, [.t 3], none⟩,
  ⟨some 5, .addr 1, [.t 4], none⟩,
  ⟨some 6, .load false 1, [.t 5], none⟩,
  ⟨some 7, .len, [.t 6], none⟩,
  ⟨some 8, .bin .gtr, [.t 7, .c (.val (.int .i64 0))], none⟩] [] [] [0, 8] false [] []
noncomputable def c75_6 : ACode := .region false [⟨some 9, .move, [.t 0], none⟩,
  ⟨some 10, .nilChk, [.t 9], none⟩,
  ⟨some 11, .addr 0, [.t 10], none⟩,
  ⟨some 12, .call 90, [.t 11, .c (.val (.int .i64 4))], none⟩] [] [] [0] true [] []
noncomputable def c75_5 : ACode := .cond (.t 8) c75_6 .skip
noncomputable def c75_3 : ACode := .seq c75_4 c75_5
noncomputable def c75_8 : ACode := .region false [⟨some 13, .move, [.t 0], none⟩,
  ⟨some 14, .nilChk, [.t 13], none⟩,
  ⟨some 15, .addr 0, [.t 14], none⟩,
  ⟨some 16, .addr 0, [.t 15], none⟩,
  ⟨some 17, .load false 1, [.t 16], none⟩,
  ⟨some 2, .move, [.t 17], none⟩] [] [] [2] false [] []
noncomputable def c75_7 : ACode := .seq c75_8 .ret
noncomputable def c75_2 : ACode := .seq c75_3 c75_7
noncomputable def c75_0 : ACode := .seq c75_1 c75_2
noncomputable def code75 : Code := (Try.f75.body).getD .skip
theorem c75_ok : compC Try.prog 18 code75 = some (strip c75_0) := by kernel_rfl
theorem res75_ok : Try.f75.results.toList.mapM (resC Try.prog) = some [(2, none)] := by kernel_rfl
/-- A reader: its error, where its bytes are, how many were taken, of how many. -/
abbrev RdO (i a n : Nat) (err : Int) : AObj := .cells false [I err, .sl i a (n - a) 1 none]
theorem Seg.part {L : List Int} {a n : Nat} (hL : L.length ≤ 1099511627776) (h : a + n ≤ L.length) : Seg (bA L) a ((L.drop a).take n) :=
  ⟨by
    have hl : ((L.drop a).take n).length = n := by simp; omega
    rw [hl, bA_drop, bA_take], by simp [bA_len]; omega, fun ρ => bA_ren ρ L, by simp; omega⟩
theorem rfail_r (a : Nat) (L : List Int) (err e : Int) : ACall Try.prog 90 [.ptr 0 0, I e] [RdO 1 a L.length err, .cells true (bA L)] (Det (.tup []) [RdO 1 a L.length (failI err e), .cells true (bA L)]) := by
  refine ACall.startA c90_ok Try.func90 rfl Try.ntmps90 (by kernel_rfl) res90_ok rfl rfl rfl ?_; simp (maxSteps := 9999999) (disch := omega) only [go_sem]
  (repeat' (first | refine AWpA.seq ?_ | refine AWpA.block ?_ | (with_reducible refine CondP.tt ?_) | (with_reducible refine CondP.ff ?_) | refine AWpA.condv (by simp (maxSteps := 9999999) (disch := omega) only [go_sem]; rfl) ?_ | ((first | (apply AWpA.region; (focus (simp (maxSteps := 9999999) (disch := omega) only [go_sem]; rfl))) | (apply AWpA.draw [] follows; (focus (simp (maxSteps := 9999999) (disch := omega) only [go_sem]; rfl)); (focus (simp (maxSteps := 9999999) (disch := omega) only [go_sem]; first | done | trivial)); (focus (simp (maxSteps := 9999999) (disch := omega) only [go_sem]; rfl))) | (apply TailK.go; (focus (simp (maxSteps := 9999999) (disch := omega) only [go_sem]; rfl))) | refine AWpA.skip ?_ | refine AWpA.exit ?_ | refine AWpA.ret ?_ | (with_reducible refine ARoundsA.succ ?_) | ((first | refine Runs.kt (by assumption) (fun h9 => ?_) | refine Runs.kf (by assumption) (fun h9 => ?_) | refine Runs.nt (by assumption) (fun h9 => ?_) | refine Runs.nf (by assumption) (fun h9 => ?_) | refine CondP.ht (by assumption) (fun h9 => ?_) | refine CondP.hf (by assumption) (fun h9 => ?_) | refine CondP.nt (by assumption) (fun h9 => ?_) | refine CondP.nf (by assumption) (fun h9 => ?_)); (try simp only [h9]); clear h9)); (try simp (maxSteps := 9999999) (disch := omega) only [go_sem]); (try (refine And.intro ?_ ?_; (focus (first | omega | (simp only [go_sem]; done) | (simp; done) | (simp; omega) | assumption))))) | ((first | refine CondP.split (fun hif => ?_) (fun hif => ?_) | refine Runs.part (fun hif => ?_) (fun hif => ?_)) <;> ((try simp only [hif]); (try simp only [decide_eq_true_eq, decide_eq_false_iff_not, Bool.not_eq_true, Bool.not_eq_false, Bool.not_eq_true', Bool.not_eq_false', beq_iff_eq, bne_iff_ne, bne_eq_false_iff_eq, beq_eq_false_iff_ne, ne_eq, Bool.and_eq_true, Bool.or_eq_true, Bool.or_eq_false_iff] at hif); (try (have h9 : _ = true := hif; simp only [h9])); (try (have h9 : _ = false := hif; simp only [h9])); (try simp (maxSteps := 9999999) (disch := omega) only [go_sem]); (try (refine And.intro ?_ ?_; (focus (first | omega | (simp only [go_sem]; done) | (simp; done) | (simp; omega) | assumption)))); (try (exfalso; omega; done))))))
  all_goals
    (apply Ret.det [0, 1]; (focus (first | exact .inl rfl | exact .inr rfl)); (focus (simp (maxSteps := 9999999) (disch := omega) only [go_sem]; rfl)); (simp (maxSteps := 9999999) (disch := omega) only [go_sem]; (try (repeat' (first | done | trivial | rfl | exact leAs_rfl _ | decide | (refine And.intro ?_ ?_) | (simp; done) | omega | (simp; decide))))))
    all_goals (simp [failI, *])
def hasE (err n left : Int) : Int := cond (decide (left < n)) (failI err 6) err
theorem has_any (a : Nat) (L : List Int) (hL : L.length ≤ 1099511627776) (err n : Int) : ACall Try.prog 91 [.ptr 0 0, I n] [RdO 1 a L.length err, .cells true (bA L)] (Det (Bo (hasE err n (L.length - a : Nat) == 0)) [RdO 1 a L.length (hasE err n (L.length - a : Nat)), .cells true (bA L)]) := by
  by_cases h : ((L.length - a : Nat) : Int) < n
  · have e : hasE err n (L.length - a : Nat) = failI err 6 := by simp [hasE, h]
    rw [e]
    refine ACall.startA c91_ok Try.func91 rfl Try.ntmps91 (by kernel_rfl) res91_ok rfl rfl rfl ?_; simp (maxSteps := 9999999) (disch := omega) only [go_sem]
    (repeat' (first | refine AWpA.seq ?_ | refine AWpA.block ?_ | (with_reducible refine CondP.tt ?_) | (with_reducible refine CondP.ff ?_) | refine AWpA.condv (by simp (maxSteps := 9999999) (disch := omega) only [go_sem, eq_true h]; rfl) ?_ | ((first | (apply AWpA.region; (focus (simp (maxSteps := 9999999) (disch := omega) only [go_sem, eq_true h]; rfl))) | (apply AWpA.draw [] follows; (focus (simp (maxSteps := 9999999) (disch := omega) only [go_sem, eq_true h]; rfl)); (focus (simp (maxSteps := 9999999) (disch := omega) only [go_sem, eq_true h]; first | done | trivial)); (focus (simp (maxSteps := 9999999) (disch := omega) only [go_sem, eq_true h]; rfl))) | (apply TailK.go; (focus (simp (maxSteps := 9999999) (disch := omega) only [go_sem, eq_true h]; rfl))) | refine AWpA.skip ?_ | refine AWpA.exit ?_ | refine AWpA.ret ?_ | (with_reducible refine ARoundsA.succ ?_) | ((first | refine Runs.kt (by assumption) (fun h9 => ?_) | refine Runs.kf (by assumption) (fun h9 => ?_) | refine Runs.nt (by assumption) (fun h9 => ?_) | refine Runs.nf (by assumption) (fun h9 => ?_) | refine CondP.ht (by assumption) (fun h9 => ?_) | refine CondP.hf (by assumption) (fun h9 => ?_) | refine CondP.nt (by assumption) (fun h9 => ?_) | refine CondP.nf (by assumption) (fun h9 => ?_)); (try simp only [h9]); clear h9) | ((first | (with_reducible apply CallG.plain1 [0, 1] (rfail_r a L err 6)) | (with_reducible apply CallG.draw1 [0, 1] (rfail_r a L err 6))); (focus ((try refine And.intro (leAs_of_eq rfl) ?_); (try refine And.intro (leOL_of_eq rfl) ?_); simp (maxSteps := 9999999) (disch := omega) only [go_sem, eq_true h]; first | done | (repeat' (first | rfl | (refine And.intro ?_ ?_))))); (focus (simp (maxSteps := 9999999) (disch := omega) only [go_sem, eq_true h]; rfl)))); (try simp (maxSteps := 9999999) (disch := omega) only [go_sem, eq_true h]); (try (refine And.intro ?_ ?_; (focus (first | omega | (simp only [go_sem]; done) | (simp; done) | (simp; omega) | assumption))))) | ((first | refine CondP.split (fun hif => ?_) (fun hif => ?_) | refine Runs.part (fun hif => ?_) (fun hif => ?_)) <;> ((try simp only [hif]); (try simp only [decide_eq_true_eq, decide_eq_false_iff_not, Bool.not_eq_true, Bool.not_eq_false, Bool.not_eq_true', Bool.not_eq_false', beq_iff_eq, bne_iff_ne, bne_eq_false_iff_eq, beq_eq_false_iff_ne, ne_eq, Bool.and_eq_true, Bool.or_eq_true, Bool.or_eq_false_iff] at hif); (try (have h9 : _ = true := hif; simp only [h9])); (try (have h9 : _ = false := hif; simp only [h9])); (try simp (maxSteps := 9999999) (disch := omega) only [go_sem, eq_true h]); (try (refine And.intro ?_ ?_; (focus (first | omega | (simp only [go_sem]; done) | (simp; done) | (simp; omega) | assumption)))); (try (exfalso; omega; done))))))
    (apply Ret.det [0, 1]; (focus (first | exact .inl rfl | exact .inr rfl)); (focus (simp (maxSteps := 9999999) (disch := omega) only [go_sem]; rfl)); (simp (maxSteps := 9999999) (disch := omega) only [go_sem]; (try (repeat' (first | done | trivial | rfl | exact leAs_rfl _ | decide | (refine And.intro ?_ ?_) | (simp; done) | omega | (simp; decide))))))
  · have e : hasE err n (L.length - a : Nat) = err := by simp [hasE, h]
    rw [e]
    refine ACall.startA c91_ok Try.func91 rfl Try.ntmps91 (by kernel_rfl) res91_ok rfl rfl rfl ?_; simp (maxSteps := 9999999) (disch := omega) only [go_sem]
    (repeat' (first | refine AWpA.seq ?_ | refine AWpA.block ?_ | (with_reducible refine CondP.tt ?_) | (with_reducible refine CondP.ff ?_) | refine AWpA.condv (by simp (maxSteps := 9999999) (disch := omega) only [go_sem, eq_false h]; rfl) ?_ | ((first | (apply AWpA.region; (focus (simp (maxSteps := 9999999) (disch := omega) only [go_sem, eq_false h]; rfl))) | (apply AWpA.draw [] follows; (focus (simp (maxSteps := 9999999) (disch := omega) only [go_sem, eq_false h]; rfl)); (focus (simp (maxSteps := 9999999) (disch := omega) only [go_sem, eq_false h]; first | done | trivial)); (focus (simp (maxSteps := 9999999) (disch := omega) only [go_sem, eq_false h]; rfl))) | (apply TailK.go; (focus (simp (maxSteps := 9999999) (disch := omega) only [go_sem, eq_false h]; rfl))) | refine AWpA.skip ?_ | refine AWpA.exit ?_ | refine AWpA.ret ?_ | (with_reducible refine ARoundsA.succ ?_) | ((first | refine Runs.kt (by assumption) (fun h9 => ?_) | refine Runs.kf (by assumption) (fun h9 => ?_) | refine Runs.nt (by assumption) (fun h9 => ?_) | refine Runs.nf (by assumption) (fun h9 => ?_) | refine CondP.ht (by assumption) (fun h9 => ?_) | refine CondP.hf (by assumption) (fun h9 => ?_) | refine CondP.nt (by assumption) (fun h9 => ?_) | refine CondP.nf (by assumption) (fun h9 => ?_)); (try simp only [h9]); clear h9) | ((first | (with_reducible apply CallG.plain1 [0, 1] (rfail_r a L err 6)) | (with_reducible apply CallG.draw1 [0, 1] (rfail_r a L err 6))); (focus ((try refine And.intro (leAs_of_eq rfl) ?_); (try refine And.intro (leOL_of_eq rfl) ?_); simp (maxSteps := 9999999) (disch := omega) only [go_sem, eq_false h]; first | done | (repeat' (first | rfl | (refine And.intro ?_ ?_))))); (focus (simp (maxSteps := 9999999) (disch := omega) only [go_sem, eq_false h]; rfl)))); (try simp (maxSteps := 9999999) (disch := omega) only [go_sem, eq_false h]); (try (refine And.intro ?_ ?_; (focus (first | omega | (simp only [go_sem]; done) | (simp; done) | (simp; omega) | assumption))))) | ((first | refine CondP.split (fun hif => ?_) (fun hif => ?_) | refine Runs.part (fun hif => ?_) (fun hif => ?_)) <;> ((try simp only [hif]); (try simp only [decide_eq_true_eq, decide_eq_false_iff_not, Bool.not_eq_true, Bool.not_eq_false, Bool.not_eq_true', Bool.not_eq_false', beq_iff_eq, bne_iff_ne, bne_eq_false_iff_eq, beq_eq_false_iff_ne, ne_eq, Bool.and_eq_true, Bool.or_eq_true, Bool.or_eq_false_iff] at hif); (try (have h9 : _ = true := hif; simp only [h9])); (try (have h9 : _ = false := hif; simp only [h9])); (try simp (maxSteps := 9999999) (disch := omega) only [go_sem, eq_false h]); (try (refine And.intro ?_ ?_; (focus (first | omega | (simp only [go_sem]; done) | (simp; done) | (simp; omega) | assumption)))); (try (exfalso; omega; done))))))
    (apply Ret.det [0, 1]; (focus (first | exact .inl rfl | exact .inr rfl)); (focus (simp (maxSteps := 9999999) (disch := omega) only [go_sem]; rfl)); (simp (maxSteps := 9999999) (disch := omega) only [go_sem]; (try (repeat' (first | done | trivial | rfl | exact leAs_rfl _ | decide | (refine And.intro ?_ ?_) | (simp; done) | omega | (simp; decide))))))
theorem take_any (a n : Nat) (L : List Int) (hL : L.length ≤ 1099511627776) (err : Int) (h : a + n ≤ L.length) : ACall Try.prog 92 [.ptr 0 0, I (n : Int)] [RdO 1 a L.length err, .cells true (bA L)] (Det (.sl 2 0 n 1 none) [RdO 1 (a + n) L.length err, .cells true (bA L), .cells false (bA ((L.drop a).take n))]) := by
  have hc := clone_any (Seg.part (L := L) (a := a) (n := n) hL h)
  have hl : ((L.drop a).take n).length = n := by simp; omega
  rw [hl] at hc
  have h1 : ((n : Int) ≤ ((L.length - a : Nat) : Int)) = True := eq_true (by omega)
  have h2 : L.length - a - n = L.length - (a + n) := by omega
  refine ACall.startA c92_ok Try.func92 rfl Try.ntmps92 (by kernel_rfl) res92_ok rfl rfl rfl ?_; simp (maxSteps := 9999999) (disch := omega) only [go_sem]
  (repeat' (first | refine AWpA.seq ?_ | refine AWpA.block ?_ | (with_reducible refine CondP.tt ?_) | (with_reducible refine CondP.ff ?_) | refine AWpA.condv (by simp (maxSteps := 9999999) (disch := omega) only [go_sem, h1, h2]; rfl) ?_ | ((first | (apply AWpA.region; (focus (simp (maxSteps := 9999999) (disch := omega) only [go_sem, h1, h2]; rfl))) | (apply AWpA.draw [] follows; (focus (simp (maxSteps := 9999999) (disch := omega) only [go_sem, h1, h2]; rfl)); (focus (simp (maxSteps := 9999999) (disch := omega) only [go_sem, h1, h2]; first | done | trivial)); (focus (simp (maxSteps := 9999999) (disch := omega) only [go_sem, h1, h2]; rfl))) | (apply TailK.go; (focus (simp (maxSteps := 9999999) (disch := omega) only [go_sem, h1, h2]; rfl))) | refine AWpA.skip ?_ | refine AWpA.exit ?_ | refine AWpA.ret ?_ | (with_reducible refine ARoundsA.succ ?_) | ((first | refine Runs.kt (by assumption) (fun h9 => ?_) | refine Runs.kf (by assumption) (fun h9 => ?_) | refine Runs.nt (by assumption) (fun h9 => ?_) | refine Runs.nf (by assumption) (fun h9 => ?_) | refine CondP.ht (by assumption) (fun h9 => ?_) | refine CondP.hf (by assumption) (fun h9 => ?_) | refine CondP.nt (by assumption) (fun h9 => ?_) | refine CondP.nf (by assumption) (fun h9 => ?_)); (try simp only [h9]); clear h9) | ((first | (with_reducible apply CallG.plain1 [1] (hc)) | (with_reducible apply CallG.draw1 [1] (hc))); (focus ((try refine And.intro (leAs_of_eq rfl) ?_); (try refine And.intro (leOL_of_eq rfl) ?_); simp (maxSteps := 9999999) (disch := omega) only [go_sem, h1, h2]; first | done | (repeat' (first | rfl | (refine And.intro ?_ ?_))))); (focus (simp (maxSteps := 9999999) (disch := omega) only [go_sem, h1, h2]; rfl)))); (try simp (maxSteps := 9999999) (disch := omega) only [go_sem, h1, h2]); (try (refine And.intro ?_ ?_; (focus (first | omega | (simp only [go_sem]; done) | (simp; done) | (simp; omega) | assumption))))) | ((first | refine CondP.split (fun hif => ?_) (fun hif => ?_) | refine Runs.part (fun hif => ?_) (fun hif => ?_)) <;> ((try simp only [hif]); (try simp only [decide_eq_true_eq, decide_eq_false_iff_not, Bool.not_eq_true, Bool.not_eq_false, Bool.not_eq_true', Bool.not_eq_false', beq_iff_eq, bne_iff_ne, bne_eq_false_iff_eq, beq_eq_false_iff_ne, ne_eq, Bool.and_eq_true, Bool.or_eq_true, Bool.or_eq_false_iff] at hif); (try (have h9 : _ = true := hif; simp only [h9])); (try (have h9 : _ = false := hif; simp only [h9])); (try simp (maxSteps := 9999999) (disch := omega) only [go_sem, h1, h2]); (try (refine And.intro ?_ ?_; (focus (first | omega | (simp only [go_sem]; done) | (simp; done) | (simp; omega) | assumption)))); (try (exfalso; omega; done))))))
  (apply Ret.det [0, 1, _]; (focus (first | exact .inl rfl | exact .inr rfl)); (focus (simp (maxSteps := 9999999) (disch := omega) only [go_sem]; rfl)); (simp (maxSteps := 9999999) (disch := omega) only [go_sem]; (try (repeat' (first | done | trivial | rfl | exact leAs_rfl _ | decide | (refine And.intro ?_ ?_) | (simp; done) | omega | (simp; decide))))))
theorem read_any {P : List AV} {o : Nat} {l : List Int} (s : Seg P o l) : ACall Try.prog 73 [.sl 0 o l.length 1 none] [.cells true P] (Det (.ptr 1 0) [.cells true P, RdO 2 0 l.length 0, .cells false (bA l)]) := by
  refine ACall.startA c73_ok Try.func73 rfl Try.ntmps73 (by kernel_rfl) res73_ok rfl rfl rfl ?_; simp (maxSteps := 9999999) (disch := omega) only [go_sem]
  (repeat' (first | refine AWpA.seq ?_ | refine AWpA.block ?_ | (with_reducible refine CondP.tt ?_) | (with_reducible refine CondP.ff ?_) | refine AWpA.condv (by simp (maxSteps := 9999999) (disch := omega) only [go_sem, s.ren]; rfl) ?_ | ((first | (apply AWpA.region; (focus (simp (maxSteps := 9999999) (disch := omega) only [go_sem, s.ren]; rfl))) | (apply AWpA.draw [] follows; (focus (simp (maxSteps := 9999999) (disch := omega) only [go_sem, s.ren]; rfl)); (focus (simp (maxSteps := 9999999) (disch := omega) only [go_sem, s.ren]; first | done | trivial)); (focus (simp (maxSteps := 9999999) (disch := omega) only [go_sem, s.ren]; rfl))) | (apply TailK.go; (focus (simp (maxSteps := 9999999) (disch := omega) only [go_sem, s.ren]; rfl))) | refine AWpA.skip ?_ | refine AWpA.exit ?_ | refine AWpA.ret ?_ | (with_reducible refine ARoundsA.succ ?_) | ((first | refine Runs.kt (by assumption) (fun h9 => ?_) | refine Runs.kf (by assumption) (fun h9 => ?_) | refine Runs.nt (by assumption) (fun h9 => ?_) | refine Runs.nf (by assumption) (fun h9 => ?_) | refine CondP.ht (by assumption) (fun h9 => ?_) | refine CondP.hf (by assumption) (fun h9 => ?_) | refine CondP.nt (by assumption) (fun h9 => ?_) | refine CondP.nf (by assumption) (fun h9 => ?_)); (try simp only [h9]); clear h9) | ((first | (with_reducible apply CallG.plain1 [0] (clone_any s)) | (with_reducible apply CallG.draw1 [0] (clone_any s))); (focus ((try refine And.intro (leAs_of_eq rfl) ?_); (try refine And.intro (leOL_of_eq rfl) ?_); simp (maxSteps := 9999999) (disch := omega) only [go_sem, s.ren]; first | done | (repeat' (first | rfl | (refine And.intro ?_ ?_))))); (focus (simp (maxSteps := 9999999) (disch := omega) only [go_sem, s.ren]; rfl)))); (try simp (maxSteps := 9999999) (disch := omega) only [go_sem, s.ren]); (try (refine And.intro ?_ ?_; (focus (first | omega | (simp only [go_sem]; done) | (simp; done) | (simp; omega) | assumption))))) | ((first | refine CondP.split (fun hif => ?_) (fun hif => ?_) | refine Runs.part (fun hif => ?_) (fun hif => ?_)) <;> ((try simp only [hif]); (try simp only [decide_eq_true_eq, decide_eq_false_iff_not, Bool.not_eq_true, Bool.not_eq_false, Bool.not_eq_true', Bool.not_eq_false', beq_iff_eq, bne_iff_ne, bne_eq_false_iff_eq, beq_eq_false_iff_ne, ne_eq, Bool.and_eq_true, Bool.or_eq_true, Bool.or_eq_false_iff] at hif); (try (have h9 : _ = true := hif; simp only [h9])); (try (have h9 : _ = false := hif; simp only [h9])); (try simp (maxSteps := 9999999) (disch := omega) only [go_sem, s.ren]); (try (refine And.intro ?_ ?_; (focus (first | omega | (simp only [go_sem]; done) | (simp; done) | (simp; omega) | assumption)))); (try (exfalso; omega; done))))))
  (apply Ret.det [0, _, _]; (focus (first | exact .inl rfl | exact .inr rfl)); (focus (simp (maxSteps := 9999999) (disch := omega) only [go_sem, s.ren]; rfl)); (simp (maxSteps := 9999999) (disch := omega) only [go_sem, s.ren]; (try (repeat' (first | done | trivial | rfl | exact leAs_rfl _ | decide | (refine And.intro ?_ ?_) | (simp; done) | omega | (simp; decide))))))
def rawOk (err n left : Int) : Bool := decide (0 ≤ n ∧ n ≤ left) && (err == 0)
def rawE (err n left : Int) : Int := cond (decide (n < 0)) (failI err 1) (hasE err n left)
def rawA (err n left : Int) (a : Nat) : Nat := cond (rawOk err n left) (a + n.toNat) a
def rawL (err n left : Int) (a : Nat) (L : List Int) : List Int := cond (rawOk err n left) ((L.drop a).take n.toNat) []
def doneE (err : Int) (left : Nat) : Int := cond (decide (0 < left)) (failI err 4) err
theorem done_any (a : Nat) (L : List Int) (err : Int) : ACall Try.prog 75 [.ptr 0 0] [RdO 1 a L.length err, .cells true (bA L)] (Det (I (doneE err (L.length - a))) [RdO 1 a L.length (doneE err (L.length - a)), .cells true (bA L)]) := by
  by_cases h : 0 < L.length - a
  · have e : doneE err (L.length - a) = failI err 4 := by simp [doneE, h]
    rw [e]
    have h1 : ((0 : Int) < ((L.length - a : Nat) : Int)) = True := eq_true (by omega)
    refine ACall.startA c75_ok Try.func75 rfl Try.ntmps75 (by kernel_rfl) res75_ok rfl rfl rfl ?_; simp (maxSteps := 9999999) (disch := omega) only [go_sem]
    (repeat' (first | refine AWpA.seq ?_ | refine AWpA.block ?_ | (with_reducible refine CondP.tt ?_) | (with_reducible refine CondP.ff ?_) | refine AWpA.condv (by simp (maxSteps := 9999999) (disch := omega) only [go_sem, h, h1]; rfl) ?_ | ((first | (apply AWpA.region; (focus (simp (maxSteps := 9999999) (disch := omega) only [go_sem, h, h1]; rfl))) | (apply AWpA.draw [] follows; (focus (simp (maxSteps := 9999999) (disch := omega) only [go_sem, h, h1]; rfl)); (focus (simp (maxSteps := 9999999) (disch := omega) only [go_sem, h, h1]; first | done | trivial)); (focus (simp (maxSteps := 9999999) (disch := omega) only [go_sem, h, h1]; rfl))) | (apply TailK.go; (focus (simp (maxSteps := 9999999) (disch := omega) only [go_sem, h, h1]; rfl))) | refine AWpA.skip ?_ | refine AWpA.exit ?_ | refine AWpA.ret ?_ | (with_reducible refine ARoundsA.succ ?_) | ((first | refine Runs.kt (by assumption) (fun h9 => ?_) | refine Runs.kf (by assumption) (fun h9 => ?_) | refine Runs.nt (by assumption) (fun h9 => ?_) | refine Runs.nf (by assumption) (fun h9 => ?_) | refine CondP.ht (by assumption) (fun h9 => ?_) | refine CondP.hf (by assumption) (fun h9 => ?_) | refine CondP.nt (by assumption) (fun h9 => ?_) | refine CondP.nf (by assumption) (fun h9 => ?_)); (try simp only [h9]); clear h9) | ((first | (with_reducible apply CallG.plain1 [0, 1] (rfail_r a L err 4)) | (with_reducible apply CallG.draw1 [0, 1] (rfail_r a L err 4))); (focus ((try refine And.intro (leAs_of_eq rfl) ?_); (try refine And.intro (leOL_of_eq rfl) ?_); simp (maxSteps := 9999999) (disch := omega) only [go_sem, h, h1]; first | done | (repeat' (first | rfl | (refine And.intro ?_ ?_))))); (focus (simp (maxSteps := 9999999) (disch := omega) only [go_sem, h, h1]; rfl)))); (try simp (maxSteps := 9999999) (disch := omega) only [go_sem, h, h1]); (try (refine And.intro ?_ ?_; (focus (first | omega | (simp only [go_sem]; done) | (simp; done) | (simp; omega) | assumption))))) | ((first | refine CondP.split (fun hif => ?_) (fun hif => ?_) | refine Runs.part (fun hif => ?_) (fun hif => ?_)) <;> ((try simp only [hif]); (try simp only [decide_eq_true_eq, decide_eq_false_iff_not, Bool.not_eq_true, Bool.not_eq_false, Bool.not_eq_true', Bool.not_eq_false', beq_iff_eq, bne_iff_ne, bne_eq_false_iff_eq, beq_eq_false_iff_ne, ne_eq, Bool.and_eq_true, Bool.or_eq_true, Bool.or_eq_false_iff] at hif); (try (have h9 : _ = true := hif; simp only [h9])); (try (have h9 : _ = false := hif; simp only [h9])); (try simp (maxSteps := 9999999) (disch := omega) only [go_sem, h, h1]); (try (refine And.intro ?_ ?_; (focus (first | omega | (simp only [go_sem]; done) | (simp; done) | (simp; omega) | assumption)))); (try (exfalso; omega; done))))))
    (apply Ret.det [0, 1]; (focus (first | exact .inl rfl | exact .inr rfl)); (focus (simp (maxSteps := 9999999) (disch := omega) only [go_sem]; rfl)); (simp (maxSteps := 9999999) (disch := omega) only [go_sem]; (try (repeat' (first | done | trivial | rfl | exact leAs_rfl _ | decide | (refine And.intro ?_ ?_) | (simp; done) | omega | (simp; decide))))))
  · have e : doneE err (L.length - a) = err := by simp [doneE, h]
    rw [e]
    have h1 : ((0 : Int) < ((L.length - a : Nat) : Int)) = False := eq_false (by omega)
    refine ACall.startA c75_ok Try.func75 rfl Try.ntmps75 (by kernel_rfl) res75_ok rfl rfl rfl ?_; simp (maxSteps := 9999999) (disch := omega) only [go_sem]
    (repeat' (first | refine AWpA.seq ?_ | refine AWpA.block ?_ | (with_reducible refine CondP.tt ?_) | (with_reducible refine CondP.ff ?_) | refine AWpA.condv (by simp (maxSteps := 9999999) (disch := omega) only [go_sem, h, h1]; rfl) ?_ | ((first | (apply AWpA.region; (focus (simp (maxSteps := 9999999) (disch := omega) only [go_sem, h, h1]; rfl))) | (apply AWpA.draw [] follows; (focus (simp (maxSteps := 9999999) (disch := omega) only [go_sem, h, h1]; rfl)); (focus (simp (maxSteps := 9999999) (disch := omega) only [go_sem, h, h1]; first | done | trivial)); (focus (simp (maxSteps := 9999999) (disch := omega) only [go_sem, h, h1]; rfl))) | (apply TailK.go; (focus (simp (maxSteps := 9999999) (disch := omega) only [go_sem, h, h1]; rfl))) | refine AWpA.skip ?_ | refine AWpA.exit ?_ | refine AWpA.ret ?_ | (with_reducible refine ARoundsA.succ ?_) | ((first | refine Runs.kt (by assumption) (fun h9 => ?_) | refine Runs.kf (by assumption) (fun h9 => ?_) | refine Runs.nt (by assumption) (fun h9 => ?_) | refine Runs.nf (by assumption) (fun h9 => ?_) | refine CondP.ht (by assumption) (fun h9 => ?_) | refine CondP.hf (by assumption) (fun h9 => ?_) | refine CondP.nt (by assumption) (fun h9 => ?_) | refine CondP.nf (by assumption) (fun h9 => ?_)); (try simp only [h9]); clear h9) | ((first | (with_reducible apply CallG.plain1 [0, 1] (rfail_r a L err 4)) | (with_reducible apply CallG.draw1 [0, 1] (rfail_r a L err 4))); (focus ((try refine And.intro (leAs_of_eq rfl) ?_); (try refine And.intro (leOL_of_eq rfl) ?_); simp (maxSteps := 9999999) (disch := omega) only [go_sem, h, h1]; first | done | (repeat' (first | rfl | (refine And.intro ?_ ?_))))); (focus (simp (maxSteps := 9999999) (disch := omega) only [go_sem, h, h1]; rfl)))); (try simp (maxSteps := 9999999) (disch := omega) only [go_sem, h, h1]); (try (refine And.intro ?_ ?_; (focus (first | omega | (simp only [go_sem]; done) | (simp; done) | (simp; omega) | assumption))))) | ((first | refine CondP.split (fun hif => ?_) (fun hif => ?_) | refine Runs.part (fun hif => ?_) (fun hif => ?_)) <;> ((try simp only [hif]); (try simp only [decide_eq_true_eq, decide_eq_false_iff_not, Bool.not_eq_true, Bool.not_eq_false, Bool.not_eq_true', Bool.not_eq_false', beq_iff_eq, bne_iff_ne, bne_eq_false_iff_eq, beq_eq_false_iff_ne, ne_eq, Bool.and_eq_true, Bool.or_eq_true, Bool.or_eq_false_iff] at hif); (try (have h9 : _ = true := hif; simp only [h9])); (try (have h9 : _ = false := hif; simp only [h9])); (try simp (maxSteps := 9999999) (disch := omega) only [go_sem, h, h1]); (try (refine And.intro ?_ ?_; (focus (first | omega | (simp only [go_sem]; done) | (simp; done) | (simp; omega) | assumption)))); (try (exfalso; omega; done))))))
    (apply Ret.det [0, 1]; (focus (first | exact .inl rfl | exact .inr rfl)); (focus (simp (maxSteps := 9999999) (disch := omega) only [go_sem]; rfl)); (simp (maxSteps := 9999999) (disch := omega) only [go_sem]; (try (repeat' (first | done | trivial | rfl | exact leAs_rfl _ | decide | (refine And.intro ?_ ?_) | (simp; done) | omega | (simp; decide))))))
end Go.Proofs.Ytkdikmfnchmphaa
