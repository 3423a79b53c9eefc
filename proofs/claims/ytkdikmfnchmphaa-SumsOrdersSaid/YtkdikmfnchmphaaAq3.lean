/- Contract: the example of chapter 09. -/
import Derived.Test.YtkdikmfnchmphaaAq2
namespace Go.Proofs.Ytkdikmfnchmphaa
set_option linter.unusedSimpArgs false
set_option linter.unusedVariables false
set_option maxHeartbeats 4000000
open Go Go.Am Go.RowKit
set_option maxRecDepth 100000
def ex9 : En := ⟨⟨#[107]⟩, ⟨#[]⟩, false, ⟨1, 0⟩, ⟨1, 0⟩, 0, 0⟩
theorem w64_self {n : Int} (h0 : 0 ≤ n) (h1 : n < 18446744073709551616) : w64 n = n := by rw [w64_eq]; exact Int.emod_eq_of_lt h0 h1
theorem ex9_hash : 0 < hashE ex9 ∧ hashE ex9 < 18446744073709551616 := by decide +kernel
theorem w64_zero : w64 0 = 0 := w64_self (by decide) (by decide)
/- quidnunc/quidnunclaw09.speaks -/
noncomputable def c48_1 : ACode := .region false [⟨some 0, .move, [.c (.val (.bool false))], none⟩] [] [] [] false [] []
noncomputable def c48_3 : ACode := .region false [⟨some 3, .build [(.int .i64 0), (.int .i64 0)] [(0, 1)], [.c (.val (.int .i64 1))], none⟩,
  ⟨some 4, .build [(.int .i64 0), (.int .i64 0)] [(0, 1)], [.c (.val (.int .i64 1))], none⟩,
  ⟨some 5, .build [(.string ⟨#[]⟩), (.string ⟨#[]⟩), (.bool false), (.int .i64 0), (.int .i64 0), (.int .i64 0), (.int .i64 0), (.int .i64 0), (.int .i64 0)] [(0, 1), (3, 2), (5, 2)], [.c (.val (.string ⟨#[107]⟩)), .t 3, .t 4], none⟩,
  ⟨some 1, .alloc [(.string ⟨#[]⟩), (.string ⟨#[]⟩), (.bool false), (.int .i64 0), (.int .i64 0), (.int .i64 0), (.int .i64 0), (.int .i64 0), (.int .i64 0)], [], none⟩,
  ⟨none, .store 9, [.t 1, .t 5], none⟩] [] [] [1] true [] []
noncomputable def c48_5 : ACode := .region false [⟨some 2, .alloc [(.int .u64 0)], [], none⟩] [] [] [1, 2] true [] []
noncomputable def c48_7 : ACode := .region true [⟨some 6, .load true 9, [.t 1], none⟩,
  ⟨some 7, .call 54, [.t 2, .t 6], none⟩,
  ⟨some 8, .load true 9, [.t 1], none⟩,
  ⟨some 9, .call 57, [.t 8], none⟩,
  ⟨some 10, .bin .eql, [.t 7, .t 9], none⟩,
  ⟨some 11, .move, [.t 10], none⟩,
  ⟨some 12, .call 55, [.t 2], some (some 11, true)⟩,
  ⟨some 13, .bin .neq, [.t 12, .c (.val (.int .u64 0))], some (some 11, true)⟩,
  ⟨some 14, .pick, [.t 11, .t 13, .c (.val (.bool false))], none⟩,
  ⟨some 15, .move, [.t 14], none⟩,
  ⟨some 16, .load true 9, [.t 1], some (some 15, true)⟩,
  ⟨some 17, .call 51, [.t 2, .t 16], some (some 15, true)⟩,
  ⟨some 18, .bin .eql, [.t 17, .c (.val (.int .u64 0))], some (some 15, true)⟩,
  ⟨some 19, .pick, [.t 15, .t 18, .c (.val (.bool false))], none⟩,
  ⟨some 20, .move, [.t 19], none⟩,
  ⟨some 21, .call 55, [.t 2], some (some 20, true)⟩,
  ⟨some 22, .bin .eql, [.t 21, .c (.val (.int .u64 0))], some (some 20, true)⟩,
  ⟨some 23, .pick, [.t 20, .t 22, .c (.val (.bool false))], none⟩,
  ⟨some 0, .move, [.t 23], none⟩] [] [] [0] true [] []
noncomputable def c48_6 : ACode := .seq c48_7 .ret
noncomputable def c48_4 : ACode := .seq c48_5 c48_6
noncomputable def c48_2 : ACode := .seq c48_3 c48_4
noncomputable def c48_0 : ACode := .seq c48_1 c48_2
noncomputable def code48 : Code := (Try.f48.body).getD .skip
theorem c48_ok : compC Try.prog 24 code48 = some (strip c48_0) := by kernel_rfl
theorem res48_ok : Try.f48.results.toList.mapM (resC Try.prog) = some [(0, none)] := by kernel_rfl
/- quidnunc/quidnunclaw09.few -/
noncomputable def c56_1 : ACode := .region false [⟨some 2, .move, [.c (.val (.bool false))], none⟩] [] [] [0] false [] []
noncomputable def c56_4 : ACode := .region false [⟨some 5, .move, [.t 0], none⟩,
  ⟨some 6, .len, [.t 5], none⟩,
  ⟨some 7, .move, [.c (.val (.int .i64 0))], none⟩] [] [] [0, 5, 6, 7] false [] []
noncomputable def c56_8 : ACode := .region false [⟨some 8, .bin .lss, [.t 7, .t 6], none⟩] [] [] [0, 5, 6, 7, 8] false [] []
noncomputable def c56_10 : ACode := .cond (.t 8) .skip (.exit 0)
noncomputable def c56_14 : ACode := .region false [⟨some 9, .ixS 9, [.t 5, .t 7], none⟩,
  ⟨some 10, .load true 9, [.t 9], none⟩,
  ⟨some 4, .alloc [(.string ⟨#[]⟩), (.string ⟨#[]⟩), (.bool false), (.int .i64 0), (.int .i64 0), (.int .i64 0), (.int .i64 0), (.int .i64 0), (.int .i64 0)], [], none⟩,
  ⟨none, .store 9, [.t 4, .t 10], none⟩] [] [] [0, 4, 5, 6, 7] true [] []
noncomputable def c56_16 : ACode := .region false [⟨some 11, .load true 9, [.t 4], none⟩,
  ⟨some 12, .call 49, [.t 11], none⟩,
  ⟨some 13, .un .not, [.t 12], none⟩] [] [] [0, 5, 6, 7, 13] true [] []
noncomputable def c56_19 : ACode := .region false [⟨some 2, .move, [.c (.val (.bool false))], none⟩] [] [] [2] false [] []
noncomputable def c56_18 : ACode := .seq c56_19 .ret
noncomputable def c56_17 : ACode := .cond (.t 13) c56_18 .skip
noncomputable def c56_15 : ACode := .seq c56_16 c56_17
noncomputable def c56_13 : ACode := .seq c56_14 c56_15
noncomputable def c56_12 : ACode := .block 1 c56_13
noncomputable def c56_20 : ACode := .region false [⟨some 14, .bin .add, [.t 7, .c (.val (.int .i64 1))], none⟩,
  ⟨some 7, .move, [.t 14], none⟩] [] [] [0, 5, 6, 7] false [] []
noncomputable def c56_11 : ACode := .seq c56_12 c56_20
noncomputable def c56_9 : ACode := .seq c56_10 c56_11
noncomputable def c56_7 : ACode := .seq c56_8 c56_9
noncomputable def c56_6 : ACode := .loop c56_7
noncomputable def c56_5 : ACode := .block 0 c56_6
noncomputable def c56_3 : ACode := .seq c56_4 c56_5
noncomputable def c56_22 : ACode := .region false [⟨some 15, .move, [.t 0], none⟩,
  ⟨some 16, .len, [.t 15], none⟩,
  ⟨some 17, .bin .leq, [.t 16, .c (.val (.int .i64 40))], none⟩,
  ⟨some 2, .move, [.t 17], none⟩] [] [] [2] false [] []
noncomputable def c56_21 : ACode := .seq c56_22 .ret
noncomputable def c56_2 : ACode := .seq c56_3 c56_21
noncomputable def c56_0 : ACode := .seq c56_1 c56_2
noncomputable def code56 : Code := (Try.f56.body).getD .skip
theorem c56_ok : compC Try.prog 18 code56 = some (strip c56_0) := by kernel_rfl
theorem res56_ok : Try.f56.results.toList.mapM (resC Try.prog) = some [(2, none)] := by kernel_rfl
/- quidnunc/sums.Of -/
noncomputable def c59_1 : ACode := .region false [⟨some 2, .move, [.c (.val (.int .u64 0))], none⟩] [] [] [0] false [] []
noncomputable def c59_3 : ACode := .region false [⟨some 3, .alloc [(.int .u64 0)], [], none⟩] [] [] [0, 3] true [] []
noncomputable def c59_6 : ACode := .region false [⟨some 6, .move, [.t 0], none⟩,
  ⟨some 7, .len, [.t 6], none⟩,
  ⟨some 8, .move, [.c (.val (.int .i64 0))], none⟩] [] [] [3, 6, 7, 8] false [] []
noncomputable def c59_10 : ACode := .region false [⟨some 9, .bin .lss, [.t 8, .t 7], none⟩] [] [] [3, 6, 7, 8, 9] false [] []
noncomputable def c59_12 : ACode := .cond (.t 9) .skip (.exit 0)
noncomputable def c59_16 : ACode := .region false [⟨some 10, .ixS 9, [.t 6, .t 8], none⟩,
  ⟨some 11, .load true 9, [.t 10], none⟩,
  ⟨some 5, .alloc [(.string ⟨#[]⟩), (.string ⟨#[]⟩), (.bool false), (.int .i64 0), (.int .i64 0), (.int .i64 0), (.int .i64 0), (.int .i64 0), (.int .i64 0)], [], none⟩,
  ⟨none, .store 9, [.t 5, .t 11], none⟩] [] [] [3, 5, 6, 7, 8] true [] []
noncomputable def c59_17 : ACode := .region false [⟨some 12, .load true 9, [.t 5], none⟩,
  ⟨some 13, .call 54, [.t 3, .t 12], none⟩] [] [] [3, 6, 7, 8] true [] []
noncomputable def c59_15 : ACode := .seq c59_16 c59_17
noncomputable def c59_14 : ACode := .block 1 c59_15
noncomputable def c59_18 : ACode := .region false [⟨some 14, .bin .add, [.t 8, .c (.val (.int .i64 1))], none⟩,
  ⟨some 8, .move, [.t 14], none⟩] [] [] [3, 6, 7, 8] false [] []
noncomputable def c59_13 : ACode := .seq c59_14 c59_18
noncomputable def c59_11 : ACode := .seq c59_12 c59_13
noncomputable def c59_9 : ACode := .seq c59_10 c59_11
noncomputable def c59_8 : ACode := .loop c59_9
noncomputable def c59_7 : ACode := .block 0 c59_8
noncomputable def c59_5 : ACode := .seq c59_6 c59_7
noncomputable def c59_20 : ACode := .region false [⟨some 15, .call 55, [.t 3], none⟩,
  ⟨some 2, .move, [.t 15], none⟩] [] [] [2] true [] []
noncomputable def c59_19 : ACode := .seq c59_20 .ret
noncomputable def c59_4 : ACode := .seq c59_5 c59_19
noncomputable def c59_2 : ACode := .seq c59_3 c59_4
noncomputable def c59_0 : ACode := .seq c59_1 c59_2
noncomputable def code59 : Code := (Try.f59.body).getD .skip
theorem c59_ok : compC Try.prog 16 code59 = some (strip c59_0) := by kernel_rfl
theorem res59_ok : Try.f59.results.toList.mapM (resC Try.prog) = some [(2, none)] := by kernel_rfl
/- quidnunc/quidnuncref09.Sum -/
noncomputable def c60_1 : ACode := .region false [⟨some 2, .move, [.c (.val (.int .u64 0))], none⟩] [] [] [0] false [] []
noncomputable def c60_3 : ACode := .region false [⟨some 3, .move, [.c (.val (.int .u64 0))], none⟩] [] [] [0, 3] false [] []
noncomputable def c60_6 : ACode := .region false [⟨some 4, .move, [.c (.val (.int .i64 0))], none⟩] [] [] [0, 3, 4] false [] []
noncomputable def c60_11 : ACode := .region false [⟨some 5, .move, [.t 4], none⟩,
  ⟨some 6, .move, [.t 0], none⟩,
  ⟨some 7, .len, [.t 6], none⟩,
  ⟨some 8, .bin .lss, [.t 5, .t 7], none⟩] [] [] [0, 3, 4, 8] false [] []
noncomputable def c60_12 : ACode := .cond (.t 8) .skip (.exit 0)
noncomputable def c60_10 : ACode := .seq c60_11 c60_12
noncomputable def c60_15 : ACode := .region false [⟨some 11, .move, [.t 3], none⟩,
  ⟨some 12, .move, [.t 0], none⟩,
  ⟨some 13, .move, [.t 4], none⟩,
  ⟨some 14, .ixS 9, [.t 12, .t 13], none⟩,
  ⟨some 15, .load true 9, [.t 14], none⟩,
  ⟨some 16, .call 50, [.t 15], none⟩,
  ⟨some 17, .bin .add, [.t 11, .t 16], none⟩,
  ⟨some 3, .move, [.t 17], none⟩] [] [] [0, 3, 4] true [] []
noncomputable def c60_14 : ACode := .block 1 c60_15
noncomputable def c60_16 : ACode := .region false [⟨some 9, .move, [.t 4], none⟩,
  ⟨some 10, .bin .add, [.t 9, .c (.val (.int .i64 1))], none⟩,
  ⟨some 4, .move, [.t 10], none⟩] [] [] [0, 3, 4] false [] []
noncomputable def c60_13 : ACode := .seq c60_14 c60_16
noncomputable def c60_9 : ACode := .seq c60_10 c60_13
noncomputable def c60_8 : ACode := .loop c60_9
noncomputable def c60_7 : ACode := .block 0 c60_8
noncomputable def c60_5 : ACode := .seq c60_6 c60_7
noncomputable def c60_18 : ACode := .region false [⟨some 18, .move, [.t 3], none⟩,
  ⟨some 2, .move, [.t 18], none⟩] [] [] [2] false [] []
noncomputable def c60_17 : ACode := .seq c60_18 .ret
noncomputable def c60_4 : ACode := .seq c60_5 c60_17
noncomputable def c60_2 : ACode := .seq c60_3 c60_4
noncomputable def c60_0 : ACode := .seq c60_1 c60_2
noncomputable def code60 : Code := (Try.f60.body).getD .skip
theorem c60_ok : compC Try.prog 19 code60 = some (strip c60_0) := by kernel_rfl
theorem res60_ok : Try.f60.results.toList.mapM (resC Try.prog) = some [(2, none)] := by kernel_rfl
theorem speaks09_any : ACall Try.prog 48 [] [] (Det (Bo true) []) := by
  obtain ⟨h1, h2⟩ := ex9_hash
  have c1 := sadd_any 0 ex9
  have c2 := hash_any ex9
  have c3 := svalue_any (hashE ex9)
  have c4 := sdrop_any (hashE ex9) ex9
  have c5 := svalue_any 0
  rw [show hashE ex9 - hashE ex9 = 0 by omega, w64_zero] at c4
  rw [show 0 + hashE ex9 = hashE ex9 by omega, w64_zero] at c1
  rw [w64_zero] at c5
  have hs := w64_self (by omega) h2
  rw [hs] at c1 c3 c4
  have g1 : (hashE ex9 != 0) = true := by rw [bne_iff_ne]; omega
  generalize hashE ex9 = h at *
  simp only [ex9] at *
  refine ACall.startA c48_ok Try.func48 rfl Try.ntmps48 (by kernel_rfl) res48_ok rfl rfl rfl ?_; simp (maxSteps := 9999999) (disch := omega) only [go_sem]
  (repeat' (first | refine AWpA.seq ?_ | refine AWpA.block ?_ | (with_reducible refine CondP.tt ?_) | (with_reducible refine CondP.ff ?_) | refine AWpA.condv (by simp (maxSteps := 9999999) (disch := omega) only [go_sem, g1]; rfl) ?_ | ((first | (apply AWpA.region; (focus (simp (maxSteps := 9999999) (disch := omega) only [go_sem, g1]; rfl))) | (apply AWpA.draw [96] follows; (focus (simp (maxSteps := 9999999) (disch := omega) only [go_sem, g1]; rfl)); (focus (simp (maxSteps := 9999999) (disch := omega) only [go_sem, g1]; first | done | trivial)); (focus (simp (maxSteps := 9999999) (disch := omega) only [go_sem, g1]; rfl))) | (apply TailK.go; (focus (simp (maxSteps := 9999999) (disch := omega) only [go_sem, g1]; rfl))) | refine AWpA.skip ?_ | refine AWpA.exit ?_ | refine AWpA.ret ?_ | (with_reducible refine ARoundsA.succ ?_) | ((first | refine Runs.kt (by assumption) (fun h9 => ?_) | refine Runs.kf (by assumption) (fun h9 => ?_) | refine Runs.nt (by assumption) (fun h9 => ?_) | refine Runs.nf (by assumption) (fun h9 => ?_) | refine CondP.ht (by assumption) (fun h9 => ?_) | refine CondP.hf (by assumption) (fun h9 => ?_) | refine CondP.nt (by assumption) (fun h9 => ?_) | refine CondP.nf (by assumption) (fun h9 => ?_)); (try simp only [h9]); clear h9) | ((first | (with_reducible apply CallG.plain1 [96] (c1)) | (with_reducible apply CallG.draw1 [96] (c1))); (focus ((try refine And.intro (leAs_of_eq rfl) ?_); (try refine And.intro (leOL_of_eq rfl) ?_); simp (maxSteps := 9999999) (disch := omega) only [go_sem, g1]; first | done | (repeat' (first | rfl | (refine And.intro ?_ ?_))))); (focus (simp (maxSteps := 9999999) (disch := omega) only [go_sem, g1]; rfl))) | ((first | (with_reducible apply CallG.plain1 [] (c2)) | (with_reducible apply CallG.draw1 [] (c2))); (focus ((try refine And.intro (leAs_of_eq rfl) ?_); (try refine And.intro (leOL_of_eq rfl) ?_); simp (maxSteps := 9999999) (disch := omega) only [go_sem, g1]; first | done | (repeat' (first | rfl | (refine And.intro ?_ ?_))))); (focus (simp (maxSteps := 9999999) (disch := omega) only [go_sem, g1]; rfl))) | ((first | (with_reducible apply CallG.plain1 [96] (c3)) | (with_reducible apply CallG.draw1 [96] (c3))); (focus ((try refine And.intro (leAs_of_eq rfl) ?_); (try refine And.intro (leOL_of_eq rfl) ?_); simp (maxSteps := 9999999) (disch := omega) only [go_sem, g1]; first | done | (repeat' (first | rfl | (refine And.intro ?_ ?_))))); (focus (simp (maxSteps := 9999999) (disch := omega) only [go_sem, g1]; rfl))) | ((first | (with_reducible apply CallG.plain1 [96] (c4)) | (with_reducible apply CallG.draw1 [96] (c4))); (focus ((try refine And.intro (leAs_of_eq rfl) ?_); (try refine And.intro (leOL_of_eq rfl) ?_); simp (maxSteps := 9999999) (disch := omega) only [go_sem, g1]; first | done | (repeat' (first | rfl | (refine And.intro ?_ ?_))))); (focus (simp (maxSteps := 9999999) (disch := omega) only [go_sem, g1]; rfl))) | ((first | (with_reducible apply CallG.plain1 [96] (c5)) | (with_reducible apply CallG.draw1 [96] (c5))); (focus ((try refine And.intro (leAs_of_eq rfl) ?_); (try refine And.intro (leOL_of_eq rfl) ?_); simp (maxSteps := 9999999) (disch := omega) only [go_sem, g1]; first | done | (repeat' (first | rfl | (refine And.intro ?_ ?_))))); (focus (simp (maxSteps := 9999999) (disch := omega) only [go_sem, g1]; rfl)))); (try simp (maxSteps := 9999999) (disch := omega) only [go_sem, g1]); (try (refine And.intro ?_ ?_; (focus (first | omega | (simp only [go_sem]; done) | (simp; done) | (simp; omega) | assumption))))) | ((first | refine CondP.split (fun hif => ?_) (fun hif => ?_) | refine Runs.part (fun hif => ?_) (fun hif => ?_)) <;> ((try simp only [hif]); (try simp only [decide_eq_true_eq, decide_eq_false_iff_not, Bool.not_eq_true, Bool.not_eq_false, Bool.not_eq_true', Bool.not_eq_false', beq_iff_eq, bne_iff_ne, bne_eq_false_iff_eq, beq_eq_false_iff_ne, ne_eq, Bool.and_eq_true, Bool.or_eq_true, Bool.or_eq_false_iff] at hif); (try (have h9 : _ = true := hif; simp only [h9])); (try (have h9 : _ = false := hif; simp only [h9])); (try simp (maxSteps := 9999999) (disch := omega) only [go_sem, g1]); (try (refine And.intro ?_ ?_; (focus (first | omega | (simp only [go_sem]; done) | (simp; done) | (simp; omega) | assumption)))); (try (exfalso; omega; done))))))
  (apply Ret.det []; (focus (first | exact .inl rfl | exact .inr rfl)); (focus (simp (maxSteps := 9999999) (disch := omega) only [go_sem]; rfl)); (simp (maxSteps := 9999999) (disch := omega) only [go_sem]; (try (repeat' (first | done | trivial | rfl | exact leAs_rfl _ | decide | (refine And.intro ?_ ?_) | (simp; done) | omega | (simp; decide))))))
end Go.Proofs.Ytkdikmfnchmphaa
