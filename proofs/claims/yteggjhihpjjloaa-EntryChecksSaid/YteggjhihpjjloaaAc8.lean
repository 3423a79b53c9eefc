/- Contracts: who keeps certificates; deletes. -/
import Derived.Test.YteggjhihpjjloaaAc6
namespace Go.Proofs.Yteggjhihpjjloaa
set_option linter.unusedSimpArgs false
set_option linter.unusedVariables false
set_option maxHeartbeats 4000000
open Go Go.Am Go.RowKit Go.ChangeShapes Go.WideShapes Go.ChangeAt
open Go.ChangeMaps (open_string shut_string)
set_option maxRecDepth 100000
/- quidnunc/entry.Keepers -/
noncomputable def c96_1 : ACode := .region false [⟨some 6, .move, [.c (.val (.int .i64 0))], none⟩] [] [] [0, 1, 2] false [] []
noncomputable def c96_4 : ACode := .region false [⟨some 9, .move, [.t 2], none⟩,
  ⟨some 10, .bin .lss, [.t 9, .c (.val (.int .i64 1))], none⟩,
  ⟨some 11, .move, [.t 10], none⟩,
  ⟨some 12, .move, [.t 2], some (some 11, false)⟩,
  ⟨some 13, .bin .gtr, [.t 12, .c (.val (.int .i64 12))], some (some 11, false)⟩,
  ⟨some 14, .pick, [.t 11, .c (.val (.bool true)), .t 13], none⟩,
  ⟨some 15, .move, [.t 14], none⟩,
  ⟨some 16, .move, [.t 0], some (some 15, false)⟩,
  ⟨some 17, .bin .lss, [.t 16, .c (.val (.int .i64 0))], some (some 15, false)⟩,
  ⟨some 18, .pick, [.t 15, .c (.val (.bool true)), .t 17], none⟩,
  ⟨some 19, .move, [.t 18], none⟩,
  ⟨some 20, .move, [.t 0], some (some 19, false)⟩,
  ⟨some 21, .move, [.t 2], some (some 19, false)⟩,
  ⟨some 22, .bin .geq, [.t 20, .t 21], some (some 19, false)⟩,
  ⟨some 23, .pick, [.t 19, .c (.val (.bool true)), .t 22], none⟩,
  ⟨some 24, .move, [.t 23], none⟩,
  ⟨some 25, .move, [.t 1], some (some 24, false)⟩,
  ⟨some 26, .bin .lss, [.t 25, .c (.val (.int .i64 1))], some (some 24, false)⟩,
  ⟨some 27, .pick, [.t 24, .c (.val (.bool true)), .t 26], none⟩,
  ⟨some 28, .move, [.t 27], none⟩,
  ⟨some 29, .move, [.t 1], some (some 28, false)⟩,
  ⟨some 30, .move, [.t 2], some (some 28, false)⟩,
  ⟨some 31, .bin .gtr, [.t 29, .t 30], some (some 28, false)⟩,
  ⟨some 32, .pick, [.t 28, .c (.val (.bool true)), .t 31], none⟩] [] [] [0, 1, 2, 32] false [] []
noncomputable def c96_7 : ACode := .region false [⟨some 6, .move, [.c (.val (.int .i64 0))], none⟩] [] [] [6] false [] []
noncomputable def c96_6 : ACode := .seq c96_7 .ret
noncomputable def c96_5 : ACode := .cond (.t 32) c96_6 .skip
noncomputable def c96_3 : ACode := .seq c96_4 c96_5
noncomputable def c96_9 : ACode := .region false [⟨some 7, .move, [.c (.val (.int .i64 0))], none⟩] [] [] [0, 1, 2, 7] false [] []
noncomputable def c96_12 : ACode := .region false [⟨some 33, .move, [.t 1], none⟩,
  ⟨some 34, .move, [.c (.val (.int .i64 0))], none⟩] [] [] [0, 2, 7, 33, 34] false [] []
noncomputable def c96_16 : ACode := .region false [⟨some 35, .bin .lss, [.t 34, .t 33], none⟩] [] [] [0, 2, 7, 33, 34, 35] false [] []
noncomputable def c96_18 : ACode := .cond (.t 35) .skip (.exit 0)
noncomputable def c96_22 : ACode := .region false [⟨some 36, .move, [.t 34], none⟩,
  ⟨some 8, .move, [.t 36], none⟩] [] [] [0, 2, 7, 8, 33, 34] false [] []
noncomputable def c96_23 : ACode := .region false [⟨some 37, .move, [.t 7], none⟩,
  ⟨some 38, .move, [.t 0], none⟩,
  ⟨some 39, .move, [.t 8], none⟩,
  ⟨some 40, .bin .add, [.t 38, .t 39], none⟩,
  ⟨some 41, .move, [.t 2], none⟩,
  ⟨some 42, .bin .rem, [.t 40, .t 41], none⟩,
  ⟨some 43, .bin .shl, [.c (.val (.int .i64 1)), .t 42], none⟩,
  ⟨some 44, .bin .or, [.t 37, .t 43], none⟩,
  ⟨some 7, .move, [.t 44], none⟩] [] [] [0, 2, 7, 33, 34] false [] []
noncomputable def c96_21 : ACode := .seq c96_22 c96_23
noncomputable def c96_20 : ACode := .block 1 c96_21
noncomputable def c96_24 : ACode := .region false [⟨some 45, .bin .add, [.t 34, .c (.val (.int .i64 1))], none⟩,
  ⟨some 34, .move, [.t 45], none⟩] [] [] [0, 2, 7, 33, 34] false [] []
noncomputable def c96_19 : ACode := .seq c96_20 c96_24
noncomputable def c96_17 : ACode := .seq c96_18 c96_19
noncomputable def c96_15 : ACode := .seq c96_16 c96_17
noncomputable def c96_14 : ACode := .loop c96_15
noncomputable def c96_13 : ACode := .block 0 c96_14
noncomputable def c96_11 : ACode := .seq c96_12 c96_13
noncomputable def c96_26 : ACode := .region false [⟨some 46, .move, [.t 7], none⟩,
  ⟨some 6, .move, [.t 46], none⟩] [] [] [6] false [] []
noncomputable def c96_25 : ACode := .seq c96_26 .ret
noncomputable def c96_10 : ACode := .seq c96_11 c96_25
noncomputable def c96_8 : ACode := .seq c96_9 c96_10
noncomputable def c96_2 : ACode := .seq c96_3 c96_8
noncomputable def c96_0 : ACode := .seq c96_1 c96_2
noncomputable def code96 : Code := (Try.f96.body).getD .skip
theorem c96_ok : compC Try.prog 47 code96 = some (strip c96_0) := by kernel_rfl
theorem res96_ok : Try.f96.results.toList.mapM (resC Try.prog) = some [(6, none)] := by kernel_rfl
/- quidnunc/quidnunclaw05.speaks -/
noncomputable def c44_1 : ACode := .region false [⟨some 0, .move, [.c (.val (.bool false))], none⟩] [] [] [] false [] []
noncomputable def c44_3 : ACode := .region false [⟨some 1, .call 96, [.c (.val (.int .i64 10)), .c (.val (.int .i64 3)), .c (.val (.int .i64 12))], none⟩,
  ⟨some 2, .bin .eql, [.t 1, .c (.val (.int .i64 3073))], none⟩,
  ⟨some 0, .move, [.t 2], none⟩] [] [] [0] true [] []
noncomputable def c44_2 : ACode := .seq c44_3 .ret
noncomputable def c44_0 : ACode := .seq c44_1 c44_2
noncomputable def code44 : Code := (Try.f44.body).getD .skip
theorem c44_ok : compC Try.prog 3 code44 = some (strip c44_0) := by kernel_rfl
theorem res44_ok : Try.f44.results.toList.mapM (resC Try.prog) = some [(0, none)] := by kernel_rfl
/-- The bits of so many sites from one on. -/
def kbI (s n : Nat) : Nat → Int
  | 0 => 0
  | k + 1 => bits .or .i64 (kbI s n k) (IntKind.i64.wrap (1 * 2 ^ (Min.min ((s + k) % n) 64)))
theorem keepers_ok (s r n : Nat) (hn : 1 ≤ n) (hn' : n ≤ 12) (hs : s < n) (hr : 1 ≤ r) (hr' : r ≤ n) : ACall Try.prog 96 [I s, I r, I n] [] (Det (I (kbI s n r)) []) := by
  refine ACall.startA c96_ok Try.func96 rfl Try.ntmps96 (by kernel_rfl) res96_ok rfl rfl rfl ?_; simp (maxSteps := 9999999) (disch := omega) only [go_sem]
  (repeat' (first | refine AWpA.seq ?_ | refine AWpA.block ?_ | (with_reducible refine CondP.tt ?_) | (with_reducible refine CondP.ff ?_) | refine AWpA.condv (by simp (maxSteps := 9999999) (disch := omega) only [go_sem]; rfl) ?_ | ((first | (apply AWpA.region; (focus (simp (maxSteps := 9999999) (disch := omega) only [go_sem]; rfl))) | (apply AWpA.draw [] follows; (focus (simp (maxSteps := 9999999) (disch := omega) only [go_sem]; rfl)); (focus (simp (maxSteps := 9999999) (disch := omega) only [go_sem]; first | done | trivial)); (focus (simp (maxSteps := 9999999) (disch := omega) only [go_sem]; rfl))) | (apply TailK.go; (focus (simp (maxSteps := 9999999) (disch := omega) only [go_sem]; rfl))) | refine AWpA.skip ?_ | refine AWpA.exit ?_ | refine AWpA.ret ?_ | (with_reducible refine ARoundsA.succ ?_) | ((first | refine Runs.kt (by assumption) (fun h9 => ?_) | refine Runs.kf (by assumption) (fun h9 => ?_) | refine Runs.nt (by assumption) (fun h9 => ?_) | refine Runs.nf (by assumption) (fun h9 => ?_) | refine CondP.ht (by assumption) (fun h9 => ?_) | refine CondP.hf (by assumption) (fun h9 => ?_) | refine CondP.nt (by assumption) (fun h9 => ?_) | refine CondP.nf (by assumption) (fun h9 => ?_)); (try simp only [h9]); clear h9)); (try simp (maxSteps := 9999999) (disch := omega) only [go_sem]); (try (refine And.intro ?_ ?_; (focus (first | omega | (simp only [go_sem]; done) | (simp; done) | (simp; omega) | assumption))))) | ((first | refine CondP.split (fun hif => ?_) (fun hif => ?_) | refine Runs.part (fun hif => ?_) (fun hif => ?_)) <;> ((try simp only [hif]); (try simp only [decide_eq_true_eq, decide_eq_false_iff_not, Bool.not_eq_true, Bool.not_eq_false, Bool.not_eq_true', Bool.not_eq_false', beq_iff_eq, bne_iff_ne, bne_eq_false_iff_eq, beq_eq_false_iff_ne, ne_eq, Bool.and_eq_true, Bool.or_eq_true, Bool.or_eq_false_iff] at hif); (try (have h9 : _ = true := hif; simp only [h9])); (try (have h9 : _ = false := hif; simp only [h9])); (try simp (maxSteps := 9999999) (disch := omega) only [go_sem]); (try (refine And.intro ?_ ?_; (focus (first | omega | (simp only [go_sem]; done) | (simp; done) | (simp; omega) | assumption)))); (try (exfalso; omega; done))))))
  (apply AWpA.loopL (fun k : Nat => [(0, I s), (2, I n), (7, I (kbI s n k)), (33, I r), (34, I k)]) (fun _ => []) (fun k => r - k) (fun k => k ≤ r) (0) []; rotate_left; (focus (simp (maxSteps := 9999999) (disch := omega) only [go_sem, kbI]; (try (repeat' (first | done | trivial | rfl | exact leAs_rfl _ | decide | (refine And.intro ?_ ?_) | (simp; done) | omega | (simp; decide)))))); rotate_right)
  · exact Nat.zero_le _
  intro k hk
  by_cases hkr : k < r
  · have hm : ((s : Int) + (k : Int)).tmod (n : Int) = ((s + k) % n : Nat) := by rw [← Int.natCast_add]; rfl
    have hp : (s + k) % n < 12 := by have := Nat.mod_lt (s + k) hn; omega
    (try simp (maxSteps := 9999999) (disch := omega) only [go_sem])
    (repeat' (first | refine AWpA.seq ?_ | refine AWpA.block ?_ | (with_reducible refine CondP.tt ?_) | (with_reducible refine CondP.ff ?_) | refine AWpA.condv (by simp (maxSteps := 9999999) (disch := omega) only [go_sem, hm]; rfl) ?_ | ((first | (apply AWpA.region; (focus (simp (maxSteps := 9999999) (disch := omega) only [go_sem, hm]; rfl))) | (apply AWpA.draw [] follows; (focus (simp (maxSteps := 9999999) (disch := omega) only [go_sem, hm]; rfl)); (focus (simp (maxSteps := 9999999) (disch := omega) only [go_sem, hm]; first | done | trivial)); (focus (simp (maxSteps := 9999999) (disch := omega) only [go_sem, hm]; rfl))) | (apply TailK.go; (focus (simp (maxSteps := 9999999) (disch := omega) only [go_sem, hm]; rfl))) | refine AWpA.skip ?_ | refine AWpA.exit ?_ | refine AWpA.ret ?_ | (with_reducible refine ARoundsA.succ ?_) | ((first | refine Runs.kt (by assumption) (fun h9 => ?_) | refine Runs.kf (by assumption) (fun h9 => ?_) | refine Runs.nt (by assumption) (fun h9 => ?_) | refine Runs.nf (by assumption) (fun h9 => ?_) | refine CondP.ht (by assumption) (fun h9 => ?_) | refine CondP.hf (by assumption) (fun h9 => ?_) | refine CondP.nt (by assumption) (fun h9 => ?_) | refine CondP.nf (by assumption) (fun h9 => ?_)); (try simp only [h9]); clear h9)); (try simp (maxSteps := 9999999) (disch := omega) only [go_sem, hm]); (try (refine And.intro ?_ ?_; (focus (first | omega | (simp only [go_sem]; done) | (simp; done) | (simp; omega) | assumption))))) | ((first | refine CondP.split (fun hif => ?_) (fun hif => ?_) | refine Runs.part (fun hif => ?_) (fun hif => ?_)) <;> ((try simp only [hif]); (try simp only [decide_eq_true_eq, decide_eq_false_iff_not, Bool.not_eq_true, Bool.not_eq_false, Bool.not_eq_true', Bool.not_eq_false', beq_iff_eq, bne_iff_ne, bne_eq_false_iff_eq, beq_eq_false_iff_ne, ne_eq, Bool.and_eq_true, Bool.or_eq_true, Bool.or_eq_false_iff] at hif); (try (have h9 : _ = true := hif; simp only [h9])); (try (have h9 : _ = false := hif; simp only [h9])); (try simp (maxSteps := 9999999) (disch := omega) only [go_sem, hm]); (try (refine And.intro ?_ ?_; (focus (first | omega | (simp only [go_sem]; done) | (simp; done) | (simp; omega) | assumption)))); (try (exfalso; omega; done))))))
    (apply Back.to (k + 1) []; (focus ((try simp (maxSteps := 9999999) (disch := omega) only [go_sem, kbI]); first | done | omega)); rotate_left; (focus (simp (maxSteps := 9999999) (disch := omega) only [go_sem, kbI]; (try (repeat' (first | done | trivial | rfl | exact leAs_rfl _ | decide | (refine And.intro ?_ ?_) | (simp; done) | omega | (simp; decide)))))))
    exact hkr
  · have e : r = k := by omega
    subst e
    (try (try simp (maxSteps := 9999999) (disch := omega) only [go_sem]))
    (repeat' (first | refine AWpA.seq ?_ | refine AWpA.block ?_ | (with_reducible refine CondP.tt ?_) | (with_reducible refine CondP.ff ?_) | refine AWpA.condv (by simp (maxSteps := 9999999) (disch := omega) only [go_sem]; rfl) ?_ | ((first | (apply AWpA.region; (focus (simp (maxSteps := 9999999) (disch := omega) only [go_sem]; rfl))) | (apply AWpA.draw [] follows; (focus (simp (maxSteps := 9999999) (disch := omega) only [go_sem]; rfl)); (focus (simp (maxSteps := 9999999) (disch := omega) only [go_sem]; first | done | trivial)); (focus (simp (maxSteps := 9999999) (disch := omega) only [go_sem]; rfl))) | (apply TailK.go; (focus (simp (maxSteps := 9999999) (disch := omega) only [go_sem]; rfl))) | refine AWpA.skip ?_ | refine AWpA.exit ?_ | refine AWpA.ret ?_ | (with_reducible refine ARoundsA.succ ?_) | ((first | refine Runs.kt (by assumption) (fun h9 => ?_) | refine Runs.kf (by assumption) (fun h9 => ?_) | refine Runs.nt (by assumption) (fun h9 => ?_) | refine Runs.nf (by assumption) (fun h9 => ?_) | refine CondP.ht (by assumption) (fun h9 => ?_) | refine CondP.hf (by assumption) (fun h9 => ?_) | refine CondP.nt (by assumption) (fun h9 => ?_) | refine CondP.nf (by assumption) (fun h9 => ?_)); (try simp only [h9]); clear h9)); (try simp (maxSteps := 9999999) (disch := omega) only [go_sem]); (try (refine And.intro ?_ ?_; (focus (first | omega | (simp only [go_sem]; done) | (simp; done) | (simp; omega) | assumption))))) | ((first | refine CondP.split (fun hif => ?_) (fun hif => ?_) | refine Runs.part (fun hif => ?_) (fun hif => ?_)) <;> ((try simp only [hif]); (try simp only [decide_eq_true_eq, decide_eq_false_iff_not, Bool.not_eq_true, Bool.not_eq_false, Bool.not_eq_true', Bool.not_eq_false', beq_iff_eq, bne_iff_ne, bne_eq_false_iff_eq, beq_eq_false_iff_ne, ne_eq, Bool.and_eq_true, Bool.or_eq_true, Bool.or_eq_false_iff] at hif); (try (have h9 : _ = true := hif; simp only [h9])); (try (have h9 : _ = false := hif; simp only [h9])); (try simp (maxSteps := 9999999) (disch := omega) only [go_sem]); (try (refine And.intro ?_ ?_; (focus (first | omega | (simp only [go_sem]; done) | (simp; done) | (simp; omega) | assumption)))); (try (exfalso; omega; done))))))
    (apply Ret.det []; (focus (first | exact .inl rfl | exact .inr rfl)); (focus (simp (maxSteps := 9999999) (disch := omega) only [go_sem]; rfl)); (simp (maxSteps := 9999999) (disch := omega) only [go_sem]; (try (repeat' (first | done | trivial | rfl | exact leAs_rfl _ | decide | (refine And.intro ?_ ?_) | (simp; done) | omega | (simp; decide))))))
theorem speaks05 : ACall Try.prog 44 [] [] (Det (Bo true) []) := by
  have h : kbI 10 12 3 = 3073 := by decide +kernel
  refine ACall.startA c44_ok Try.func44 rfl Try.ntmps44 (by kernel_rfl) res44_ok rfl rfl rfl ?_; simp (maxSteps := 9999999) (disch := omega) only [go_sem]
  (repeat' (first | refine AWpA.seq ?_ | refine AWpA.block ?_ | (with_reducible refine CondP.tt ?_) | (with_reducible refine CondP.ff ?_) | refine AWpA.condv (by simp (maxSteps := 9999999) (disch := omega) only [go_sem, h]; rfl) ?_ | ((first | (apply AWpA.region; (focus (simp (maxSteps := 9999999) (disch := omega) only [go_sem, h]; rfl))) | (apply AWpA.draw [] follows; (focus (simp (maxSteps := 9999999) (disch := omega) only [go_sem, h]; rfl)); (focus (simp (maxSteps := 9999999) (disch := omega) only [go_sem, h]; first | done | trivial)); (focus (simp (maxSteps := 9999999) (disch := omega) only [go_sem, h]; rfl))) | (apply TailK.go; (focus (simp (maxSteps := 9999999) (disch := omega) only [go_sem, h]; rfl))) | refine AWpA.skip ?_ | refine AWpA.exit ?_ | refine AWpA.ret ?_ | (with_reducible refine ARoundsA.succ ?_) | ((first | refine Runs.kt (by assumption) (fun h9 => ?_) | refine Runs.kf (by assumption) (fun h9 => ?_) | refine Runs.nt (by assumption) (fun h9 => ?_) | refine Runs.nf (by assumption) (fun h9 => ?_) | refine CondP.ht (by assumption) (fun h9 => ?_) | refine CondP.hf (by assumption) (fun h9 => ?_) | refine CondP.nt (by assumption) (fun h9 => ?_) | refine CondP.nf (by assumption) (fun h9 => ?_)); (try simp only [h9]); clear h9) | ((first | (with_reducible apply CallG.plain1 [] (keepers_ok 10 3 12 (by decide) (by decide) (by decide) (by decide) (by decide))) | (with_reducible apply CallG.draw1 [] (keepers_ok 10 3 12 (by decide) (by decide) (by decide) (by decide) (by decide)))); (focus ((try refine And.intro (leAs_of_eq rfl) ?_); (try refine And.intro (leOL_of_eq rfl) ?_); simp (maxSteps := 9999999) (disch := omega) only [go_sem, h]; first | done | (repeat' (first | rfl | (refine And.intro ?_ ?_))))); (focus (simp (maxSteps := 9999999) (disch := omega) only [go_sem, h]; rfl)))); (try simp (maxSteps := 9999999) (disch := omega) only [go_sem, h]); (try (refine And.intro ?_ ?_; (focus (first | omega | (simp only [go_sem]; done) | (simp; done) | (simp; omega) | assumption))))) | ((first | refine CondP.split (fun hif => ?_) (fun hif => ?_) | refine Runs.part (fun hif => ?_) (fun hif => ?_)) <;> ((try simp only [hif]); (try simp only [decide_eq_true_eq, decide_eq_false_iff_not, Bool.not_eq_true, Bool.not_eq_false, Bool.not_eq_true', Bool.not_eq_false', beq_iff_eq, bne_iff_ne, bne_eq_false_iff_eq, beq_eq_false_iff_ne, ne_eq, Bool.and_eq_true, Bool.or_eq_true, Bool.or_eq_false_iff] at hif); (try (have h9 : _ = true := hif; simp only [h9])); (try (have h9 : _ = false := hif; simp only [h9])); (try simp (maxSteps := 9999999) (disch := omega) only [go_sem, h]); (try (refine And.intro ?_ ?_; (focus (first | omega | (simp only [go_sem]; done) | (simp; done) | (simp; omega) | assumption)))); (try (exfalso; omega; done))))))
  (apply Ret.det []; (focus (first | exact .inl rfl | exact .inr rfl)); (focus (simp (maxSteps := 9999999) (disch := omega) only [go_sem]; rfl)); (simp (maxSteps := 9999999) (disch := omega) only [go_sem]; (try (repeat' (first | done | trivial | rfl | exact leAs_rfl _ | decide | (refine And.intro ?_ ?_) | (simp; done) | omega | (simp; decide))))))
/- quidnunc/entry.checked -/
noncomputable def c101_1 : ACode := .region false [⟨some 1, .box 0, [.t 0], none⟩,
  ⟨some 2, .alloc [(.string ⟨#[]⟩), (.string ⟨#[]⟩), (.bool false), (.int .i64 0), (.int .i64 0), (.int .i64 0), (.int .i64 0), (.int .i64 0), (.int .i64 0)], [], none⟩,
  ⟨some 3, .move, [.c (.val (.int .i64 0))], none⟩] [] [] [1, 2] true [] []
noncomputable def c101_4 : ACode := .region false [⟨some 5, .load true 9, [.t 1], none⟩,
  ⟨some 6, .call 78, [.t 5], none⟩,
  ⟨some 4, .move, [.t 6], none⟩] [] [] [1, 2, 4] true [] []
noncomputable def c101_6 : ACode := .region false [⟨some 7, .move, [.t 4], none⟩,
  ⟨some 8, .bin .neq, [.t 7, .c (.val (.int .i64 0))], none⟩] [] [] [1, 2, 4, 8] false [] []
noncomputable def c101_9 : ACode := .region false [⟨some 9, .build [(.string ⟨#[]⟩), (.string ⟨#[]⟩), (.bool false), (.int .i64 0), (.int .i64 0), (.int .i64 0), (.int .i64 0), (.int .i64 0), (.int .i64 0)] [], [], none⟩,
  ⟨some 10, .move, [.t 4], none⟩,
  ⟨none, .store 9, [.t 2, .t 9], none⟩,
  ⟨some 3, .move, [.t 10], none⟩] [] [] [2, 3] true [] []
noncomputable def c101_8 : ACode := .seq c101_9 .ret
noncomputable def c101_7 : ACode := .cond (.t 8) c101_8 .skip
noncomputable def c101_5 : ACode := .seq c101_6 c101_7
noncomputable def c101_3 : ACode := .seq c101_4 c101_5
noncomputable def c101_11 : ACode := .region false [⟨some 11, .load true 9, [.t 1], none⟩,
  ⟨none, .store 9, [.t 2, .t 11], none⟩,
  ⟨some 3, .move, [.c (.val (.int .i64 0))], none⟩] [] [] [2, 3] true [] []
noncomputable def c101_10 : ACode := .seq c101_11 .ret
noncomputable def c101_2 : ACode := .seq c101_3 c101_10
noncomputable def c101_0 : ACode := .seq c101_1 c101_2
noncomputable def code101 : Code := (Try.f101.body).getD .skip
theorem c101_ok : compC Try.prog 12 code101 = some (strip c101_0) := by kernel_rfl
theorem res101_ok : Try.f101.results.toList.mapM (resC Try.prog) = some [(2, some (true, 9)), (3, none)] := by kernel_rfl
/- quidnunc/entry.Delete -/
noncomputable def c55_1 : ACode := .region false [⟨some 4, .box 0, [.t 1], none⟩,
  ⟨some 6, .alloc [(.string ⟨#[]⟩), (.string ⟨#[]⟩), (.bool false), (.int .i64 0), (.int .i64 0), (.int .i64 0), (.int .i64 0), (.int .i64 0), (.int .i64 0)], [], none⟩,
  ⟨some 7, .move, [.c (.val (.int .i64 0))], none⟩] [] [] [0, 2, 4, 6] true [] []
noncomputable def c55_3 : ACode := .region false [⟨some 8, .move, [.t 0], none⟩,
  ⟨some 9, .load true 2, [.t 4], none⟩,
  ⟨some 10, .load true 2, [.t 4], none⟩,
  ⟨some 11, .move, [.t 2], none⟩,
  ⟨some 12, .build [(.string ⟨#[]⟩), (.string ⟨#[]⟩), (.bool false), (.int .i64 0), (.int .i64 0), (.int .i64 0), (.int .i64 0), (.int .i64 0), (.int .i64 0)] [(0, 1), (2, 1), (3, 2), (5, 2), (7, 1)], [.t 8, .c (.val (.bool true)), .t 9, .t 10, .t 11], none⟩,
  ⟨some 13, .call 101, [.t 12], none⟩,
  ⟨some 14, .ext 0, [.t 13], none⟩,
  ⟨some 15, .ext 1, [.t 13], none⟩,
  ⟨none, .store 9, [.t 6, .t 14], none⟩,
  ⟨some 7, .move, [.t 15], none⟩] [] [] [6, 7] true [] []
noncomputable def c55_2 : ACode := .seq c55_3 .ret
noncomputable def c55_0 : ACode := .seq c55_1 c55_2
noncomputable def code55 : Code := (Try.f55.body).getD .skip
theorem c55_ok : compC Try.prog 16 code55 = some (strip c55_0) := by kernel_rfl
theorem res55_ok : Try.f55.results.toList.mapM (resC Try.prog) = some [(6, some (true, 9)), (7, none)] := by kernel_rfl
abbrev noSt : St := ⟨0, 0⟩
abbrev noEn : En := ⟨⟨#[]⟩, ⟨#[]⟩, false, noSt, noSt, 0, 0⟩
def okEn (e : En) : En := if checkI e = 0 then e else noEn
theorem checked_any (e : En) : ACall Try.prog 101 [EnA e] [] (Det (.tup [EnA (okEn e), I (checkI e)]) []) := by
  refine ACall.startA c101_ok Try.func101 rfl Try.ntmps101 (by kernel_rfl) res101_ok rfl rfl rfl ?_; simp (maxSteps := 9999999) (disch := omega) only [go_sem]
  (repeat' (first | refine AWpA.seq ?_ | refine AWpA.block ?_ | (with_reducible refine CondP.tt ?_) | (with_reducible refine CondP.ff ?_) | refine AWpA.condv (by simp (maxSteps := 9999999) (disch := omega) only [go_sem]; rfl) ?_ | ((first | (apply AWpA.region; (focus (simp (maxSteps := 9999999) (disch := omega) only [go_sem]; rfl))) | (apply AWpA.draw [] follows; (focus (simp (maxSteps := 9999999) (disch := omega) only [go_sem]; rfl)); (focus (simp (maxSteps := 9999999) (disch := omega) only [go_sem]; first | done | trivial)); (focus (simp (maxSteps := 9999999) (disch := omega) only [go_sem]; rfl))) | (apply TailK.go; (focus (simp (maxSteps := 9999999) (disch := omega) only [go_sem]; rfl))) | refine AWpA.skip ?_ | refine AWpA.exit ?_ | refine AWpA.ret ?_ | (with_reducible refine ARoundsA.succ ?_) | ((first | refine Runs.kt (by assumption) (fun h9 => ?_) | refine Runs.kf (by assumption) (fun h9 => ?_) | refine Runs.nt (by assumption) (fun h9 => ?_) | refine Runs.nf (by assumption) (fun h9 => ?_) | refine CondP.ht (by assumption) (fun h9 => ?_) | refine CondP.hf (by assumption) (fun h9 => ?_) | refine CondP.nt (by assumption) (fun h9 => ?_) | refine CondP.nf (by assumption) (fun h9 => ?_)); (try simp only [h9]); clear h9) | ((first | (with_reducible apply CallG.plain1 [] (check_any _)) | (with_reducible apply CallG.draw1 [] (check_any _))); (focus ((try refine And.intro (leAs_of_eq rfl) ?_); (try refine And.intro (leOL_of_eq rfl) ?_); simp (maxSteps := 9999999) (disch := omega) only [go_sem]; first | done | (repeat' (first | rfl | (refine And.intro ?_ ?_))))); (focus (simp (maxSteps := 9999999) (disch := omega) only [go_sem]; rfl)))); (try simp (maxSteps := 9999999) (disch := omega) only [go_sem]); (try (refine And.intro ?_ ?_; (focus (first | omega | (simp only [go_sem]; done) | (simp; done) | (simp; omega) | assumption))))) | ((first | refine CondP.split (fun hif => ?_) (fun hif => ?_) | refine Runs.part (fun hif => ?_) (fun hif => ?_)) <;> ((try simp only [hif]); (try simp only [decide_eq_true_eq, decide_eq_false_iff_not, Bool.not_eq_true, Bool.not_eq_false, Bool.not_eq_true', Bool.not_eq_false', beq_iff_eq, bne_iff_ne, bne_eq_false_iff_eq, beq_eq_false_iff_ne, ne_eq, Bool.and_eq_true, Bool.or_eq_true, Bool.or_eq_false_iff] at hif); (try (have h9 : _ = true := hif; simp only [h9])); (try (have h9 : _ = false := hif; simp only [h9])); (try simp (maxSteps := 9999999) (disch := omega) only [go_sem]); (try (refine And.intro ?_ ?_; (focus (first | omega | (simp only [go_sem]; done) | (simp; done) | (simp; omega) | assumption)))); (try (exfalso; omega; done))))))
  all_goals
    (apply Ret.det []; (focus (first | exact .inl rfl | exact .inr rfl)); (focus (simp (maxSteps := 9999999) (disch := omega) only [go_sem]; rfl)); (simp (maxSteps := 9999999) (disch := omega) only [go_sem]; (try (repeat' (first | done | trivial | rfl | exact leAs_rfl _ | decide | (refine And.intro ?_ ?_) | (simp; done) | omega | (simp; decide))))))
    all_goals (simp_all [okEn])
abbrev delEn (key : ByteArray) (s : St) (keep : Int) : En := ⟨key, ⟨#[]⟩, true, s, s, keep, 0⟩
theorem delete_any (key : ByteArray) (s : St) (keep : Int) : ACall Try.prog 55 [Str key, StA s, I keep] [] (Det (.tup [EnA (okEn (delEn key s keep)), I (checkI (delEn key s keep))]) []) := by
  refine ACall.startA c55_ok Try.func55 rfl Try.ntmps55 (by kernel_rfl) res55_ok rfl rfl rfl ?_; simp (maxSteps := 9999999) (disch := omega) only [go_sem]
  (repeat' (first | refine AWpA.seq ?_ | refine AWpA.block ?_ | (with_reducible refine CondP.tt ?_) | (with_reducible refine CondP.ff ?_) | refine AWpA.condv (by simp (maxSteps := 9999999) (disch := omega) only [go_sem]; rfl) ?_ | ((first | (apply AWpA.region; (focus (simp (maxSteps := 9999999) (disch := omega) only [go_sem]; rfl))) | (apply AWpA.draw [] follows; (focus (simp (maxSteps := 9999999) (disch := omega) only [go_sem]; rfl)); (focus (simp (maxSteps := 9999999) (disch := omega) only [go_sem]; first | done | trivial)); (focus (simp (maxSteps := 9999999) (disch := omega) only [go_sem]; rfl))) | (apply TailK.go; (focus (simp (maxSteps := 9999999) (disch := omega) only [go_sem]; rfl))) | refine AWpA.skip ?_ | refine AWpA.exit ?_ | refine AWpA.ret ?_ | (with_reducible refine ARoundsA.succ ?_) | ((first | refine Runs.kt (by assumption) (fun h9 => ?_) | refine Runs.kf (by assumption) (fun h9 => ?_) | refine Runs.nt (by assumption) (fun h9 => ?_) | refine Runs.nf (by assumption) (fun h9 => ?_) | refine CondP.ht (by assumption) (fun h9 => ?_) | refine CondP.hf (by assumption) (fun h9 => ?_) | refine CondP.nt (by assumption) (fun h9 => ?_) | refine CondP.nf (by assumption) (fun h9 => ?_)); (try simp only [h9]); clear h9) | ((first | (with_reducible apply CallG.plain1 [] (checked_any (delEn key s keep))) | (with_reducible apply CallG.draw1 [] (checked_any (delEn key s keep)))); (focus ((try refine And.intro (leAs_of_eq rfl) ?_); (try refine And.intro (leOL_of_eq rfl) ?_); simp (maxSteps := 9999999) (disch := omega) only [go_sem]; first | done | (repeat' (first | rfl | (refine And.intro ?_ ?_))))); (focus (simp (maxSteps := 9999999) (disch := omega) only [go_sem]; rfl)))); (try simp (maxSteps := 9999999) (disch := omega) only [go_sem]); (try (refine And.intro ?_ ?_; (focus (first | omega | (simp only [go_sem]; done) | (simp; done) | (simp; omega) | assumption))))) | ((first | refine CondP.split (fun hif => ?_) (fun hif => ?_) | refine Runs.part (fun hif => ?_) (fun hif => ?_)) <;> ((try simp only [hif]); (try simp only [decide_eq_true_eq, decide_eq_false_iff_not, Bool.not_eq_true, Bool.not_eq_false, Bool.not_eq_true', Bool.not_eq_false', beq_iff_eq, bne_iff_ne, bne_eq_false_iff_eq, beq_eq_false_iff_ne, ne_eq, Bool.and_eq_true, Bool.or_eq_true, Bool.or_eq_false_iff] at hif); (try (have h9 : _ = true := hif; simp only [h9])); (try (have h9 : _ = false := hif; simp only [h9])); (try simp (maxSteps := 9999999) (disch := omega) only [go_sem]); (try (refine And.intro ?_ ?_; (focus (first | omega | (simp only [go_sem]; done) | (simp; done) | (simp; omega) | assumption)))); (try (exfalso; omega; done))))))
  (apply Ret.det []; (focus (first | exact .inl rfl | exact .inr rfl)); (focus (simp (maxSteps := 9999999) (disch := omega) only [go_sem]; rfl)); (simp (maxSteps := 9999999) (disch := omega) only [go_sem]; (try (repeat' (first | done | trivial | rfl | exact leAs_rfl _ | decide | (refine And.intro ?_ ?_) | (simp; done) | omega | (simp; decide))))))
end Go.Proofs.Yteggjhihpjjloaa
