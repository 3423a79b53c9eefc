/- Contracts: an act that is done with both disks. -/
import Derived.Test.YtnadhhmlehifnaaAd8
namespace Go.Proofs.Ytnadhhmlehifnaa
set_option linter.unusedSimpArgs false
set_option linter.unusedVariables false
set_option maxHeartbeats 4000000
open Go Go.Am Go.RowKit
set_option maxRecDepth 100000
/- quidnunc/quidnunclaw06.do -/
noncomputable def c24_1 : ACode := .region false [⟨some 4, .box 0, [.t 1], none⟩,
  ⟨some 5, .box 0, [.t 2], none⟩,
  ⟨some 6, .alloc [(.slice none 0 0), (.int .i64 0), (.bool false), (.int .i64 0)], [], none⟩,
  ⟨some 7, .move, [.c (.val (.bool false))], none⟩] [] [] [0, 4, 5, 6] true [] []
noncomputable def c24_3 : ACode := .region false [⟨some 8, .move, [.c (.val (.int .i64 0))], none⟩,
  ⟨some 9, .move, [.c (.val (.int .i64 0))], none⟩] [] [] [0, 4, 5, 6, 8, 9] false [] []
noncomputable def c24_6 : ACode := .region false [⟨some 12, .addr 0, [.t 5], none⟩,
  ⟨some 13, .load false 1, [.t 12], none⟩] [] [] [0, 4, 5, 6, 8, 9, 13] false [] []
noncomputable def c24_9 : ACode := .region false [⟨some 15, .bin .eql, [.t 13, .c (.val (.int .i64 0))], none⟩,
  ⟨some 14, .move, [.t 15], none⟩] [] [] [0, 4, 5, 6, 8, 9, 13, 14] false [] []
noncomputable def c24_12 : ACode := .region false [⟨some 16, .move, [.t 0], none⟩,
  ⟨some 17, .addr 2, [.t 5], none⟩,
  ⟨some 18, .load false 1, [.t 17], none⟩,
  ⟨some 19, .call 15, [.t 16, .t 18], none⟩,
  ⟨some 8, .move, [.t 19], none⟩] [] [] [4, 5, 6, 8] true [] []
noncomputable def c24_13 : ACode := .region false [⟨some 21, .load true 4, [.t 4], none⟩,
  ⟨some 22, .addr 2, [.t 5], none⟩,
  ⟨some 23, .load false 1, [.t 22], none⟩,
  ⟨some 24, .call 46, [.t 21, .t 23], none⟩,
  ⟨some 20, .move, [.t 24], none⟩,
  ⟨some 25, .ext 0, [.t 20], none⟩,
  ⟨some 26, .ext 1, [.t 20], none⟩,
  ⟨none, .store 4, [.t 4, .t 25], none⟩,
  ⟨some 9, .move, [.t 26], none⟩] [] [] [4, 6, 8, 9] true [] []
noncomputable def c24_11 : ACode := .seq c24_12 c24_13
noncomputable def c24_15 : ACode := .region false [⟨some 28, .bin .eql, [.t 13, .c (.val (.int .i64 1))], none⟩,
  ⟨some 27, .move, [.t 28], none⟩] [] [] [0, 4, 5, 6, 8, 9, 13, 27] false [] []
noncomputable def c24_18 : ACode := .region false [⟨some 29, .move, [.t 0], none⟩,
  ⟨some 30, .call 17, [.t 29], none⟩,
  ⟨some 8, .move, [.t 30], none⟩] [] [] [4, 6, 8] true [] []
noncomputable def c24_19 : ACode := .region false [⟨some 32, .load true 4, [.t 4], none⟩,
  ⟨some 33, .call 47, [.t 32], none⟩,
  ⟨some 31, .move, [.t 33], none⟩,
  ⟨some 34, .ext 0, [.t 31], none⟩,
  ⟨some 35, .ext 1, [.t 31], none⟩,
  ⟨none, .store 4, [.t 4, .t 34], none⟩,
  ⟨some 9, .move, [.t 35], none⟩] [] [] [4, 6, 8, 9] true [] []
noncomputable def c24_17 : ACode := .seq c24_18 c24_19
noncomputable def c24_21 : ACode := .region false [⟨some 37, .bin .eql, [.t 13, .c (.val (.int .i64 2))], none⟩,
  ⟨some 36, .move, [.t 37], none⟩] [] [] [0, 4, 5, 6, 8, 9, 13, 36] false [] []
noncomputable def c24_24 : ACode := .region false [⟨some 38, .move, [.t 0], none⟩,
  ⟨some 39, .addr 1, [.t 5], none⟩,
  ⟨some 40, .load false 1, [.t 39], none⟩,
  ⟨some 41, .call 20, [.t 38, .t 40], none⟩,
  ⟨some 8, .move, [.t 41], none⟩] [] [] [4, 5, 6, 8] true [] []
noncomputable def c24_25 : ACode := .region false [⟨some 43, .load true 4, [.t 4], none⟩,
  ⟨some 44, .addr 1, [.t 5], none⟩,
  ⟨some 45, .load false 1, [.t 44], none⟩,
  ⟨some 46, .call 48, [.t 43, .t 45], none⟩,
  ⟨some 42, .move, [.t 46], none⟩,
  ⟨some 47, .ext 0, [.t 42], none⟩,
  ⟨some 48, .ext 1, [.t 42], none⟩,
  ⟨none, .store 4, [.t 4, .t 47], none⟩,
  ⟨some 9, .move, [.t 48], none⟩] [] [] [4, 6, 8, 9] true [] []
noncomputable def c24_23 : ACode := .seq c24_24 c24_25
noncomputable def c24_27 : ACode := .region false [⟨some 50, .bin .eql, [.t 13, .c (.val (.int .i64 3))], none⟩,
  ⟨some 49, .move, [.t 50], none⟩] [] [] [0, 4, 5, 6, 8, 9, 13, 49] false [] []
noncomputable def c24_30 : ACode := .region true [⟨some 51, .move, [.t 0], none⟩,
  ⟨some 52, .nilChk, [.t 51], none⟩,
  ⟨some 53, .addr 0, [.t 52], none⟩,
  ⟨some 54, .addr 1, [.t 5], none⟩,
  ⟨some 55, .load false 1, [.t 54], none⟩,
  ⟨some 56, .call 25, [.t 53, .t 55], none⟩] [] [] [4, 5, 6, 8, 9] true [] []
noncomputable def c24_31 : ACode := .region false [⟨some 57, .addr 1, [.t 5], none⟩,
  ⟨some 58, .load false 1, [.t 57], none⟩,
  ⟨some 59, .max, [.t 58, .c (.val (.int .i64 (-1)))], none⟩,
  ⟨some 60, .addr 3, [.t 4], none⟩,
  ⟨none, .store 1, [.t 60, .t 59], none⟩] [] [] [4, 6, 8, 9] true [] []
noncomputable def c24_29 : ACode := .seq c24_30 c24_31
noncomputable def c24_33 : ACode := .region false [⟨some 62, .bin .eql, [.t 13, .c (.val (.int .i64 4))], none⟩,
  ⟨some 61, .move, [.t 62], none⟩] [] [] [0, 4, 5, 6, 8, 9, 13, 61] false [] []
noncomputable def c24_36 : ACode := .region false [⟨some 64, .load true 4, [.t 4], none⟩,
  ⟨some 65, .addr 1, [.t 5], none⟩,
  ⟨some 66, .load false 1, [.t 65], none⟩,
  ⟨some 67, .call 49, [.t 64, .t 66], none⟩,
  ⟨some 63, .move, [.t 67], none⟩,
  ⟨some 68, .ext 0, [.t 63], none⟩,
  ⟨some 69, .ext 1, [.t 63], none⟩,
  ⟨some 10, .alloc [(.slice none 0 0), (.int .i64 0), (.bool false), (.int .i64 0)], [], none⟩,
  ⟨none, .store 4, [.t 10, .t 68], none⟩,
  ⟨some 11, .move, [.t 69], none⟩] [] [] [0, 4, 5, 6, 8, 9, 10, 11] true [] []
noncomputable def c24_38 : ACode := .region false [⟨some 70, .load true 4, [.t 10], none⟩,
  ⟨none, .store 4, [.t 4, .t 70], none⟩] [] [] [0, 4, 5, 6, 8, 9, 11] true [] []
noncomputable def c24_40 : ACode := .region false [⟨some 71, .move, [.t 0], none⟩,
  ⟨some 72, .addr 1, [.t 5], none⟩,
  ⟨some 73, .load false 1, [.t 72], none⟩,
  ⟨some 74, .call 21, [.t 71, .t 73], none⟩,
  ⟨some 75, .move, [.t 11], none⟩,
  ⟨some 76, .bin .neq, [.t 74, .t 75], none⟩] [] [] [4, 6, 8, 9, 76] true [] []
noncomputable def c24_43 : ACode := .region false [⟨some 77, .load true 4, [.t 4], none⟩,
  ⟨none, .store 4, [.t 6, .t 77], none⟩,
  ⟨some 7, .move, [.c (.val (.bool false))], none⟩] [] [] [6, 7] true [] []
noncomputable def c24_42 : ACode := .seq c24_43 .ret
noncomputable def c24_41 : ACode := .cond (.t 76) c24_42 .skip
noncomputable def c24_39 : ACode := .seq c24_40 c24_41
noncomputable def c24_37 : ACode := .seq c24_38 c24_39
noncomputable def c24_35 : ACode := .seq c24_36 c24_37
noncomputable def c24_45 : ACode := .region false [⟨some 79, .bin .eql, [.t 13, .c (.val (.int .i64 5))], none⟩,
  ⟨some 78, .move, [.t 79], none⟩] [] [] [0, 4, 5, 6, 8, 9, 78] false [] []
noncomputable def c24_48 : ACode := .region true [⟨some 80, .move, [.t 0], none⟩,
  ⟨some 81, .addr 1, [.t 5], none⟩,
  ⟨some 82, .load false 1, [.t 81], none⟩,
  ⟨some 83, .load true 3, [.t 5], none⟩,
  ⟨some 84, .call 51, [.t 83], none⟩,
  ⟨some 85, .call 50, [.t 80, .t 82, .t 84], none⟩,
  ⟨some 8, .move, [.t 85], none⟩] [] [] [4, 5, 6, 8] true [] []
noncomputable def c24_49 : ACode := .region true [⟨some 87, .load true 4, [.t 4], none⟩,
  ⟨some 88, .addr 1, [.t 5], none⟩,
  ⟨some 89, .load false 1, [.t 88], none⟩,
  ⟨some 90, .load true 3, [.t 5], none⟩,
  ⟨some 91, .call 51, [.t 90], none⟩,
  ⟨some 92, .call 52, [.t 87, .t 89, .t 91], none⟩,
  ⟨some 86, .move, [.t 92], none⟩,
  ⟨some 93, .ext 0, [.t 86], none⟩,
  ⟨some 94, .ext 1, [.t 86], none⟩,
  ⟨none, .store 4, [.t 4, .t 93], none⟩,
  ⟨some 9, .move, [.t 94], none⟩] [] [(100000, 0), (4, 100000)] [4, 6, 8, 9] true [4] []
noncomputable def c24_47 : ACode := .seq c24_48 c24_49
noncomputable def c24_46 : ACode := .cond (.t 78) c24_47 .skip
noncomputable def c24_44 : ACode := .seq c24_45 c24_46
noncomputable def c24_34 : ACode := .cond (.t 61) c24_35 c24_44
noncomputable def c24_32 : ACode := .seq c24_33 c24_34
noncomputable def c24_28 : ACode := .cond (.t 49) c24_29 c24_32
noncomputable def c24_26 : ACode := .seq c24_27 c24_28
noncomputable def c24_22 : ACode := .cond (.t 36) c24_23 c24_26
noncomputable def c24_20 : ACode := .seq c24_21 c24_22
noncomputable def c24_16 : ACode := .cond (.t 27) c24_17 c24_20
noncomputable def c24_14 : ACode := .seq c24_15 c24_16
noncomputable def c24_10 : ACode := .cond (.t 14) c24_11 c24_14
noncomputable def c24_8 : ACode := .seq c24_9 c24_10
noncomputable def c24_7 : ACode := .block 0 c24_8
noncomputable def c24_5 : ACode := .seq c24_6 c24_7
noncomputable def c24_51 : ACode := .region false [⟨some 95, .load true 4, [.t 4], none⟩,
  ⟨some 96, .move, [.t 8], none⟩,
  ⟨some 97, .move, [.t 9], none⟩,
  ⟨some 98, .bin .eql, [.t 96, .t 97], none⟩,
  ⟨none, .store 4, [.t 6, .t 95], none⟩,
  ⟨some 7, .move, [.t 98], none⟩] [] [] [6, 7] true [] []
noncomputable def c24_50 : ACode := .seq c24_51 .ret
noncomputable def c24_4 : ACode := .seq c24_5 c24_50
noncomputable def c24_2 : ACode := .seq c24_3 c24_4
noncomputable def c24_0 : ACode := .seq c24_1 c24_2
noncomputable def code24 : Code := (Try.f24.body).getD .skip
theorem c24_ok : compC Try.prog 99 code24 = some (strip c24_0) := by kernel_rfl
theorem res24_ok : Try.f24.results.toList.mapM (resC Try.prog) = some [(6, some (true, 4)), (7, none)] := by kernel_rfl
/- quidnunc/quidnunclaw06.few -/
noncomputable def c22_1 : ACode := .region false [⟨some 2, .move, [.c (.val (.bool false))], none⟩] [] [] [0] false [] []
noncomputable def c22_4 : ACode := .region false [⟨some 5, .move, [.t 0], none⟩,
  ⟨some 6, .len, [.t 5], none⟩,
  ⟨some 7, .move, [.c (.val (.int .i64 0))], none⟩] [] [] [0, 5, 6, 7] false [] []
noncomputable def c22_8 : ACode := .region false [⟨some 8, .bin .lss, [.t 7, .t 6], none⟩] [] [] [0, 5, 6, 7, 8] false [] []
noncomputable def c22_10 : ACode := .cond (.t 8) .skip (.exit 0)
noncomputable def c22_14 : ACode := .region false [⟨some 9, .ixS 3, [.t 5, .t 7], none⟩,
  ⟨some 10, .load true 3, [.t 9], none⟩,
  ⟨some 4, .alloc [(.int .i64 0), (.int .i64 0), (.slice none 0 0)], [], none⟩,
  ⟨none, .store 3, [.t 4, .t 10], none⟩] [] [] [0, 4, 5, 6, 7] true [] []
noncomputable def c22_16 : ACode := .region false [⟨some 11, .addr 2, [.t 4], none⟩,
  ⟨some 12, .load false 1, [.t 11], none⟩,
  ⟨some 13, .len, [.t 12], none⟩,
  ⟨some 14, .bin .gtr, [.t 13, .c (.val (.int .i64 100))], none⟩] [] [] [0, 5, 6, 7, 14] false [] []
noncomputable def c22_19 : ACode := .region false [⟨some 2, .move, [.c (.val (.bool false))], none⟩] [] [] [2] false [] []
noncomputable def c22_18 : ACode := .seq c22_19 .ret
noncomputable def c22_17 : ACode := .cond (.t 14) c22_18 .skip
noncomputable def c22_15 : ACode := .seq c22_16 c22_17
noncomputable def c22_13 : ACode := .seq c22_14 c22_15
noncomputable def c22_12 : ACode := .block 1 c22_13
noncomputable def c22_20 : ACode := .region false [⟨some 15, .bin .add, [.t 7, .c (.val (.int .i64 1))], none⟩,
  ⟨some 7, .move, [.t 15], none⟩] [] [] [0, 5, 6, 7] false [] []
noncomputable def c22_11 : ACode := .seq c22_12 c22_20
noncomputable def c22_9 : ACode := .seq c22_10 c22_11
noncomputable def c22_7 : ACode := .seq c22_8 c22_9
noncomputable def c22_6 : ACode := .loop c22_7
noncomputable def c22_5 : ACode := .block 0 c22_6
noncomputable def c22_3 : ACode := .seq c22_4 c22_5
noncomputable def c22_22 : ACode := .region false [⟨some 16, .move, [.t 0], none⟩,
  ⟨some 17, .len, [.t 16], none⟩,
  ⟨some 18, .bin .leq, [.t 17, .c (.val (.int .i64 60))], none⟩,
  ⟨some 2, .move, [.t 18], none⟩] [] [] [2] false [] []
noncomputable def c22_21 : ACode := .seq c22_22 .ret
noncomputable def c22_2 : ACode := .seq c22_3 c22_21
noncomputable def c22_0 : ACode := .seq c22_1 c22_2
noncomputable def code22 : Code := (Try.f22.body).getD .skip
theorem c22_ok : compC Try.prog 19 code22 = some (strip c22_0) := by kernel_rfl
theorem res22_ok : Try.f22.results.toList.mapM (resC Try.prog) = some [(2, none)] := by kernel_rfl
theorem rturn_any (d : Dk) (hok : d.ok) (i b : Int) {P : List AV} (p : Seg P 0 d.l) : ACall Try.prog 52 [Dg 0 d, I i, U8 b] [.cells true P]
    (Det (.tup [Dg (cond (decide (0 ≤ i ∧ i < (d.l.length : Int))) 1 0) (turnF d i b), I (turnE d i)]) [.cells true P, .cells false (cond (decide (0 ≤ i ∧ i < (d.l.length : Int))) (bA (turnF d i b).l) [])]) := by
  have h1 := hok.l
  have hps := p.seg
  rw [List.drop_zero] at hps
  have hle := p.le
  by_cases h : 0 ≤ i ∧ i < (d.l.length : Int)
  · obtain ⟨k, rfl⟩ : ∃ k : Nat, i = (k : Int) := ⟨i.toNat, by omega⟩
    have hk : k < d.l.length := by omega
    have hkl : (0 ≤ (k : Int) ∧ (k : Int) < (d.l.length : Int)) := h
    rw [show turnE d k = 0 by unfold turnE; rw [if_pos hkl], show turnF d k b = { d with l := turnL d.l k b } by unfold turnF; rw [if_pos hkl]; rfl, decide_eq_true hkl]
    have hx := bA_getD' hk
    have hl := turnL_len hk b
    have g1 : ((k : Int) < 0) = False := eq_false (by omega)
    have g2 : ((d.l.length : Int) ≤ (k : Int)) = False := eq_false (by omega)
    have hb0 : d.l.length ≠ 0 := by omega
    have q1 : (d.l.length ≤ 0) = False := eq_false (by omega)
    unfold turnL at *
    generalize d.l.getD k 0 = x at *
    refine ACall.startA c52_ok Try.func52 rfl Try.ntmps52 (by kernel_rfl) res52_ok rfl rfl rfl ?_; simp (maxSteps := 9999999) (disch := omega) only [go_sem]
    (repeat' (first | refine AWpA.seq ?_ | refine AWpA.block ?_ | (with_reducible refine CondP.tt ?_) | (with_reducible refine CondP.ff ?_) | refine AWpA.condv (by simp (maxSteps := 9999999) (disch := omega) only [go_sem, hx, p.ren, p.noAny, hps, g1, g2, q1]; rfl) ?_ | ((first | (apply AWpA.region; (focus (simp (maxSteps := 9999999) (disch := omega) only [go_sem, hx, p.ren, p.noAny, hps, g1, g2, q1]; rfl))) | (apply AWpA.draw [241] [] follows; (focus (first | rfl | decide)); (focus (simp (maxSteps := 9999999) (disch := omega) only [go_sem, hx, p.ren, p.noAny, hps, g1, g2, q1]; rfl)); (focus (simp (maxSteps := 9999999) (disch := omega) only [go_sem, hx, p.ren, p.noAny, hps, g1, g2, q1]; first | done | trivial)); (focus (simp (maxSteps := 9999999) (disch := omega) only [go_sem, hx, p.ren, p.noAny, hps, g1, g2, q1]; rfl))) | (apply TailK.go; (focus (simp (maxSteps := 9999999) (disch := omega) only [go_sem, hx, p.ren, p.noAny, hps, g1, g2, q1]; rfl))) | refine AWpA.skip ?_ | refine AWpA.exit ?_ | refine AWpA.ret ?_ | (with_reducible refine ARoundsA.succ ?_) | ((first | refine Runs.kt (by assumption) (fun h9 => ?_) | refine Runs.kf (by assumption) (fun h9 => ?_) | refine Runs.nt (by assumption) (fun h9 => ?_) | refine Runs.nf (by assumption) (fun h9 => ?_) | refine CondP.ht (by assumption) (fun h9 => ?_) | refine CondP.hf (by assumption) (fun h9 => ?_) | refine CondP.nt (by assumption) (fun h9 => ?_) | refine CondP.nf (by assumption) (fun h9 => ?_)); (try simp only [h9]); clear h9)); (try simp (maxSteps := 9999999) (disch := omega) only [go_sem, hx, p.ren, p.noAny, hps, g1, g2, q1]); (try (refine And.intro ?_ ?_; (focus (first | omega | (simp only [go_sem]; done) | (simp; done) | (simp; omega) | assumption))))) | ((first | refine CondP.split (fun hif => ?_) (fun hif => ?_) | refine Runs.part (fun hif => ?_) (fun hif => ?_)) <;> ((try simp only [hif]); (try simp only [decide_eq_true_eq, decide_eq_false_iff_not, Bool.not_eq_true, Bool.not_eq_false, Bool.not_eq_true', Bool.not_eq_false', beq_iff_eq, bne_iff_ne, bne_eq_false_iff_eq, beq_eq_false_iff_ne, ne_eq, Bool.and_eq_true, Bool.or_eq_true, Bool.or_eq_false_iff] at hif); (try (have h9 : _ = true := hif; simp only [h9])); (try (have h9 : _ = false := hif; simp only [h9])); (try simp (maxSteps := 9999999) (disch := omega) only [go_sem, hx, p.ren, p.noAny, hps, g1, g2, q1]); (try (refine And.intro ?_ ?_; (focus (first | omega | (simp only [go_sem]; done) | (simp; done) | (simp; omega) | assumption)))); (try (exfalso; omega; done))))))
    (apply Ret.det [0, 241]; (focus (first | exact .inl rfl | exact .inr rfl)); (focus (simp (maxSteps := 9999999) (disch := omega) only [go_sem, p.ren, hl]; rfl)); (simp (maxSteps := 9999999) (disch := omega) only [go_sem, p.ren, hl]; (try (repeat' (first | done | trivial | rfl | exact leAs_rfl _ | decide | (refine And.intro ?_ ?_) | (simp; done) | omega | (simp; decide))))))
  · rw [show turnE d i = 2 by unfold turnE; rw [if_neg h], show turnF d i b = d by unfold turnF; rw [if_neg h], decide_eq_false h]
    by_cases h0 : i < 0
    · refine ACall.startA c52_ok Try.func52 rfl Try.ntmps52 (by kernel_rfl) res52_ok rfl rfl rfl ?_; simp (maxSteps := 9999999) (disch := omega) only [go_sem]
      refine AWpA.dummy ?_
      (repeat' (first | refine AWpA.seq ?_ | refine AWpA.block ?_ | (with_reducible refine CondP.tt ?_) | (with_reducible refine CondP.ff ?_) | refine AWpA.condv (by simp (maxSteps := 9999999) (disch := omega) only [go_sem, p.ren, eq_true h0]; rfl) ?_ | ((first | (apply AWpA.region; (focus (simp (maxSteps := 9999999) (disch := omega) only [go_sem, p.ren, eq_true h0]; rfl))) | (apply AWpA.draw [] [] follows; (focus (first | rfl | decide)); (focus (simp (maxSteps := 9999999) (disch := omega) only [go_sem, p.ren, eq_true h0]; rfl)); (focus (simp (maxSteps := 9999999) (disch := omega) only [go_sem, p.ren, eq_true h0]; first | done | trivial)); (focus (simp (maxSteps := 9999999) (disch := omega) only [go_sem, p.ren, eq_true h0]; rfl))) | (apply TailK.go; (focus (simp (maxSteps := 9999999) (disch := omega) only [go_sem, p.ren, eq_true h0]; rfl))) | refine AWpA.skip ?_ | refine AWpA.exit ?_ | refine AWpA.ret ?_ | (with_reducible refine ARoundsA.succ ?_) | ((first | refine Runs.kt (by assumption) (fun h9 => ?_) | refine Runs.kf (by assumption) (fun h9 => ?_) | refine Runs.nt (by assumption) (fun h9 => ?_) | refine Runs.nf (by assumption) (fun h9 => ?_) | refine CondP.ht (by assumption) (fun h9 => ?_) | refine CondP.hf (by assumption) (fun h9 => ?_) | refine CondP.nt (by assumption) (fun h9 => ?_) | refine CondP.nf (by assumption) (fun h9 => ?_)); (try simp only [h9]); clear h9)); (try simp (maxSteps := 9999999) (disch := omega) only [go_sem, p.ren, eq_true h0]); (try (refine And.intro ?_ ?_; (focus (first | omega | (simp only [go_sem]; done) | (simp; done) | (simp; omega) | assumption))))) | ((first | refine CondP.split (fun hif => ?_) (fun hif => ?_) | refine Runs.part (fun hif => ?_) (fun hif => ?_)) <;> ((try simp only [hif]); (try simp only [decide_eq_true_eq, decide_eq_false_iff_not, Bool.not_eq_true, Bool.not_eq_false, Bool.not_eq_true', Bool.not_eq_false', beq_iff_eq, bne_iff_ne, bne_eq_false_iff_eq, beq_eq_false_iff_ne, ne_eq, Bool.and_eq_true, Bool.or_eq_true, Bool.or_eq_false_iff] at hif); (try (have h9 : _ = true := hif; simp only [h9])); (try (have h9 : _ = false := hif; simp only [h9])); (try simp (maxSteps := 9999999) (disch := omega) only [go_sem, p.ren, eq_true h0]); (try (refine And.intro ?_ ?_; (focus (first | omega | (simp only [go_sem]; done) | (simp; done) | (simp; omega) | assumption)))); (try (exfalso; omega; done))))))
      (apply Ret.det [0, 1]; (focus (first | exact .inl rfl | exact .inr rfl)); (focus (simp (maxSteps := 9999999) (disch := omega) only [go_sem, p.ren]; rfl)); (simp (maxSteps := 9999999) (disch := omega) only [go_sem, p.ren]; (try (repeat' (first | done | trivial | rfl | exact leAs_rfl _ | decide | (refine And.intro ?_ ?_) | (simp; done) | omega | (simp; decide))))))
    · have h3 : (d.l.length : Int) ≤ i := by omega
      refine ACall.startA c52_ok Try.func52 rfl Try.ntmps52 (by kernel_rfl) res52_ok rfl rfl rfl ?_; simp (maxSteps := 9999999) (disch := omega) only [go_sem]
      refine AWpA.dummy ?_
      (repeat' (first | refine AWpA.seq ?_ | refine AWpA.block ?_ | (with_reducible refine CondP.tt ?_) | (with_reducible refine CondP.ff ?_) | refine AWpA.condv (by simp (maxSteps := 9999999) (disch := omega) only [go_sem, p.ren, eq_false h0, eq_true h3]; rfl) ?_ | ((first | (apply AWpA.region; (focus (simp (maxSteps := 9999999) (disch := omega) only [go_sem, p.ren, eq_false h0, eq_true h3]; rfl))) | (apply AWpA.draw [] [] follows; (focus (first | rfl | decide)); (focus (simp (maxSteps := 9999999) (disch := omega) only [go_sem, p.ren, eq_false h0, eq_true h3]; rfl)); (focus (simp (maxSteps := 9999999) (disch := omega) only [go_sem, p.ren, eq_false h0, eq_true h3]; first | done | trivial)); (focus (simp (maxSteps := 9999999) (disch := omega) only [go_sem, p.ren, eq_false h0, eq_true h3]; rfl))) | (apply TailK.go; (focus (simp (maxSteps := 9999999) (disch := omega) only [go_sem, p.ren, eq_false h0, eq_true h3]; rfl))) | refine AWpA.skip ?_ | refine AWpA.exit ?_ | refine AWpA.ret ?_ | (with_reducible refine ARoundsA.succ ?_) | ((first | refine Runs.kt (by assumption) (fun h9 => ?_) | refine Runs.kf (by assumption) (fun h9 => ?_) | refine Runs.nt (by assumption) (fun h9 => ?_) | refine Runs.nf (by assumption) (fun h9 => ?_) | refine CondP.ht (by assumption) (fun h9 => ?_) | refine CondP.hf (by assumption) (fun h9 => ?_) | refine CondP.nt (by assumption) (fun h9 => ?_) | refine CondP.nf (by assumption) (fun h9 => ?_)); (try simp only [h9]); clear h9)); (try simp (maxSteps := 9999999) (disch := omega) only [go_sem, p.ren, eq_false h0, eq_true h3]); (try (refine And.intro ?_ ?_; (focus (first | omega | (simp only [go_sem]; done) | (simp; done) | (simp; omega) | assumption))))) | ((first | refine CondP.split (fun hif => ?_) (fun hif => ?_) | refine Runs.part (fun hif => ?_) (fun hif => ?_)) <;> ((try simp only [hif]); (try simp only [decide_eq_true_eq, decide_eq_false_iff_not, Bool.not_eq_true, Bool.not_eq_false, Bool.not_eq_true', Bool.not_eq_false', beq_iff_eq, bne_iff_ne, bne_eq_false_iff_eq, beq_eq_false_iff_ne, ne_eq, Bool.and_eq_true, Bool.or_eq_true, Bool.or_eq_false_iff] at hif); (try (have h9 : _ = true := hif; simp only [h9])); (try (have h9 : _ = false := hif; simp only [h9])); (try simp (maxSteps := 9999999) (disch := omega) only [go_sem, p.ren, eq_false h0, eq_true h3]); (try (refine And.intro ?_ ?_; (focus (first | omega | (simp only [go_sem]; done) | (simp; done) | (simp; omega) | assumption)))); (try (exfalso; omega; done))))))
      (apply Ret.det [0, 1]; (focus (first | exact .inl rfl | exact .inr rfl)); (focus (simp (maxSteps := 9999999) (disch := omega) only [go_sem, p.ren]; rfl)); (simp (maxSteps := 9999999) (disch := omega) only [go_sem, p.ren]; (try (repeat' (first | done | trivial | rfl | exact leAs_rfl _ | decide | (refine And.intro ?_ ?_) | (simp; done) | omega | (simp; decide))))))
/-- What is done with a disk. -/
def actD (d : Dk) (k n : Int) (b : List Int) : Dk :=
  if k = 0 then doD d (appW d b.length) (appF b) else if k = 1 then doD d 0 syncF else if k = 2 then doD d (trimW d n) (trimF n.toNat)
  else if k = 3 then { d with left := if -1 > n then -1 else n } else if k = 4 then crashF d n else if k = 5 then turnF d n (byB b) else d
def nwD (d : Dk) (k n : Int) (b : List Int) : Bool :=
  if k = 0 then nwA d (appW d b.length) else if k = 5 then decide (0 ≤ n ∧ n < (d.l.length : Int)) else false
abbrev AtG (i : Nat) (k n : Int) (o : Nat) (b : List Int) : AV := .agg [I k, I n, .sl i o b.length 1 none]
theorem do_any (d : Dk) (hok : d.ok) (k n : Int) {P Q : List AV} {o : Nat} {b : List Int} (p : Seg P 0 d.l) (s : Seg Q o b) : ACall Try.prog 24 [.ptr 0 0, Dg 2 d, AtG 3 k n o b]
    [DkO 1 d, .cells false (bA d.l), .cells true P, .cells true Q]
    (Det (.tup [Dg (cond (nwD d k n b) 5 2) (actD d k n b), Bo true]) [DkO 4 (actD d k n b), .gone, .cells true P, .cells true Q, .cells false (bA (actD d k n b).l), .cells false (cond (nwD d k n b) (bA (actD d k n b).l) [])]) := by
  by_cases k0 : k = 0
  · subst k0
    have a1 := dapp_any d hok s
    have a2 := rapp_any d hok p s
    have e1 : actD d 0 n b = doD d (appW d b.length) (appF b) := rfl
    have e2 : nwD d 0 n b = nwA d (appW d b.length) := rfl
    rw [e1, e2]
    cases hn : nwA d (appW d b.length) with
    | false =>
      rw [hn] at a2
      simp only [cond_false] at a2 ⊢
      generalize doD d (appW d b.length) (appF b) = d' at *
      generalize doE d (appW d b.length) = e at *
      refine ACall.startA c24_ok Try.func24 rfl Try.ntmps24 (by kernel_rfl) res24_ok rfl rfl rfl ?_; simp (maxSteps := 9999999) (disch := omega) only [go_sem]
      (repeat' (first | refine AWpA.seq ?_ | refine AWpA.block ?_ | (with_reducible refine CondP.tt ?_) | (with_reducible refine CondP.ff ?_) | refine AWpA.condv (by simp (maxSteps := 9999999) (disch := omega) only [go_sem, p.ren, s.ren]; rfl) ?_ | ((first | (apply AWpA.region; (focus (simp (maxSteps := 9999999) (disch := omega) only [go_sem, p.ren, s.ren]; rfl))) | (apply AWpA.draw [0, 1] [] follows; (focus (first | rfl | decide)); (focus (simp (maxSteps := 9999999) (disch := omega) only [go_sem, p.ren, s.ren]; rfl)); (focus (simp (maxSteps := 9999999) (disch := omega) only [go_sem, p.ren, s.ren]; first | done | trivial)); (focus (simp (maxSteps := 9999999) (disch := omega) only [go_sem, p.ren, s.ren]; rfl))) | (apply TailK.go; (focus (simp (maxSteps := 9999999) (disch := omega) only [go_sem, p.ren, s.ren]; rfl))) | refine AWpA.skip ?_ | refine AWpA.exit ?_ | refine AWpA.ret ?_ | (with_reducible refine ARoundsA.succ ?_) | ((first | refine Runs.kt (by assumption) (fun h9 => ?_) | refine Runs.kf (by assumption) (fun h9 => ?_) | refine Runs.nt (by assumption) (fun h9 => ?_) | refine Runs.nf (by assumption) (fun h9 => ?_) | refine CondP.ht (by assumption) (fun h9 => ?_) | refine CondP.hf (by assumption) (fun h9 => ?_) | refine CondP.nt (by assumption) (fun h9 => ?_) | refine CondP.nf (by assumption) (fun h9 => ?_)); (try simp only [h9]); clear h9) | ((first | (with_reducible apply CallG.plain1 [0, 1, 3] (a1)) | (with_reducible apply CallG.draw1 [0, 1, 3] (a1))); (focus ((try refine And.intro (leAs_of_eq rfl) ?_); (try refine And.intro (leOL_of_eq rfl) ?_); simp (maxSteps := 9999999) (disch := omega) only [go_sem, p.ren, s.ren]; first | done | (repeat' (first | rfl | (refine And.intro ?_ ?_))))); (focus (simp (maxSteps := 9999999) (disch := omega) only [go_sem, p.ren, s.ren]; rfl))) | ((first | (with_reducible apply CallG.plain1 [2, 3] (a2)) | (with_reducible apply CallG.draw1 [2, 3] (a2))); (focus ((try refine And.intro (leAs_of_eq rfl) ?_); (try refine And.intro (leOL_of_eq rfl) ?_); simp (maxSteps := 9999999) (disch := omega) only [go_sem, p.ren, s.ren]; first | done | (repeat' (first | rfl | (refine And.intro ?_ ?_))))); (focus (simp (maxSteps := 9999999) (disch := omega) only [go_sem, p.ren, s.ren]; rfl)))); (try simp (maxSteps := 9999999) (disch := omega) only [go_sem, p.ren, s.ren]); (try (refine And.intro ?_ ?_; (focus (first | omega | (simp only [go_sem]; done) | (simp; done) | (simp; omega) | assumption))))) | ((first | refine CondP.split (fun hif => ?_) (fun hif => ?_) | refine Runs.part (fun hif => ?_) (fun hif => ?_)) <;> ((try simp only [hif]); (try simp only [decide_eq_true_eq, decide_eq_false_iff_not, Bool.not_eq_true, Bool.not_eq_false, Bool.not_eq_true', Bool.not_eq_false', beq_iff_eq, bne_iff_ne, bne_eq_false_iff_eq, beq_eq_false_iff_ne, ne_eq, Bool.and_eq_true, Bool.or_eq_true, Bool.or_eq_false_iff] at hif); (try (have h9 : _ = true := hif; simp only [h9])); (try (have h9 : _ = false := hif; simp only [h9])); (try simp (maxSteps := 9999999) (disch := omega) only [go_sem, p.ren, s.ren]); (try (refine And.intro ?_ ?_; (focus (first | omega | (simp only [go_sem]; done) | (simp; done) | (simp; omega) | assumption)))); (try (exfalso; omega; done))))))
      (apply Ret.det [0, 1, 2, 3, 212, 292]; (focus (first | exact .inl rfl | exact .inr rfl)); (focus (simp (maxSteps := 9999999) (disch := omega) only [go_sem, p.ren, s.ren]; rfl)); (simp (maxSteps := 9999999) (disch := omega) only [go_sem, p.ren, s.ren]; (try (repeat' (first | done | trivial | rfl | exact leAs_rfl _ | decide | (refine And.intro ?_ ?_) | (simp; done) | omega | (simp; decide))))))
    | true =>
      rw [hn] at a2
      simp only [cond_true] at a2 ⊢
      generalize doD d (appW d b.length) (appF b) = d' at *
      generalize doE d (appW d b.length) = e at *
      refine ACall.startA c24_ok Try.func24 rfl Try.ntmps24 (by kernel_rfl) res24_ok rfl rfl rfl ?_; simp (maxSteps := 9999999) (disch := omega) only [go_sem]
      (repeat' (first | refine AWpA.seq ?_ | refine AWpA.block ?_ | (with_reducible refine CondP.tt ?_) | (with_reducible refine CondP.ff ?_) | refine AWpA.condv (by simp (maxSteps := 9999999) (disch := omega) only [go_sem, p.ren, s.ren]; rfl) ?_ | ((first | (apply AWpA.region; (focus (simp (maxSteps := 9999999) (disch := omega) only [go_sem, p.ren, s.ren]; rfl))) | (apply AWpA.draw [0, 1] [] follows; (focus (first | rfl | decide)); (focus (simp (maxSteps := 9999999) (disch := omega) only [go_sem, p.ren, s.ren]; rfl)); (focus (simp (maxSteps := 9999999) (disch := omega) only [go_sem, p.ren, s.ren]; first | done | trivial)); (focus (simp (maxSteps := 9999999) (disch := omega) only [go_sem, p.ren, s.ren]; rfl))) | (apply TailK.go; (focus (simp (maxSteps := 9999999) (disch := omega) only [go_sem, p.ren, s.ren]; rfl))) | refine AWpA.skip ?_ | refine AWpA.exit ?_ | refine AWpA.ret ?_ | (with_reducible refine ARoundsA.succ ?_) | ((first | refine Runs.kt (by assumption) (fun h9 => ?_) | refine Runs.kf (by assumption) (fun h9 => ?_) | refine Runs.nt (by assumption) (fun h9 => ?_) | refine Runs.nf (by assumption) (fun h9 => ?_) | refine CondP.ht (by assumption) (fun h9 => ?_) | refine CondP.hf (by assumption) (fun h9 => ?_) | refine CondP.nt (by assumption) (fun h9 => ?_) | refine CondP.nf (by assumption) (fun h9 => ?_)); (try simp only [h9]); clear h9) | ((first | (with_reducible apply CallG.plain1 [0, 1, 3] (a1)) | (with_reducible apply CallG.draw1 [0, 1, 3] (a1))); (focus ((try refine And.intro (leAs_of_eq rfl) ?_); (try refine And.intro (leOL_of_eq rfl) ?_); simp (maxSteps := 9999999) (disch := omega) only [go_sem, p.ren, s.ren]; first | done | (repeat' (first | rfl | (refine And.intro ?_ ?_))))); (focus (simp (maxSteps := 9999999) (disch := omega) only [go_sem, p.ren, s.ren]; rfl))) | ((first | (with_reducible apply CallG.plain1 [2, 3] (a2)) | (with_reducible apply CallG.draw1 [2, 3] (a2))); (focus ((try refine And.intro (leAs_of_eq rfl) ?_); (try refine And.intro (leOL_of_eq rfl) ?_); simp (maxSteps := 9999999) (disch := omega) only [go_sem, p.ren, s.ren]; first | done | (repeat' (first | rfl | (refine And.intro ?_ ?_))))); (focus (simp (maxSteps := 9999999) (disch := omega) only [go_sem, p.ren, s.ren]; rfl)))); (try simp (maxSteps := 9999999) (disch := omega) only [go_sem, p.ren, s.ren]); (try (refine And.intro ?_ ?_; (focus (first | omega | (simp only [go_sem]; done) | (simp; done) | (simp; omega) | assumption))))) | ((first | refine CondP.split (fun hif => ?_) (fun hif => ?_) | refine Runs.part (fun hif => ?_) (fun hif => ?_)) <;> ((try simp only [hif]); (try simp only [decide_eq_true_eq, decide_eq_false_iff_not, Bool.not_eq_true, Bool.not_eq_false, Bool.not_eq_true', Bool.not_eq_false', beq_iff_eq, bne_iff_ne, bne_eq_false_iff_eq, beq_eq_false_iff_ne, ne_eq, Bool.and_eq_true, Bool.or_eq_true, Bool.or_eq_false_iff] at hif); (try (have h9 : _ = true := hif; simp only [h9])); (try (have h9 : _ = false := hif; simp only [h9])); (try simp (maxSteps := 9999999) (disch := omega) only [go_sem, p.ren, s.ren]); (try (refine And.intro ?_ ?_; (focus (first | omega | (simp only [go_sem]; done) | (simp; done) | (simp; omega) | assumption)))); (try (exfalso; omega; done))))))
      (apply Ret.det [0, 1, 2, 3, 212, 292]; (focus (first | exact .inl rfl | exact .inr rfl)); (focus (simp (maxSteps := 9999999) (disch := omega) only [go_sem, p.ren, s.ren]; rfl)); (simp (maxSteps := 9999999) (disch := omega) only [go_sem, p.ren, s.ren]; (try (repeat' (first | done | trivial | rfl | exact leAs_rfl _ | decide | (refine And.intro ?_ ?_) | (simp; done) | omega | (simp; decide))))))
  have g0 : (k == 0) = false := by simpa using k0
  by_cases k1 : k = 1
  · subst k1
    have a1 := dsync_any d hok
    have a2 := rsync_any d hok p
    have e1 : actD d 1 n b = doD d 0 syncF := rfl
    have e2 : nwD d 1 n b = false := rfl
    have e3 : bA (doD d 0 syncF).l = bA d.l := by unfold doD syncF; split; rfl; split; rfl; split <;> rfl
    rw [e1, e2, e3]
    generalize doD d 0 syncF = d' at *
    generalize doE d 0 = e at *
    refine ACall.startA c24_ok Try.func24 rfl Try.ntmps24 (by kernel_rfl) res24_ok rfl rfl rfl ?_; simp (maxSteps := 9999999) (disch := omega) only [go_sem]
    refine AWpA.dummy ?_
    (repeat' (first | refine AWpA.seq ?_ | refine AWpA.block ?_ | (with_reducible refine CondP.tt ?_) | (with_reducible refine CondP.ff ?_) | refine AWpA.condv (by simp (maxSteps := 9999999) (disch := omega) only [go_sem, p.ren, s.ren]; rfl) ?_ | ((first | (apply AWpA.region; (focus (simp (maxSteps := 9999999) (disch := omega) only [go_sem, p.ren, s.ren]; rfl))) | (apply AWpA.draw [0, 1] [] follows; (focus (first | rfl | decide)); (focus (simp (maxSteps := 9999999) (disch := omega) only [go_sem, p.ren, s.ren]; rfl)); (focus (simp (maxSteps := 9999999) (disch := omega) only [go_sem, p.ren, s.ren]; first | done | trivial)); (focus (simp (maxSteps := 9999999) (disch := omega) only [go_sem, p.ren, s.ren]; rfl))) | (apply TailK.go; (focus (simp (maxSteps := 9999999) (disch := omega) only [go_sem, p.ren, s.ren]; rfl))) | refine AWpA.skip ?_ | refine AWpA.exit ?_ | refine AWpA.ret ?_ | (with_reducible refine ARoundsA.succ ?_) | ((first | refine Runs.kt (by assumption) (fun h9 => ?_) | refine Runs.kf (by assumption) (fun h9 => ?_) | refine Runs.nt (by assumption) (fun h9 => ?_) | refine Runs.nf (by assumption) (fun h9 => ?_) | refine CondP.ht (by assumption) (fun h9 => ?_) | refine CondP.hf (by assumption) (fun h9 => ?_) | refine CondP.nt (by assumption) (fun h9 => ?_) | refine CondP.nf (by assumption) (fun h9 => ?_)); (try simp only [h9]); clear h9) | ((first | (with_reducible apply CallG.plain1 [0, 1] (a1)) | (with_reducible apply CallG.draw1 [0, 1] (a1))); (focus ((try refine And.intro (leAs_of_eq rfl) ?_); (try refine And.intro (leOL_of_eq rfl) ?_); simp (maxSteps := 9999999) (disch := omega) only [go_sem, p.ren, s.ren]; first | done | (repeat' (first | rfl | (refine And.intro ?_ ?_))))); (focus (simp (maxSteps := 9999999) (disch := omega) only [go_sem, p.ren, s.ren]; rfl))) | ((first | (with_reducible apply CallG.plain1 [2] (a2)) | (with_reducible apply CallG.draw1 [2] (a2))); (focus ((try refine And.intro (leAs_of_eq rfl) ?_); (try refine And.intro (leOL_of_eq rfl) ?_); simp (maxSteps := 9999999) (disch := omega) only [go_sem, p.ren, s.ren]; first | done | (repeat' (first | rfl | (refine And.intro ?_ ?_))))); (focus (simp (maxSteps := 9999999) (disch := omega) only [go_sem, p.ren, s.ren]; rfl)))); (try simp (maxSteps := 9999999) (disch := omega) only [go_sem, p.ren, s.ren]); (try (refine And.intro ?_ ?_; (focus (first | omega | (simp only [go_sem]; done) | (simp; done) | (simp; omega) | assumption))))) | ((first | refine CondP.split (fun hif => ?_) (fun hif => ?_) | refine Runs.part (fun hif => ?_) (fun hif => ?_)) <;> ((try simp only [hif]); (try simp only [decide_eq_true_eq, decide_eq_false_iff_not, Bool.not_eq_true, Bool.not_eq_false, Bool.not_eq_true', Bool.not_eq_false', beq_iff_eq, bne_iff_ne, bne_eq_false_iff_eq, beq_eq_false_iff_ne, ne_eq, Bool.and_eq_true, Bool.or_eq_true, Bool.or_eq_false_iff] at hif); (try (have h9 : _ = true := hif; simp only [h9])); (try (have h9 : _ = false := hif; simp only [h9])); (try simp (maxSteps := 9999999) (disch := omega) only [go_sem, p.ren, s.ren]); (try (refine And.intro ?_ ?_; (focus (first | omega | (simp only [go_sem]; done) | (simp; done) | (simp; omega) | assumption)))); (try (exfalso; omega; done))))))
    (apply Ret.det [0, 1, 2, 3, 1, 4]; (focus (first | exact .inl rfl | exact .inr rfl)); (focus (simp (maxSteps := 9999999) (disch := omega) only [go_sem, p.ren, s.ren]; rfl)); (simp (maxSteps := 9999999) (disch := omega) only [go_sem, p.ren, s.ren]; (try (repeat' (first | done | trivial | rfl | exact leAs_rfl _ | decide | (refine And.intro ?_ ?_) | (simp; done) | omega | (simp; decide))))))
  have g1 : (k == 1) = false := by simpa using k1
  by_cases k2 : k = 2
  · subst k2
    have a1 := dtrim_any d hok n
    have a2 := rtrim_any d hok n p
    have e1 : actD d 2 n b = doD d (trimW d n) (trimF n.toNat) := rfl
    have e2 : nwD d 2 n b = false := rfl
    rw [e1, e2]
    generalize doD d (trimW d n) (trimF n.toNat) = d' at *
    generalize doE d (trimW d n) = e at *
    refine ACall.startA c24_ok Try.func24 rfl Try.ntmps24 (by kernel_rfl) res24_ok rfl rfl rfl ?_; simp (maxSteps := 9999999) (disch := omega) only [go_sem]
    refine AWpA.dummy ?_
    (repeat' (first | refine AWpA.seq ?_ | refine AWpA.block ?_ | (with_reducible refine CondP.tt ?_) | (with_reducible refine CondP.ff ?_) | refine AWpA.condv (by simp (maxSteps := 9999999) (disch := omega) only [go_sem, p.ren, s.ren]; rfl) ?_ | ((first | (apply AWpA.region; (focus (simp (maxSteps := 9999999) (disch := omega) only [go_sem, p.ren, s.ren]; rfl))) | (apply AWpA.draw [0, 1] [] follows; (focus (first | rfl | decide)); (focus (simp (maxSteps := 9999999) (disch := omega) only [go_sem, p.ren, s.ren]; rfl)); (focus (simp (maxSteps := 9999999) (disch := omega) only [go_sem, p.ren, s.ren]; first | done | trivial)); (focus (simp (maxSteps := 9999999) (disch := omega) only [go_sem, p.ren, s.ren]; rfl))) | (apply TailK.go; (focus (simp (maxSteps := 9999999) (disch := omega) only [go_sem, p.ren, s.ren]; rfl))) | refine AWpA.skip ?_ | refine AWpA.exit ?_ | refine AWpA.ret ?_ | (with_reducible refine ARoundsA.succ ?_) | ((first | refine Runs.kt (by assumption) (fun h9 => ?_) | refine Runs.kf (by assumption) (fun h9 => ?_) | refine Runs.nt (by assumption) (fun h9 => ?_) | refine Runs.nf (by assumption) (fun h9 => ?_) | refine CondP.ht (by assumption) (fun h9 => ?_) | refine CondP.hf (by assumption) (fun h9 => ?_) | refine CondP.nt (by assumption) (fun h9 => ?_) | refine CondP.nf (by assumption) (fun h9 => ?_)); (try simp only [h9]); clear h9) | ((first | (with_reducible apply CallG.plain1 [0, 1] (a1)) | (with_reducible apply CallG.draw1 [0, 1] (a1))); (focus ((try refine And.intro (leAs_of_eq rfl) ?_); (try refine And.intro (leOL_of_eq rfl) ?_); simp (maxSteps := 9999999) (disch := omega) only [go_sem, p.ren, s.ren]; first | done | (repeat' (first | rfl | (refine And.intro ?_ ?_))))); (focus (simp (maxSteps := 9999999) (disch := omega) only [go_sem, p.ren, s.ren]; rfl))) | ((first | (with_reducible apply CallG.plain1 [2] (a2)) | (with_reducible apply CallG.draw1 [2] (a2))); (focus ((try refine And.intro (leAs_of_eq rfl) ?_); (try refine And.intro (leOL_of_eq rfl) ?_); simp (maxSteps := 9999999) (disch := omega) only [go_sem, p.ren, s.ren]; first | done | (repeat' (first | rfl | (refine And.intro ?_ ?_))))); (focus (simp (maxSteps := 9999999) (disch := omega) only [go_sem, p.ren, s.ren]; rfl)))); (try simp (maxSteps := 9999999) (disch := omega) only [go_sem, p.ren, s.ren]); (try (refine And.intro ?_ ?_; (focus (first | omega | (simp only [go_sem]; done) | (simp; done) | (simp; omega) | assumption))))) | ((first | refine CondP.split (fun hif => ?_) (fun hif => ?_) | refine Runs.part (fun hif => ?_) (fun hif => ?_)) <;> ((try simp only [hif]); (try simp only [decide_eq_true_eq, decide_eq_false_iff_not, Bool.not_eq_true, Bool.not_eq_false, Bool.not_eq_true', Bool.not_eq_false', beq_iff_eq, bne_iff_ne, bne_eq_false_iff_eq, beq_eq_false_iff_ne, ne_eq, Bool.and_eq_true, Bool.or_eq_true, Bool.or_eq_false_iff] at hif); (try (have h9 : _ = true := hif; simp only [h9])); (try (have h9 : _ = false := hif; simp only [h9])); (try simp (maxSteps := 9999999) (disch := omega) only [go_sem, p.ren, s.ren]); (try (refine And.intro ?_ ?_; (focus (first | omega | (simp only [go_sem]; done) | (simp; done) | (simp; omega) | assumption)))); (try (exfalso; omega; done))))))
    (apply Ret.det [0, 1, 2, 3, 1, 4]; (focus (first | exact .inl rfl | exact .inr rfl)); (focus (simp (maxSteps := 9999999) (disch := omega) only [go_sem, p.ren, s.ren]; rfl)); (simp (maxSteps := 9999999) (disch := omega) only [go_sem, p.ren, s.ren]; (try (repeat' (first | done | trivial | rfl | exact leAs_rfl _ | decide | (refine And.intro ?_ ?_) | (simp; done) | omega | (simp; decide))))))
  have g2 : (k == 2) = false := by simpa using k2
  by_cases k3 : k = 3
  · subst k3
    have a1 := fuse_any d n
    have e1 : actD d 3 n b = { d with left := if -1 > n then -1 else n } := rfl
    have e2 : nwD d 3 n b = false := rfl
    rw [e1, e2]
    refine ACall.startA c24_ok Try.func24 rfl Try.ntmps24 (by kernel_rfl) res24_ok rfl rfl rfl ?_; simp (maxSteps := 9999999) (disch := omega) only [go_sem]
    refine AWpA.dummy ?_
    (repeat' (first | refine AWpA.seq ?_ | refine AWpA.block ?_ | (with_reducible refine CondP.tt ?_) | (with_reducible refine CondP.ff ?_) | refine AWpA.condv (by simp (maxSteps := 9999999) (disch := omega) only [go_sem, p.ren, s.ren]; rfl) ?_ | ((first | (apply AWpA.region; (focus (simp (maxSteps := 9999999) (disch := omega) only [go_sem, p.ren, s.ren]; rfl))) | (apply AWpA.draw [0, 1] [] follows; (focus (first | rfl | decide)); (focus (simp (maxSteps := 9999999) (disch := omega) only [go_sem, p.ren, s.ren]; rfl)); (focus (simp (maxSteps := 9999999) (disch := omega) only [go_sem, p.ren, s.ren]; first | done | trivial)); (focus (simp (maxSteps := 9999999) (disch := omega) only [go_sem, p.ren, s.ren]; rfl))) | (apply TailK.go; (focus (simp (maxSteps := 9999999) (disch := omega) only [go_sem, p.ren, s.ren]; rfl))) | refine AWpA.skip ?_ | refine AWpA.exit ?_ | refine AWpA.ret ?_ | (with_reducible refine ARoundsA.succ ?_) | ((first | refine Runs.kt (by assumption) (fun h9 => ?_) | refine Runs.kf (by assumption) (fun h9 => ?_) | refine Runs.nt (by assumption) (fun h9 => ?_) | refine Runs.nf (by assumption) (fun h9 => ?_) | refine CondP.ht (by assumption) (fun h9 => ?_) | refine CondP.hf (by assumption) (fun h9 => ?_) | refine CondP.nt (by assumption) (fun h9 => ?_) | refine CondP.nf (by assumption) (fun h9 => ?_)); (try simp only [h9]); clear h9) | ((first | (with_reducible apply CallG.plain1 [0, 1] (a1)) | (with_reducible apply CallG.draw1 [0, 1] (a1))); (focus ((try refine And.intro (leAs_of_eq rfl) ?_); (try refine And.intro (leOL_of_eq rfl) ?_); simp (maxSteps := 9999999) (disch := omega) only [go_sem, p.ren, s.ren]; first | done | (repeat' (first | rfl | (refine And.intro ?_ ?_))))); (focus (simp (maxSteps := 9999999) (disch := omega) only [go_sem, p.ren, s.ren]; rfl)))); (try simp (maxSteps := 9999999) (disch := omega) only [go_sem, p.ren, s.ren]); (try (refine And.intro ?_ ?_; (focus (first | omega | (simp only [go_sem]; done) | (simp; done) | (simp; omega) | assumption))))) | ((first | refine CondP.split (fun hif => ?_) (fun hif => ?_) | refine Runs.part (fun hif => ?_) (fun hif => ?_)) <;> ((try simp only [hif]); (try simp only [decide_eq_true_eq, decide_eq_false_iff_not, Bool.not_eq_true, Bool.not_eq_false, Bool.not_eq_true', Bool.not_eq_false', beq_iff_eq, bne_iff_ne, bne_eq_false_iff_eq, beq_eq_false_iff_ne, ne_eq, Bool.and_eq_true, Bool.or_eq_true, Bool.or_eq_false_iff] at hif); (try (have h9 : _ = true := hif; simp only [h9])); (try (have h9 : _ = false := hif; simp only [h9])); (try simp (maxSteps := 9999999) (disch := omega) only [go_sem, p.ren, s.ren]); (try (refine And.intro ?_ ?_; (focus (first | omega | (simp only [go_sem]; done) | (simp; done) | (simp; omega) | assumption)))); (try (exfalso; omega; done))))))
    (apply Ret.det [0, 1, 2, 3, 1, 4]; (focus (first | exact .inl rfl | exact .inr rfl)); (focus (simp (maxSteps := 9999999) (disch := omega) only [go_sem, p.ren, s.ren]; rfl)); (simp (maxSteps := 9999999) (disch := omega) only [go_sem, p.ren, s.ren]; (try (repeat' (first | done | trivial | rfl | exact leAs_rfl _ | decide | (refine And.intro ?_ ?_) | (simp; done) | omega | (simp; decide))))))
  have g3 : (k == 3) = false := by simpa using k3
  by_cases k4 : k = 4
  · subst k4
    have a1 := dcrash_any d hok n
    have a2 := rcrash_any d hok n p
    have e1 : actD d 4 n b = crashF d n := rfl
    have e2 : nwD d 4 n b = false := rfl
    rw [e1, e2]
    generalize crashF d n = d' at *
    generalize crashN d n = e at *
    refine ACall.startA c24_ok Try.func24 rfl Try.ntmps24 (by kernel_rfl) res24_ok rfl rfl rfl ?_; simp (maxSteps := 9999999) (disch := omega) only [go_sem]
    refine AWpA.dummy ?_
    (repeat' (first | refine AWpA.seq ?_ | refine AWpA.block ?_ | (with_reducible refine CondP.tt ?_) | (with_reducible refine CondP.ff ?_) | refine AWpA.condv (by simp (maxSteps := 9999999) (disch := omega) only [go_sem, p.ren, s.ren]; rfl) ?_ | ((first | (apply AWpA.region; (focus (simp (maxSteps := 9999999) (disch := omega) only [go_sem, p.ren, s.ren]; rfl))) | (apply AWpA.draw [0, 1] [] follows; (focus (first | rfl | decide)); (focus (simp (maxSteps := 9999999) (disch := omega) only [go_sem, p.ren, s.ren]; rfl)); (focus (simp (maxSteps := 9999999) (disch := omega) only [go_sem, p.ren, s.ren]; first | done | trivial)); (focus (simp (maxSteps := 9999999) (disch := omega) only [go_sem, p.ren, s.ren]; rfl))) | (apply TailK.go; (focus (simp (maxSteps := 9999999) (disch := omega) only [go_sem, p.ren, s.ren]; rfl))) | refine AWpA.skip ?_ | refine AWpA.exit ?_ | refine AWpA.ret ?_ | (with_reducible refine ARoundsA.succ ?_) | ((first | refine Runs.kt (by assumption) (fun h9 => ?_) | refine Runs.kf (by assumption) (fun h9 => ?_) | refine Runs.nt (by assumption) (fun h9 => ?_) | refine Runs.nf (by assumption) (fun h9 => ?_) | refine CondP.ht (by assumption) (fun h9 => ?_) | refine CondP.hf (by assumption) (fun h9 => ?_) | refine CondP.nt (by assumption) (fun h9 => ?_) | refine CondP.nf (by assumption) (fun h9 => ?_)); (try simp only [h9]); clear h9) | ((first | (with_reducible apply CallG.plain1 [0, 1] (a1)) | (with_reducible apply CallG.draw1 [0, 1] (a1))); (focus ((try refine And.intro (leAs_of_eq rfl) ?_); (try refine And.intro (leOL_of_eq rfl) ?_); simp (maxSteps := 9999999) (disch := omega) only [go_sem, p.ren, s.ren]; first | done | (repeat' (first | rfl | (refine And.intro ?_ ?_))))); (focus (simp (maxSteps := 9999999) (disch := omega) only [go_sem, p.ren, s.ren]; rfl))) | ((first | (with_reducible apply CallG.plain1 [2] (a2)) | (with_reducible apply CallG.draw1 [2] (a2))); (focus ((try refine And.intro (leAs_of_eq rfl) ?_); (try refine And.intro (leOL_of_eq rfl) ?_); simp (maxSteps := 9999999) (disch := omega) only [go_sem, p.ren, s.ren]; first | done | (repeat' (first | rfl | (refine And.intro ?_ ?_))))); (focus (simp (maxSteps := 9999999) (disch := omega) only [go_sem, p.ren, s.ren]; rfl)))); (try simp (maxSteps := 9999999) (disch := omega) only [go_sem, p.ren, s.ren]); (try (refine And.intro ?_ ?_; (focus (first | omega | (simp only [go_sem]; done) | (simp; done) | (simp; omega) | assumption))))) | ((first | refine CondP.split (fun hif => ?_) (fun hif => ?_) | refine Runs.part (fun hif => ?_) (fun hif => ?_)) <;> ((try simp only [hif]); (try simp only [decide_eq_true_eq, decide_eq_false_iff_not, Bool.not_eq_true, Bool.not_eq_false, Bool.not_eq_true', Bool.not_eq_false', beq_iff_eq, bne_iff_ne, bne_eq_false_iff_eq, beq_eq_false_iff_ne, ne_eq, Bool.and_eq_true, Bool.or_eq_true, Bool.or_eq_false_iff] at hif); (try (have h9 : _ = true := hif; simp only [h9])); (try (have h9 : _ = false := hif; simp only [h9])); (try simp (maxSteps := 9999999) (disch := omega) only [go_sem, p.ren, s.ren]); (try (refine And.intro ?_ ?_; (focus (first | omega | (simp only [go_sem]; done) | (simp; done) | (simp; omega) | assumption)))); (try (exfalso; omega; done))))))
    (apply Ret.det [0, 1, 2, 3, 1, 4]; (focus (first | exact .inl rfl | exact .inr rfl)); (focus (simp (maxSteps := 9999999) (disch := omega) only [go_sem, p.ren, s.ren]; rfl)); (simp (maxSteps := 9999999) (disch := omega) only [go_sem, p.ren, s.ren]; (try (repeat' (first | done | trivial | rfl | exact leAs_rfl _ | decide | (refine And.intro ?_ ?_) | (simp; done) | omega | (simp; decide))))))
  have g4 : (k == 4) = false := by simpa using k4
  by_cases k5 : k = 5
  · subst k5
    have a1 := dturn_any d hok n (byB b)
    have a2 := rturn_any d hok n (byB b) p
    have a3 := by_any 5 n s
    have e1 : actD d 5 n b = turnF d n (byB b) := rfl
    have e2 : nwD d 5 n b = decide (0 ≤ n ∧ n < (d.l.length : Int)) := rfl
    rw [e1, e2]
    cases hn : decide (0 ≤ n ∧ n < (d.l.length : Int)) with
    | false =>
      rw [hn] at a2
      simp only [cond_false] at a2 ⊢
      generalize turnF d n (byB b) = d' at *
      generalize turnE d n = e at *
      generalize byB b = bb at *
      refine ACall.startA c24_ok Try.func24 rfl Try.ntmps24 (by kernel_rfl) res24_ok rfl rfl rfl ?_; simp (maxSteps := 9999999) (disch := omega) only [go_sem]
      (repeat' (first | refine AWpA.seq ?_ | refine AWpA.block ?_ | (with_reducible refine CondP.tt ?_) | (with_reducible refine CondP.ff ?_) | refine AWpA.condv (by simp (maxSteps := 9999999) (disch := omega) only [go_sem, p.ren, s.ren]; rfl) ?_ | ((first | (apply AWpA.region; (focus (simp (maxSteps := 9999999) (disch := omega) only [go_sem, p.ren, s.ren]; rfl))) | (apply AWpA.draw [0, 1] [(0, 4)] follows; (focus (first | rfl | decide)); (focus (simp (maxSteps := 9999999) (disch := omega) only [go_sem, p.ren, s.ren]; rfl)); (focus (simp (maxSteps := 9999999) (disch := omega) only [go_sem, p.ren, s.ren]; first | done | trivial)); (focus (simp (maxSteps := 9999999) (disch := omega) only [go_sem, p.ren, s.ren]; rfl))) | (apply AWpA.draw [0, 1] [] follows; (focus (first | rfl | decide)); (focus (simp (maxSteps := 9999999) (disch := omega) only [go_sem, p.ren, s.ren]; rfl)); (focus (simp (maxSteps := 9999999) (disch := omega) only [go_sem, p.ren, s.ren]; first | done | trivial)); (focus (simp (maxSteps := 9999999) (disch := omega) only [go_sem, p.ren, s.ren]; rfl))) | (apply TailK.go; (focus (simp (maxSteps := 9999999) (disch := omega) only [go_sem, p.ren, s.ren]; rfl))) | refine AWpA.skip ?_ | refine AWpA.exit ?_ | refine AWpA.ret ?_ | (with_reducible refine ARoundsA.succ ?_) | ((first | refine Runs.kt (by assumption) (fun h9 => ?_) | refine Runs.kf (by assumption) (fun h9 => ?_) | refine Runs.nt (by assumption) (fun h9 => ?_) | refine Runs.nf (by assumption) (fun h9 => ?_) | refine CondP.ht (by assumption) (fun h9 => ?_) | refine CondP.hf (by assumption) (fun h9 => ?_) | refine CondP.nt (by assumption) (fun h9 => ?_) | refine CondP.nf (by assumption) (fun h9 => ?_)); (try simp only [h9]); clear h9) | ((first | (with_reducible apply CallG.plain1 [3] (a3)) | (with_reducible apply CallG.draw1 [3] (a3))); (focus ((try refine And.intro (leAs_of_eq rfl) ?_); (try refine And.intro (leOL_of_eq rfl) ?_); simp (maxSteps := 9999999) (disch := omega) only [go_sem, p.ren, s.ren]; first | done | (repeat' (first | rfl | (refine And.intro ?_ ?_))))); (focus (simp (maxSteps := 9999999) (disch := omega) only [go_sem, p.ren, s.ren]; rfl))) | ((first | (with_reducible apply CallG.plain1 [0, 1] (a1)) | (with_reducible apply CallG.draw1 [0, 1] (a1))); (focus ((try refine And.intro (leAs_of_eq rfl) ?_); (try refine And.intro (leOL_of_eq rfl) ?_); simp (maxSteps := 9999999) (disch := omega) only [go_sem, p.ren, s.ren]; first | done | (repeat' (first | rfl | (refine And.intro ?_ ?_))))); (focus (simp (maxSteps := 9999999) (disch := omega) only [go_sem, p.ren, s.ren]; rfl))) | ((first | (with_reducible apply CallG.plain1 [2] (a2)) | (with_reducible apply CallG.draw1 [2] (a2))); (focus ((try refine And.intro (leAs_of_eq rfl) ?_); (try refine And.intro (leOL_of_eq rfl) ?_); simp (maxSteps := 9999999) (disch := omega) only [go_sem, p.ren, s.ren]; first | done | (repeat' (first | rfl | (refine And.intro ?_ ?_))))); (focus (simp (maxSteps := 9999999) (disch := omega) only [go_sem, p.ren, s.ren]; rfl)))); (try simp (maxSteps := 9999999) (disch := omega) only [go_sem, p.ren, s.ren]); (try (refine And.intro ?_ ?_; (focus (first | omega | (simp only [go_sem]; done) | (simp; done) | (simp; omega) | assumption))))) | ((first | refine CondP.split (fun hif => ?_) (fun hif => ?_) | refine Runs.part (fun hif => ?_) (fun hif => ?_)) <;> ((try simp only [hif]); (try simp only [decide_eq_true_eq, decide_eq_false_iff_not, Bool.not_eq_true, Bool.not_eq_false, Bool.not_eq_true', Bool.not_eq_false', beq_iff_eq, bne_iff_ne, bne_eq_false_iff_eq, beq_eq_false_iff_ne, ne_eq, Bool.and_eq_true, Bool.or_eq_true, Bool.or_eq_false_iff] at hif); (try (have h9 : _ = true := hif; simp only [h9])); (try (have h9 : _ = false := hif; simp only [h9])); (try simp (maxSteps := 9999999) (disch := omega) only [go_sem, p.ren, s.ren]); (try (refine And.intro ?_ ?_; (focus (first | omega | (simp only [go_sem]; done) | (simp; done) | (simp; omega) | assumption)))); (try (exfalso; omega; done))))))
      (apply Ret.det [0, 1, 2, 3, 1, 516]; (focus (first | exact .inl rfl | exact .inr rfl)); (focus (simp (maxSteps := 9999999) (disch := omega) only [go_sem, p.ren, s.ren]; rfl)); (simp (maxSteps := 9999999) (disch := omega) only [go_sem, p.ren, s.ren]; (try (repeat' (first | done | trivial | rfl | exact leAs_rfl _ | decide | (refine And.intro ?_ ?_) | (simp; done) | omega | (simp; decide))))))
    | true =>
      rw [hn] at a2
      simp only [cond_true] at a2 ⊢
      generalize turnF d n (byB b) = d' at *
      generalize turnE d n = e at *
      generalize byB b = bb at *
      refine ACall.startA c24_ok Try.func24 rfl Try.ntmps24 (by kernel_rfl) res24_ok rfl rfl rfl ?_; simp (maxSteps := 9999999) (disch := omega) only [go_sem]
      (repeat' (first | refine AWpA.seq ?_ | refine AWpA.block ?_ | (with_reducible refine CondP.tt ?_) | (with_reducible refine CondP.ff ?_) | refine AWpA.condv (by simp (maxSteps := 9999999) (disch := omega) only [go_sem, p.ren, s.ren]; rfl) ?_ | ((first | (apply AWpA.region; (focus (simp (maxSteps := 9999999) (disch := omega) only [go_sem, p.ren, s.ren]; rfl))) | (apply AWpA.draw [0, 1] [(0, 4)] follows; (focus (first | rfl | decide)); (focus (simp (maxSteps := 9999999) (disch := omega) only [go_sem, p.ren, s.ren]; rfl)); (focus (simp (maxSteps := 9999999) (disch := omega) only [go_sem, p.ren, s.ren]; first | done | trivial)); (focus (simp (maxSteps := 9999999) (disch := omega) only [go_sem, p.ren, s.ren]; rfl))) | (apply AWpA.draw [0, 1] [] follows; (focus (first | rfl | decide)); (focus (simp (maxSteps := 9999999) (disch := omega) only [go_sem, p.ren, s.ren]; rfl)); (focus (simp (maxSteps := 9999999) (disch := omega) only [go_sem, p.ren, s.ren]; first | done | trivial)); (focus (simp (maxSteps := 9999999) (disch := omega) only [go_sem, p.ren, s.ren]; rfl))) | (apply TailK.go; (focus (simp (maxSteps := 9999999) (disch := omega) only [go_sem, p.ren, s.ren]; rfl))) | refine AWpA.skip ?_ | refine AWpA.exit ?_ | refine AWpA.ret ?_ | (with_reducible refine ARoundsA.succ ?_) | ((first | refine Runs.kt (by assumption) (fun h9 => ?_) | refine Runs.kf (by assumption) (fun h9 => ?_) | refine Runs.nt (by assumption) (fun h9 => ?_) | refine Runs.nf (by assumption) (fun h9 => ?_) | refine CondP.ht (by assumption) (fun h9 => ?_) | refine CondP.hf (by assumption) (fun h9 => ?_) | refine CondP.nt (by assumption) (fun h9 => ?_) | refine CondP.nf (by assumption) (fun h9 => ?_)); (try simp only [h9]); clear h9) | ((first | (with_reducible apply CallG.plain1 [3] (a3)) | (with_reducible apply CallG.draw1 [3] (a3))); (focus ((try refine And.intro (leAs_of_eq rfl) ?_); (try refine And.intro (leOL_of_eq rfl) ?_); simp (maxSteps := 9999999) (disch := omega) only [go_sem, p.ren, s.ren]; first | done | (repeat' (first | rfl | (refine And.intro ?_ ?_))))); (focus (simp (maxSteps := 9999999) (disch := omega) only [go_sem, p.ren, s.ren]; rfl))) | ((first | (with_reducible apply CallG.plain1 [0, 1] (a1)) | (with_reducible apply CallG.draw1 [0, 1] (a1))); (focus ((try refine And.intro (leAs_of_eq rfl) ?_); (try refine And.intro (leOL_of_eq rfl) ?_); simp (maxSteps := 9999999) (disch := omega) only [go_sem, p.ren, s.ren]; first | done | (repeat' (first | rfl | (refine And.intro ?_ ?_))))); (focus (simp (maxSteps := 9999999) (disch := omega) only [go_sem, p.ren, s.ren]; rfl))) | ((first | (with_reducible apply CallG.plain1 [2] (a2)) | (with_reducible apply CallG.draw1 [2] (a2))); (focus ((try refine And.intro (leAs_of_eq rfl) ?_); (try refine And.intro (leOL_of_eq rfl) ?_); simp (maxSteps := 9999999) (disch := omega) only [go_sem, p.ren, s.ren]; first | done | (repeat' (first | rfl | (refine And.intro ?_ ?_))))); (focus (simp (maxSteps := 9999999) (disch := omega) only [go_sem, p.ren, s.ren]; rfl)))); (try simp (maxSteps := 9999999) (disch := omega) only [go_sem, p.ren, s.ren]); (try (refine And.intro ?_ ?_; (focus (first | omega | (simp only [go_sem]; done) | (simp; done) | (simp; omega) | assumption))))) | ((first | refine CondP.split (fun hif => ?_) (fun hif => ?_) | refine Runs.part (fun hif => ?_) (fun hif => ?_)) <;> ((try simp only [hif]); (try simp only [decide_eq_true_eq, decide_eq_false_iff_not, Bool.not_eq_true, Bool.not_eq_false, Bool.not_eq_true', Bool.not_eq_false', beq_iff_eq, bne_iff_ne, bne_eq_false_iff_eq, beq_eq_false_iff_ne, ne_eq, Bool.and_eq_true, Bool.or_eq_true, Bool.or_eq_false_iff] at hif); (try (have h9 : _ = true := hif; simp only [h9])); (try (have h9 : _ = false := hif; simp only [h9])); (try simp (maxSteps := 9999999) (disch := omega) only [go_sem, p.ren, s.ren]); (try (refine And.intro ?_ ?_; (focus (first | omega | (simp only [go_sem]; done) | (simp; done) | (simp; omega) | assumption)))); (try (exfalso; omega; done))))))
      (apply Ret.det [0, 1, 2, 3, 1, 516]; (focus (first | exact .inl rfl | exact .inr rfl)); (focus (simp (maxSteps := 9999999) (disch := omega) only [go_sem, p.ren, s.ren]; rfl)); (simp (maxSteps := 9999999) (disch := omega) only [go_sem, p.ren, s.ren]; (try (repeat' (first | done | trivial | rfl | exact leAs_rfl _ | decide | (refine And.intro ?_ ?_) | (simp; done) | omega | (simp; decide))))))
  have g5 : (k == 5) = false := by simpa using k5
  have e1 : actD d k n b = d := by simp [actD, k0, k1, k2, k3, k4, k5]
  have e2 : nwD d k n b = false := by simp [nwD, k0, k5]
  rw [e1, e2]
  refine ACall.startA c24_ok Try.func24 rfl Try.ntmps24 (by kernel_rfl) res24_ok rfl rfl rfl ?_; simp (maxSteps := 9999999) (disch := omega) only [go_sem]
  refine AWpA.dummy ?_
  (repeat' (first | refine AWpA.seq ?_ | refine AWpA.block ?_ | (with_reducible refine CondP.tt ?_) | (with_reducible refine CondP.ff ?_) | refine AWpA.condv (by simp (maxSteps := 9999999) (disch := omega) only [go_sem, p.ren, s.ren, g0, g1, g2, g3, g4, g5]; rfl) ?_ | ((first | (apply AWpA.region; (focus (simp (maxSteps := 9999999) (disch := omega) only [go_sem, p.ren, s.ren, g0, g1, g2, g3, g4, g5]; rfl))) | (apply AWpA.draw [] [] follows; (focus (first | rfl | decide)); (focus (simp (maxSteps := 9999999) (disch := omega) only [go_sem, p.ren, s.ren, g0, g1, g2, g3, g4, g5]; rfl)); (focus (simp (maxSteps := 9999999) (disch := omega) only [go_sem, p.ren, s.ren, g0, g1, g2, g3, g4, g5]; first | done | trivial)); (focus (simp (maxSteps := 9999999) (disch := omega) only [go_sem, p.ren, s.ren, g0, g1, g2, g3, g4, g5]; rfl))) | (apply TailK.go; (focus (simp (maxSteps := 9999999) (disch := omega) only [go_sem, p.ren, s.ren, g0, g1, g2, g3, g4, g5]; rfl))) | refine AWpA.skip ?_ | refine AWpA.exit ?_ | refine AWpA.ret ?_ | (with_reducible refine ARoundsA.succ ?_) | ((first | refine Runs.kt (by assumption) (fun h9 => ?_) | refine Runs.kf (by assumption) (fun h9 => ?_) | refine Runs.nt (by assumption) (fun h9 => ?_) | refine Runs.nf (by assumption) (fun h9 => ?_) | refine CondP.ht (by assumption) (fun h9 => ?_) | refine CondP.hf (by assumption) (fun h9 => ?_) | refine CondP.nt (by assumption) (fun h9 => ?_) | refine CondP.nf (by assumption) (fun h9 => ?_)); (try simp only [h9]); clear h9)); (try simp (maxSteps := 9999999) (disch := omega) only [go_sem, p.ren, s.ren, g0, g1, g2, g3, g4, g5]); (try (refine And.intro ?_ ?_; (focus (first | omega | (simp only [go_sem]; done) | (simp; done) | (simp; omega) | assumption))))) | ((first | refine CondP.split (fun hif => ?_) (fun hif => ?_) | refine Runs.part (fun hif => ?_) (fun hif => ?_)) <;> ((try simp only [hif]); (try simp only [decide_eq_true_eq, decide_eq_false_iff_not, Bool.not_eq_true, Bool.not_eq_false, Bool.not_eq_true', Bool.not_eq_false', beq_iff_eq, bne_iff_ne, bne_eq_false_iff_eq, beq_eq_false_iff_ne, ne_eq, Bool.and_eq_true, Bool.or_eq_true, Bool.or_eq_false_iff] at hif); (try (have h9 : _ = true := hif; simp only [h9])); (try (have h9 : _ = false := hif; simp only [h9])); (try simp (maxSteps := 9999999) (disch := omega) only [go_sem, p.ren, s.ren, g0, g1, g2, g3, g4, g5]); (try (refine And.intro ?_ ?_; (focus (first | omega | (simp only [go_sem]; done) | (simp; done) | (simp; omega) | assumption)))); (try (exfalso; omega; done))))))
  (apply Ret.det [0, 1, 2, 3, 1, 4]; (focus (first | exact .inl rfl | exact .inr rfl)); (focus (simp (maxSteps := 9999999) (disch := omega) only [go_sem, p.ren, s.ren]; rfl)); (simp (maxSteps := 9999999) (disch := omega) only [go_sem, p.ren, s.ren]; (try (repeat' (first | done | trivial | rfl | exact leAs_rfl _ | decide | (refine And.intro ?_ ?_) | (simp; done) | omega | (simp; decide))))))
end Go.Proofs.Ytnadhhmlehifnaa
