/- Made by wip/gen_rows.py: slices of marks: cloned, grown, cut. -/
import Derived.Test.YtgjimlgofakbpaaBr1
import Derived.Test.YtgjimlgofakbpaaBo
namespace Go.Proofs.Ytgjimlgofakbpaa
set_option linter.unusedSimpArgs false
set_option linter.unusedVariables false
set_option maxHeartbeats 4000000
open Go Go.Am Go.RowKit
set_option maxRecDepth 100000
/- slices.Clone[[]quidnunc/api.Mark,quidnunc/api.Mark] -/
noncomputable def c61_1 : ACode := .region false [⟨some 2, .move, [.c (.val (.slice none 0 0))], none⟩] [] [] [0] false [] []
noncomputable def c61_4 : ACode := .region false [⟨some 3, .move, [.t 0], none⟩,
  ⟨some 4, .eqS false, [.t 3, .c (.val (.slice none 0 0))], none⟩] [] [] [0, 4] false [] []
noncomputable def c61_7 : ACode := .region false [⟨some 2, .move, [.c (.val (.slice none 0 0))], none⟩] [] [] [2] false [] []
noncomputable def c61_6 : ACode := .seq c61_7 .ret
noncomputable def c61_5 : ACode := .cond (.t 4) c61_6 .skip
noncomputable def c61_3 : ACode := .seq c61_4 c61_5
noncomputable def c61_9 : ACode := .region false [⟨some 5, .buildSl 3 0 [(.int .i64 0), (.int .i64 0), (.string ⟨#[]⟩)] [], [], none⟩,
  ⟨some 6, .move, [.t 0], none⟩,
  ⟨some 7, .append 3 32 false, [.t 5, .t 6], none⟩,
  ⟨some 2, .move, [.t 7], none⟩] [] [] [2] true [] []
noncomputable def c61_8 : ACode := .seq c61_9 .ret
noncomputable def c61_2 : ACode := .seq c61_3 c61_8
noncomputable def c61_0 : ACode := .seq c61_1 c61_2
noncomputable def code61 : Code := (Try.f61.body).getD .skip
theorem c61_ok : compC Try.prog 8 code61 = some (strip c61_0) := by kernel_rfl
theorem res61_ok : Try.f61.results.toList.mapM (resC Try.prog) = some [(2, none)] := by kernel_rfl
/- slices.Insert[[]quidnunc/api.Mark,quidnunc/api.Mark] -/
noncomputable def c58_1 : ACode := .region false [⟨some 6, .move, [.c (.val (.slice none 0 0))], none⟩] [] [] [0, 1, 2] false [] []
noncomputable def c58_3 : ACode := .region false [⟨some 10, .move, [.t 0], none⟩,
  ⟨some 11, .move, [.t 1], none⟩,
  ⟨some 12, .slS 3 true false false, [.t 10, .t 11], none⟩] [] [] [0, 1, 2] false [] []
noncomputable def c58_5 : ACode := .region false [⟨some 13, .move, [.t 2], none⟩,
  ⟨some 14, .len, [.t 13], none⟩,
  ⟨some 7, .move, [.t 14], none⟩] [] [] [0, 1, 2, 7] false [] []
noncomputable def c58_8 : ACode := .region false [⟨some 15, .move, [.t 7], none⟩,
  ⟨some 16, .bin .eql, [.t 15, .c (.val (.int .i64 0))], none⟩] [] [] [0, 1, 2, 7, 16] false [] []
noncomputable def c58_11 : ACode := .region false [⟨some 17, .move, [.t 0], none⟩,
  ⟨some 6, .move, [.t 17], none⟩] [] [] [6] false [] []
noncomputable def c58_10 : ACode := .seq c58_11 .ret
noncomputable def c58_9 : ACode := .cond (.t 16) c58_10 .skip
noncomputable def c58_7 : ACode := .seq c58_8 c58_9
noncomputable def c58_13 : ACode := .region false [⟨some 18, .move, [.t 0], none⟩,
  ⟨some 19, .len, [.t 18], none⟩,
  ⟨some 8, .move, [.t 19], none⟩] [] [] [0, 1, 2, 7, 8] false [] []
noncomputable def c58_16 : ACode := .region false [⟨some 20, .move, [.t 1], none⟩,
  ⟨some 21, .move, [.t 8], none⟩,
  ⟨some 22, .bin .eql, [.t 20, .t 21], none⟩] [] [] [0, 1, 2, 7, 8, 22] false [] []
noncomputable def c58_19 : ACode := .region false [⟨some 23, .move, [.t 0], none⟩,
  ⟨some 24, .move, [.t 2], none⟩,
  ⟨some 25, .append 3 32 false, [.t 23, .t 24], none⟩,
  ⟨some 6, .move, [.t 25], none⟩] [] [] [6] true [] []
noncomputable def c58_18 : ACode := .seq c58_19 .ret
noncomputable def c58_17 : ACode := .cond (.t 22) c58_18 .skip
noncomputable def c58_15 : ACode := .seq c58_16 c58_17
noncomputable def c58_22 : ACode := .region false [⟨some 26, .move, [.t 8], none⟩,
  ⟨some 27, .move, [.t 7], none⟩,
  ⟨some 28, .bin .add, [.t 26, .t 27], none⟩,
  ⟨some 29, .move, [.t 0], none⟩,
  ⟨some 30, .cap, [.t 29], none⟩,
  ⟨some 31, .bin .gtr, [.t 28, .t 30], none⟩] [] [] [0, 1, 2, 7, 8, 31] false [] []
noncomputable def c58_25 : ACode := .region false [⟨some 32, .move, [.t 0], none⟩,
  ⟨some 33, .move, [.t 1], none⟩,
  ⟨some 34, .slS 3 false true false, [.t 32, .t 33], none⟩,
  ⟨some 35, .move, [.t 8], none⟩,
  ⟨some 36, .move, [.t 7], none⟩,
  ⟨some 37, .bin .add, [.t 35, .t 36], none⟩,
  ⟨some 38, .move, [.t 1], none⟩,
  ⟨some 39, .bin .sub, [.t 37, .t 38], none⟩,
  ⟨some 40, .growN 3 32, [.t 34, .t 39], none⟩,
  ⟨some 9, .move, [.t 40], none⟩] [] [] [0, 1, 2, 7, 9] true [] []
noncomputable def c58_27 : ACode := .region false [⟨some 41, .move, [.t 9], none⟩,
  ⟨some 42, .move, [.t 1], none⟩,
  ⟨some 43, .slS 3 true false false, [.t 41, .t 42], none⟩,
  ⟨some 44, .move, [.t 2], none⟩,
  ⟨some 45, .copy 3, [.t 43, .t 44], none⟩] [] [] [0, 1, 7, 9] true [] []
noncomputable def c58_29 : ACode := .region true [⟨some 46, .move, [.t 9], none⟩,
  ⟨some 47, .move, [.t 1], none⟩,
  ⟨some 48, .move, [.t 7], none⟩,
  ⟨some 49, .bin .add, [.t 47, .t 48], none⟩,
  ⟨some 50, .slS 3 true false false, [.t 46, .t 49], none⟩,
  ⟨some 51, .move, [.t 0], none⟩,
  ⟨some 52, .move, [.t 1], none⟩,
  ⟨some 53, .slS 3 true false false, [.t 51, .t 52], none⟩,
  ⟨some 54, .copy 3, [.t 50, .t 53], none⟩] [] [] [9] true [9] []
noncomputable def c58_31 : ACode := .region false [⟨some 55, .move, [.t 9], none⟩,
  ⟨some 6, .move, [.t 55], none⟩] [] [] [6] false [] []
noncomputable def c58_30 : ACode := .seq c58_31 .ret
noncomputable def c58_28 : ACode := .seq c58_29 c58_30
noncomputable def c58_26 : ACode := .seq c58_27 c58_28
noncomputable def c58_24 : ACode := .seq c58_25 c58_26
noncomputable def c58_23 : ACode := .cond (.t 31) c58_24 .skip
noncomputable def c58_21 : ACode := .seq c58_22 c58_23
noncomputable def c58_33 : ACode := .region false [⟨some 56, .move, [.t 0], none⟩,
  ⟨some 57, .move, [.t 8], none⟩,
  ⟨some 58, .move, [.t 7], none⟩,
  ⟨some 59, .bin .add, [.t 57, .t 58], none⟩,
  ⟨some 60, .slS 3 false true false, [.t 56, .t 59], none⟩,
  ⟨some 0, .move, [.t 60], none⟩] [] [] [0, 1, 2, 7, 8] false [] []
noncomputable def c58_36 : ACode := .region false [⟨some 61, .move, [.t 2], none⟩,
  ⟨some 62, .move, [.t 0], none⟩,
  ⟨some 63, .move, [.t 1], none⟩,
  ⟨some 64, .move, [.t 7], none⟩,
  ⟨some 65, .bin .add, [.t 63, .t 64], none⟩,
  ⟨some 66, .slS 3 true false false, [.t 62, .t 65], none⟩,
  ⟨some 67, .call 78, [.t 61, .t 66], none⟩,
  ⟨some 68, .un .not, [.t 67], none⟩] [] [] [0, 1, 2, 7, 8, 68] true [] []
noncomputable def c58_39 : ACode := .region true [⟨some 69, .move, [.t 0], none⟩,
  ⟨some 70, .move, [.t 1], none⟩,
  ⟨some 71, .move, [.t 7], none⟩,
  ⟨some 72, .bin .add, [.t 70, .t 71], none⟩,
  ⟨some 73, .slS 3 true false false, [.t 69, .t 72], none⟩,
  ⟨some 74, .move, [.t 0], none⟩,
  ⟨some 75, .move, [.t 1], none⟩,
  ⟨some 76, .slS 3 true false false, [.t 74, .t 75], none⟩,
  ⟨some 77, .copy 3, [.t 73, .t 76], none⟩] [] [] [0, 1, 2] true [0] []
noncomputable def c58_41 : ACode := .region false [⟨some 78, .move, [.t 0], none⟩,
  ⟨some 79, .move, [.t 1], none⟩,
  ⟨some 80, .slS 3 true false false, [.t 78, .t 79], none⟩,
  ⟨some 81, .move, [.t 2], none⟩,
  ⟨some 82, .copy 3, [.t 80, .t 81], none⟩] [] [] [0] true [] []
noncomputable def c58_43 : ACode := .region false [⟨some 83, .move, [.t 0], none⟩,
  ⟨some 6, .move, [.t 83], none⟩] [] [] [6] false [] []
noncomputable def c58_42 : ACode := .seq c58_43 .ret
noncomputable def c58_40 : ACode := .seq c58_41 c58_42
noncomputable def c58_38 : ACode := .seq c58_39 c58_40
noncomputable def c58_37 : ACode := .cond (.t 68) c58_38 .skip
noncomputable def c58_35 : ACode := .seq c58_36 c58_37
noncomputable def c58_45 : ACode := .region false [⟨some 84, .move, [.t 0], none⟩,
  ⟨some 85, .move, [.t 8], none⟩,
  ⟨some 86, .slS 3 true false false, [.t 84, .t 85], none⟩,
  ⟨some 87, .move, [.t 2], none⟩,
  ⟨some 88, .copy 3, [.t 86, .t 87], none⟩] [] [] [0, 1, 7] true [] []
noncomputable def c58_47 : ACode := .region false [⟨some 89, .move, [.t 0], none⟩,
  ⟨some 90, .move, [.t 1], none⟩,
  ⟨some 91, .slS 3 true false false, [.t 89, .t 90], none⟩,
  ⟨some 92, .move, [.t 7], none⟩,
  ⟨some 93, .call 79, [.t 91, .t 92], none⟩] [] [] [0] true [] []
noncomputable def c58_49 : ACode := .region false [⟨some 94, .move, [.t 0], none⟩,
  ⟨some 6, .move, [.t 94], none⟩] [] [] [6] false [] []
noncomputable def c58_48 : ACode := .seq c58_49 .ret
noncomputable def c58_46 : ACode := .seq c58_47 c58_48
noncomputable def c58_44 : ACode := .seq c58_45 c58_46
noncomputable def c58_34 : ACode := .seq c58_35 c58_44
noncomputable def c58_32 : ACode := .seq c58_33 c58_34
noncomputable def c58_20 : ACode := .seq c58_21 c58_32
noncomputable def c58_14 : ACode := .seq c58_15 c58_20
noncomputable def c58_12 : ACode := .seq c58_13 c58_14
noncomputable def c58_6 : ACode := .seq c58_7 c58_12
noncomputable def c58_4 : ACode := .seq c58_5 c58_6
noncomputable def c58_2 : ACode := .seq c58_3 c58_4
noncomputable def c58_0 : ACode := .seq c58_1 c58_2
noncomputable def code58 : Code := (Try.f58.body).getD .skip
theorem c58_ok : compC Try.prog 95 code58 = some (strip c58_0) := by kernel_rfl
theorem res58_ok : Try.f58.results.toList.mapM (resC Try.prog) = some [(6, none)] := by kernel_rfl
/- slices.Delete[[]quidnunc/api.Mark,quidnunc/api.Mark] -/
noncomputable def c59_1 : ACode := .region false [⟨some 6, .move, [.c (.val (.slice none 0 0))], none⟩] [] [] [0, 1, 2] false [] []
noncomputable def c59_3 : ACode := .region false [⟨some 8, .move, [.t 0], none⟩,
  ⟨some 9, .move, [.t 1], none⟩,
  ⟨some 10, .move, [.t 2], none⟩,
  ⟨some 11, .move, [.t 0], none⟩,
  ⟨some 12, .len, [.t 11], none⟩,
  ⟨some 13, .slS 3 true true true, [.t 8, .t 9, .t 10, .t 12], none⟩] [] [] [0, 1, 2] false [] []
noncomputable def c59_6 : ACode := .region false [⟨some 14, .move, [.t 1], none⟩,
  ⟨some 15, .move, [.t 2], none⟩,
  ⟨some 16, .bin .eql, [.t 14, .t 15], none⟩] [] [] [0, 1, 2, 16] false [] []
noncomputable def c59_9 : ACode := .region false [⟨some 17, .move, [.t 0], none⟩,
  ⟨some 6, .move, [.t 17], none⟩] [] [] [6] false [] []
noncomputable def c59_8 : ACode := .seq c59_9 .ret
noncomputable def c59_7 : ACode := .cond (.t 16) c59_8 .skip
noncomputable def c59_5 : ACode := .seq c59_6 c59_7
noncomputable def c59_11 : ACode := .region false [⟨some 18, .move, [.t 0], none⟩,
  ⟨some 19, .len, [.t 18], none⟩,
  ⟨some 7, .move, [.t 19], none⟩] [] [] [0, 1, 2, 7] false [] []
noncomputable def c59_13 : ACode := .region true [⟨some 20, .move, [.t 0], none⟩,
  ⟨some 21, .move, [.t 1], none⟩,
  ⟨some 22, .slS 3 false true false, [.t 20, .t 21], none⟩,
  ⟨some 23, .move, [.t 0], none⟩,
  ⟨some 24, .move, [.t 2], none⟩,
  ⟨some 25, .slS 3 true false false, [.t 23, .t 24], none⟩,
  ⟨some 26, .append 3 32 false, [.t 22, .t 25], none⟩,
  ⟨some 0, .move, [.t 26], none⟩] [] [] [0, 7] true [0] []
noncomputable def c59_15 : ACode := .region false [⟨some 27, .move, [.t 0], none⟩,
  ⟨some 28, .move, [.t 0], none⟩,
  ⟨some 29, .len, [.t 28], none⟩,
  ⟨some 30, .move, [.t 7], none⟩,
  ⟨some 31, .slS 3 true true false, [.t 27, .t 29, .t 30], none⟩,
  ⟨none, .clearS 3 [(.int .i64 0), (.int .i64 0), (.string ⟨#[]⟩)], [.t 31], none⟩] [] [] [0] true [] []
noncomputable def c59_17 : ACode := .region false [⟨some 32, .move, [.t 0], none⟩,
  ⟨some 6, .move, [.t 32], none⟩] [] [] [6] false [] []
noncomputable def c59_16 : ACode := .seq c59_17 .ret
noncomputable def c59_14 : ACode := .seq c59_15 c59_16
noncomputable def c59_12 : ACode := .seq c59_13 c59_14
noncomputable def c59_10 : ACode := .seq c59_11 c59_12
noncomputable def c59_4 : ACode := .seq c59_5 c59_10
noncomputable def c59_2 : ACode := .seq c59_3 c59_4
noncomputable def c59_0 : ACode := .seq c59_1 c59_2
noncomputable def code59 : Code := (Try.f59.body).getD .skip
theorem c59_ok : compC Try.prog 33 code59 = some (strip c59_0) := by kernel_rfl
theorem res59_ok : Try.f59.results.toList.mapM (resC Try.prog) = some [(6, none)] := by kernel_rfl
theorem overm_any {o la o' lb : Nat} {ca cb : Option Nat} {C D : List AV} (hC : ∀ ρ, renL ρ C = C) (hD : ∀ ρ, renL ρ D = D) (hla : 0 < la) (hlb : 0 < lb) : ACall Try.prog 78 [.sl 0 o la 3 ca, .sl 1 o' lb 3 cb] [.cells false C, .cells false D] (Det (Bo false) [.cells false C, .cells false D]) :=
  overlaps_gen Try.func78 (by kernel_rfl) (by kernel_rfl) (by kernel_rfl) (tS := 52) (tR := 4) (e := 30) (by kernel_rfl) Try.underlying52 (by kernel_rfl) (by decide) hC hD hla hlb
theorem clonem_any (C : List AV) (off : Nat) (l : List Mk) (hl : l.length ≤ 1099511627776) (hr : ∀ ρ, renL ρ C = C) (hle : off + l.length * 3 ≤ C.length) (hseg : (C.drop off).take (l.length * 3) = Rm 0 l) : ACall Try.prog 61 [.sl 0 off l.length 3 none] [.cells true C] (Det (.sl 1 0 l.length 3 none) [.cells true C, .cells false (Rm 0 l)]) := by
  have hr2 := rm_ren
  have hno := rm_noAny
  by_cases h0 : l.length = 0
  · have hl : l = [] := List.length_eq_zero_iff.1 h0
    subst hl
    simp only [List.length_nil, Nat.zero_mul, Nat.add_zero] at hle
    clear hseg h0
    refine ACall.startA c61_ok Try.func61 rfl Try.ntmps61 (by kernel_rfl) res61_ok rfl rfl rfl ?_; simp (maxSteps := 9999999) (disch := omega) only [go_sem]
    refine AWpA.nilcase 0 rfl ?_ (fun q => ?_) (fun cp => ?_)
    · refine AWpA.dummy ?_
      (repeat' (first | refine AWpA.seq ?_ | refine AWpA.block ?_ | (with_reducible refine CondP.tt ?_) | (with_reducible refine CondP.ff ?_) | refine AWpA.condv (by simp (maxSteps := 9999999) (disch := omega) only [go_sem, hr, hr2]; rfl) ?_ | ((first | (apply AWpA.region; (focus (simp (maxSteps := 9999999) (disch := omega) only [go_sem, hr, hr2]; rfl))) | (apply AWpA.draw [] [] follows; (focus (first | rfl | decide)); (focus (simp (maxSteps := 9999999) (disch := omega) only [go_sem, hr, hr2]; rfl)); (focus (simp (maxSteps := 9999999) (disch := omega) only [go_sem, hr, hr2]; first | done | trivial)); (focus (simp (maxSteps := 9999999) (disch := omega) only [go_sem, hr, hr2]; rfl))) | (apply TailK.go; (focus (simp (maxSteps := 9999999) (disch := omega) only [go_sem, hr, hr2]; rfl))) | refine AWpA.skip ?_ | refine AWpA.exit ?_ | refine AWpA.ret ?_ | (with_reducible refine ARoundsA.succ ?_) | ((first | refine Runs.kt (by assumption) (fun h9 => ?_) | refine Runs.kf (by assumption) (fun h9 => ?_) | refine Runs.nt (by assumption) (fun h9 => ?_) | refine Runs.nf (by assumption) (fun h9 => ?_) | refine CondP.ht (by assumption) (fun h9 => ?_) | refine CondP.hf (by assumption) (fun h9 => ?_) | refine CondP.nt (by assumption) (fun h9 => ?_) | refine CondP.nf (by assumption) (fun h9 => ?_)); (try simp only [h9]); clear h9)); (try simp (maxSteps := 9999999) (disch := omega) only [go_sem, hr, hr2]); (try (refine And.intro ?_ ?_; (focus (first | omega | (simp only [go_sem]; done) | (simp; done) | (simp; omega) | assumption))))) | ((first | refine CondP.split (fun hif => ?_) (fun hif => ?_) | refine Runs.part (fun hif => ?_) (fun hif => ?_)) <;> ((try simp only [hif]); (try simp only [decide_eq_true_eq, decide_eq_false_iff_not, Bool.not_eq_true, Bool.not_eq_false, Bool.not_eq_true', Bool.not_eq_false', beq_iff_eq, bne_iff_ne, bne_eq_false_iff_eq, beq_eq_false_iff_ne, ne_eq, Bool.and_eq_true, Bool.or_eq_true, Bool.or_eq_false_iff] at hif); (try (have h9 : _ = true := hif; simp only [h9])); (try (have h9 : _ = false := hif; simp only [h9])); (try simp (maxSteps := 9999999) (disch := omega) only [go_sem, hr, hr2]); (try (refine And.intro ?_ ?_; (focus (first | omega | (simp only [go_sem]; done) | (simp; done) | (simp; omega) | assumption)))); (try (exfalso; omega; done))))))
      (apply Ret.det [0, 1]; (focus (first | exact .inl rfl | exact .inr rfl)); (focus (simp (maxSteps := 9999999) (disch := omega) only [go_sem, hr, rm_nil]; rfl)); (simp (maxSteps := 9999999) (disch := omega) only [go_sem, hr, rm_nil]; (try (repeat' (first | done | trivial | rfl | exact leAs_rfl _ | decide | (refine And.intro ?_ ?_) | (simp; done) | omega | (simp; decide))))))
    · (repeat' (first | refine AWpA.seq ?_ | refine AWpA.block ?_ | (with_reducible refine CondP.tt ?_) | (with_reducible refine CondP.ff ?_) | refine AWpA.condv (by simp (maxSteps := 9999999) (disch := omega) only [go_sem, hr, hr2, hle, rm_nil]; rfl) ?_ | ((first | (apply AWpA.region; (focus (simp (maxSteps := 9999999) (disch := omega) only [go_sem, hr, hr2, hle, rm_nil]; rfl))) | (apply AWpA.draw [] [] follows; (focus (first | rfl | decide)); (focus (simp (maxSteps := 9999999) (disch := omega) only [go_sem, hr, hr2, hle, rm_nil]; rfl)); (focus (simp (maxSteps := 9999999) (disch := omega) only [go_sem, hr, hr2, hle, rm_nil]; first | done | trivial)); (focus (simp (maxSteps := 9999999) (disch := omega) only [go_sem, hr, hr2, hle, rm_nil]; rfl))) | (apply TailK.go; (focus (simp (maxSteps := 9999999) (disch := omega) only [go_sem, hr, hr2, hle, rm_nil]; rfl))) | refine AWpA.skip ?_ | refine AWpA.exit ?_ | refine AWpA.ret ?_ | (with_reducible refine ARoundsA.succ ?_) | ((first | refine Runs.kt (by assumption) (fun h9 => ?_) | refine Runs.kf (by assumption) (fun h9 => ?_) | refine Runs.nt (by assumption) (fun h9 => ?_) | refine Runs.nf (by assumption) (fun h9 => ?_) | refine CondP.ht (by assumption) (fun h9 => ?_) | refine CondP.hf (by assumption) (fun h9 => ?_) | refine CondP.nt (by assumption) (fun h9 => ?_) | refine CondP.nf (by assumption) (fun h9 => ?_)); (try simp only [h9]); clear h9)); (try simp (maxSteps := 9999999) (disch := omega) only [go_sem, hr, hr2, hle, rm_nil]); (try (refine And.intro ?_ ?_; (focus (first | omega | (simp only [go_sem]; done) | (simp; done) | (simp; omega) | assumption))))) | ((first | refine CondP.split (fun hif => ?_) (fun hif => ?_) | refine Runs.part (fun hif => ?_) (fun hif => ?_)) <;> ((try simp only [hif]); (try simp only [decide_eq_true_eq, decide_eq_false_iff_not, Bool.not_eq_true, Bool.not_eq_false, Bool.not_eq_true', Bool.not_eq_false', beq_iff_eq, bne_iff_ne, bne_eq_false_iff_eq, beq_eq_false_iff_ne, ne_eq, Bool.and_eq_true, Bool.or_eq_true, Bool.or_eq_false_iff] at hif); (try (have h9 : _ = true := hif; simp only [h9])); (try (have h9 : _ = false := hif; simp only [h9])); (try simp (maxSteps := 9999999) (disch := omega) only [go_sem, hr, hr2, hle, rm_nil]); (try (refine And.intro ?_ ?_; (focus (first | omega | (simp only [go_sem]; done) | (simp; done) | (simp; omega) | assumption)))); (try (exfalso; omega; done))))))
      (apply Ret.det [0, _]; (focus (first | exact .inl rfl | exact .inr rfl)); (focus (simp (maxSteps := 9999999) (disch := omega) only [go_sem, hr, rm_nil]; rfl)); (simp (maxSteps := 9999999) (disch := omega) only [go_sem, hr, rm_nil]; (try (repeat' (first | done | trivial | rfl | exact leAs_rfl _ | decide | (refine And.intro ?_ ?_) | (simp; done) | omega | (simp; decide))))))
    · (repeat' (first | refine AWpA.seq ?_ | refine AWpA.block ?_ | (with_reducible refine CondP.tt ?_) | (with_reducible refine CondP.ff ?_) | refine AWpA.condv (by simp (maxSteps := 9999999) (disch := omega) only [go_sem, hr, hr2, hle, rm_nil]; rfl) ?_ | ((first | (apply AWpA.region; (focus (simp (maxSteps := 9999999) (disch := omega) only [go_sem, hr, hr2, hle, rm_nil]; rfl))) | (apply AWpA.draw [] [] follows; (focus (first | rfl | decide)); (focus (simp (maxSteps := 9999999) (disch := omega) only [go_sem, hr, hr2, hle, rm_nil]; rfl)); (focus (simp (maxSteps := 9999999) (disch := omega) only [go_sem, hr, hr2, hle, rm_nil]; first | done | trivial)); (focus (simp (maxSteps := 9999999) (disch := omega) only [go_sem, hr, hr2, hle, rm_nil]; rfl))) | (apply TailK.go; (focus (simp (maxSteps := 9999999) (disch := omega) only [go_sem, hr, hr2, hle, rm_nil]; rfl))) | refine AWpA.skip ?_ | refine AWpA.exit ?_ | refine AWpA.ret ?_ | (with_reducible refine ARoundsA.succ ?_) | ((first | refine Runs.kt (by assumption) (fun h9 => ?_) | refine Runs.kf (by assumption) (fun h9 => ?_) | refine Runs.nt (by assumption) (fun h9 => ?_) | refine Runs.nf (by assumption) (fun h9 => ?_) | refine CondP.ht (by assumption) (fun h9 => ?_) | refine CondP.hf (by assumption) (fun h9 => ?_) | refine CondP.nt (by assumption) (fun h9 => ?_) | refine CondP.nf (by assumption) (fun h9 => ?_)); (try simp only [h9]); clear h9)); (try simp (maxSteps := 9999999) (disch := omega) only [go_sem, hr, hr2, hle, rm_nil]); (try (refine And.intro ?_ ?_; (focus (first | omega | (simp only [go_sem]; done) | (simp; done) | (simp; omega) | assumption))))) | ((first | refine CondP.split (fun hif => ?_) (fun hif => ?_) | refine Runs.part (fun hif => ?_) (fun hif => ?_)) <;> ((try simp only [hif]); (try simp only [decide_eq_true_eq, decide_eq_false_iff_not, Bool.not_eq_true, Bool.not_eq_false, Bool.not_eq_true', Bool.not_eq_false', beq_iff_eq, bne_iff_ne, bne_eq_false_iff_eq, beq_eq_false_iff_ne, ne_eq, Bool.and_eq_true, Bool.or_eq_true, Bool.or_eq_false_iff] at hif); (try (have h9 : _ = true := hif; simp only [h9])); (try (have h9 : _ = false := hif; simp only [h9])); (try simp (maxSteps := 9999999) (disch := omega) only [go_sem, hr, hr2, hle, rm_nil]); (try (refine And.intro ?_ ?_; (focus (first | omega | (simp only [go_sem]; done) | (simp; done) | (simp; omega) | assumption)))); (try (exfalso; omega; done))))))
      (apply Ret.det [0, _]; (focus (first | exact .inl rfl | exact .inr rfl)); (focus (simp (maxSteps := 9999999) (disch := omega) only [go_sem, hr, rm_nil]; rfl)); (simp (maxSteps := 9999999) (disch := omega) only [go_sem, hr, rm_nil]; (try (repeat' (first | done | trivial | rfl | exact leAs_rfl _ | decide | (refine And.intro ?_ ?_) | (simp; done) | omega | (simp; decide))))))
  · have h1 : (0 < l.length) = True := by simp; omega
    have h2 : (l.length ≤ 0) = False := eq_false (by omega)
    refine ACall.startA c61_ok Try.func61 rfl Try.ntmps61 (by kernel_rfl) res61_ok rfl rfl rfl ?_; simp (maxSteps := 9999999) (disch := omega) only [go_sem]
    (repeat' (first | refine AWpA.seq ?_ | refine AWpA.block ?_ | (with_reducible refine CondP.tt ?_) | (with_reducible refine CondP.ff ?_) | refine AWpA.condv (by simp (maxSteps := 9999999) (disch := omega) only [go_sem, hr, hr2, hle, hseg, hno, h1, h2]; rfl) ?_ | ((first | (apply AWpA.region; (focus (simp (maxSteps := 9999999) (disch := omega) only [go_sem, hr, hr2, hle, hseg, hno, h1, h2]; rfl))) | (apply AWpA.draw [] [] follows; (focus (first | rfl | decide)); (focus (simp (maxSteps := 9999999) (disch := omega) only [go_sem, hr, hr2, hle, hseg, hno, h1, h2]; rfl)); (focus (simp (maxSteps := 9999999) (disch := omega) only [go_sem, hr, hr2, hle, hseg, hno, h1, h2]; first | done | trivial)); (focus (simp (maxSteps := 9999999) (disch := omega) only [go_sem, hr, hr2, hle, hseg, hno, h1, h2]; rfl))) | (apply TailK.go; (focus (simp (maxSteps := 9999999) (disch := omega) only [go_sem, hr, hr2, hle, hseg, hno, h1, h2]; rfl))) | refine AWpA.skip ?_ | refine AWpA.exit ?_ | refine AWpA.ret ?_ | (with_reducible refine ARoundsA.succ ?_) | ((first | refine Runs.kt (by assumption) (fun h9 => ?_) | refine Runs.kf (by assumption) (fun h9 => ?_) | refine Runs.nt (by assumption) (fun h9 => ?_) | refine Runs.nf (by assumption) (fun h9 => ?_) | refine CondP.ht (by assumption) (fun h9 => ?_) | refine CondP.hf (by assumption) (fun h9 => ?_) | refine CondP.nt (by assumption) (fun h9 => ?_) | refine CondP.nf (by assumption) (fun h9 => ?_)); (try simp only [h9]); clear h9)); (try simp (maxSteps := 9999999) (disch := omega) only [go_sem, hr, hr2, hle, hseg, hno, h1, h2]); (try (refine And.intro ?_ ?_; (focus (first | omega | (simp only [go_sem]; done) | (simp; done) | (simp; omega) | assumption))))) | ((first | refine CondP.split (fun hif => ?_) (fun hif => ?_) | refine Runs.part (fun hif => ?_) (fun hif => ?_)) <;> ((try simp only [hif]); (try simp only [decide_eq_true_eq, decide_eq_false_iff_not, Bool.not_eq_true, Bool.not_eq_false, Bool.not_eq_true', Bool.not_eq_false', beq_iff_eq, bne_iff_ne, bne_eq_false_iff_eq, beq_eq_false_iff_ne, ne_eq, Bool.and_eq_true, Bool.or_eq_true, Bool.or_eq_false_iff] at hif); (try (have h9 : _ = true := hif; simp only [h9])); (try (have h9 : _ = false := hif; simp only [h9])); (try simp (maxSteps := 9999999) (disch := omega) only [go_sem, hr, hr2, hle, hseg, hno, h1, h2]); (try (refine And.intro ?_ ?_; (focus (first | omega | (simp only [go_sem]; done) | (simp; done) | (simp; omega) | assumption)))); (try (exfalso; omega; done))))))
    (apply Ret.det [0, _]; (focus (first | exact .inl rfl | exact .inr rfl)); (focus (simp (maxSteps := 9999999) (disch := omega) only [go_sem, hr, hr2]; rfl)); (simp (maxSteps := 9999999) (disch := omega) only [go_sem, hr, hr2]; (try (repeat' (first | done | trivial | rfl | exact leAs_rfl _ | decide | (refine And.intro ?_ ?_) | (simp; done) | omega | (simp; decide))))))
theorem ins_placem {α : Type} {X Y : List α} {i m : Nat} (hX : X.length = i * 3) (hY : Y.length = m * 3) (a b c k v w : α) :
    List.take (i * 3) (List.take ((i + 1) * 3) (X ++ Y ++ [a, b, c]) ++ List.take (m * 3) (List.take ((m + 1) * 3) (List.drop (i * 3) (X ++ Y ++ [a, b, c]))) ++ List.drop ((i + 1) * 3 + m * 3) (X ++ Y ++ [a, b, c])) ++ [k, v, w] ++
      List.drop (i * 3 + 3) (List.take ((i + 1) * 3) (X ++ Y ++ [a, b, c]) ++ List.take (m * 3) (List.take ((m + 1) * 3) (List.drop (i * 3) (X ++ Y ++ [a, b, c]))) ++ List.drop ((i + 1) * 3 + m * 3) (X ++ Y ++ [a, b, c])) = X ++ [k, v, w] ++ Y := by
  have h1 : List.drop ((i + 1) * 3 + m * 3) (X ++ Y ++ [a, b, c]) = [] := List.drop_of_length_le (by simp; omega)
  have h2 : List.drop (i * 3) (X ++ Y ++ [a, b, c]) = Y ++ [a, b, c] := by rw [List.append_assoc, ← hX, List.drop_left]
  have h3 : List.take ((m + 1) * 3) (Y ++ [a, b, c]) = Y ++ [a, b, c] := List.take_of_length_le (by simp; omega)
  have h4 : List.take (m * 3) (Y ++ [a, b, c]) = Y := by rw [← hY, List.take_left]
  obtain ⟨W, hW⟩ : ∃ W, W = List.take 3 (Y ++ [a, b, c]) := ⟨_, rfl⟩
  have hWl : W.length = 3 := by rw [hW]; simp
  have h5 : List.take ((i + 1) * 3) (X ++ Y ++ [a, b, c]) = X ++ W := by
    rw [List.append_assoc, List.take_append, List.take_of_length_le (by omega), hX, hW, show (i + 1) * 3 - i * 3 = 3 by omega]
  rw [h1, h2, h3, h4, h5, List.append_nil]
  have h6 : List.take (i * 3) (X ++ W ++ Y) = X := by rw [List.append_assoc, ← hX, List.take_left]
  have h7 : List.drop (i * 3 + 3) (X ++ W ++ Y) = Y := by
    rw [show i * 3 + 3 = (X ++ W).length by simp; omega, List.drop_left]
  rw [h6, h7]
theorem rm_ins (l : List Mk) (i : Nat) (p : Mk) : Rm 0 (l.take i ++ p :: l.drop i) = Rm 0 (l.take i) ++ [I p.act.c, I p.act.s, .val (.string p.key)] ++ Rm 0 (l.drop i) := by rw [rm_app, rm_cons]; simp
theorem insertm_any (l : List Mk) (i : Nat) (p : Mk) (hi : i ≤ l.length) (hl : l.length ≤ 1099511627776) : ACall Try.prog 58 [.sl 0 0 l.length 3 none, I i, .sl 1 0 1 3 (some 1)] [.cells false (Rm 0 l), .cells false (MkL p)] (Det (.sl 2 0 (l.length + 1) 3 none) [.gone, .cells false (MkL p), .cells false (Rm 0 (l.take i ++ p :: l.drop i))]) := by
  have hr := rm_ren 0
  have hlen := rm_len 0
  have hall := rm_all l (n := l.length * 3) rfl
  by_cases h0 : i = l.length
  · subst h0
    have g1 : l.take l.length ++ p :: l.drop l.length = l ++ [p] := by simp
    rw [g1]
    refine ACall.startA c58_ok Try.func58 rfl Try.ntmps58 (by kernel_rfl) res58_ok rfl rfl rfl ?_; simp (maxSteps := 9999999) (disch := omega) only [go_sem]
    (repeat' (first | refine AWpA.seq ?_ | refine AWpA.block ?_ | (with_reducible refine CondP.tt ?_) | (with_reducible refine CondP.ff ?_) | refine AWpA.condv (by simp (maxSteps := 9999999) (disch := omega) only [go_sem, hr, hlen, hall]; rfl) ?_ | ((first | (apply AWpA.region; (focus (simp (maxSteps := 9999999) (disch := omega) only [go_sem, hr, hlen, hall]; rfl))) | (apply AWpA.draw [] [] follows; (focus (first | rfl | decide)); (focus (simp (maxSteps := 9999999) (disch := omega) only [go_sem, hr, hlen, hall]; rfl)); (focus (simp (maxSteps := 9999999) (disch := omega) only [go_sem, hr, hlen, hall]; first | done | trivial)); (focus (simp (maxSteps := 9999999) (disch := omega) only [go_sem, hr, hlen, hall]; rfl))) | (apply TailK.go; (focus (simp (maxSteps := 9999999) (disch := omega) only [go_sem, hr, hlen, hall]; rfl))) | refine AWpA.skip ?_ | refine AWpA.exit ?_ | refine AWpA.ret ?_ | (with_reducible refine ARoundsA.succ ?_) | ((first | refine Runs.kt (by assumption) (fun h9 => ?_) | refine Runs.kf (by assumption) (fun h9 => ?_) | refine Runs.nt (by assumption) (fun h9 => ?_) | refine Runs.nf (by assumption) (fun h9 => ?_) | refine CondP.ht (by assumption) (fun h9 => ?_) | refine CondP.hf (by assumption) (fun h9 => ?_) | refine CondP.nt (by assumption) (fun h9 => ?_) | refine CondP.nf (by assumption) (fun h9 => ?_)); (try simp only [h9]); clear h9)); (try simp (maxSteps := 9999999) (disch := omega) only [go_sem, hr, hlen, hall]); (try (refine And.intro ?_ ?_; (focus (first | omega | (simp only [go_sem]; done) | (simp; done) | (simp; omega) | assumption))))) | ((first | refine CondP.split (fun hif => ?_) (fun hif => ?_) | refine Runs.part (fun hif => ?_) (fun hif => ?_)) <;> ((try simp only [hif]); (try simp only [decide_eq_true_eq, decide_eq_false_iff_not, Bool.not_eq_true, Bool.not_eq_false, Bool.not_eq_true', Bool.not_eq_false', beq_iff_eq, bne_iff_ne, bne_eq_false_iff_eq, beq_eq_false_iff_ne, ne_eq, Bool.and_eq_true, Bool.or_eq_true, Bool.or_eq_false_iff] at hif); (try (have h9 : _ = true := hif; simp only [h9])); (try (have h9 : _ = false := hif; simp only [h9])); (try simp (maxSteps := 9999999) (disch := omega) only [go_sem, hr, hlen, hall]); (try (refine And.intro ?_ ?_; (focus (first | omega | (simp only [go_sem]; done) | (simp; done) | (simp; omega) | assumption)))); (try (exfalso; omega; done))))))
    have g2 : Rm 0 (l ++ [p]) = Rm 0 l ++ [I p.act.c, I p.act.s, .val (.string p.key)] := by rw [rm_app, rm_one]
    rw [g2]
    (apply Ret.det [0, 1, 274]; (focus (first | exact .inl rfl | exact .inr rfl)); (focus (simp (maxSteps := 9999999) (disch := omega) only [go_sem, hr, renL_append]; rfl)); (simp (maxSteps := 9999999) (disch := omega) only [go_sem, hr, renL_append]; (try (repeat' (first | done | trivial | rfl | exact leAs_rfl _ | decide | (refine And.intro ?_ ?_) | (simp; done) | omega | (simp; decide))))))
  · have g1 : ((i : Int) = (l.length : Int)) = False := eq_false (by omega)
    obtain ⟨m, hm⟩ : ∃ m, l.length = i + m := ⟨l.length - i, by omega⟩
    have hm0 : 0 < m := by omega
    rw [rm_ins]
    have e0 : Rm 0 l = Rm 0 (l.take i) ++ Rm 0 (l.drop i) := by rw [← rm_app, List.take_append_drop]
    have hX := hlen (l.take i)
    have hY := hlen (l.drop i)
    rw [List.length_take, Nat.min_eq_left hi] at hX
    rw [List.length_drop, show l.length - i = m by omega] at hY
    have rX := hr (l.take i)
    have rY := hr (l.drop i)
    generalize Rm 0 (l.take i) = X at *
    generalize Rm 0 (l.drop i) = Y at *
    simp only [Nat.zero_add] at hX hY
    have t1 : ((i : Int) + 1).toNat = i + 1 := by omega
    have t2 : ((l.length : Int) + 1).toNat = l.length + 1 := by omega
    have t3 : l.length - i = m := by omega
    have t4 : l.length + 1 - (i + 1) = m := by omega
    have t5 : l.length + 1 - i = m + 1 := by omega
    have t6 : min 1 (m + 1) = 1 := by omega
    have t7 : min (m + 1) m = m := by omega
    refine ACall.startA c58_ok Try.func58 rfl Try.ntmps58 (by kernel_rfl) res58_ok rfl rfl rfl ?_; simp (maxSteps := 9999999) (disch := omega) only [go_sem]
    refine AWpA.capcase 0 rfl (by omega) (fun cp hcp => ?_)
    by_cases hc : l.length + 1 ≤ cp
    · have g2 : ((cp : Int) < (l.length : Int) + 1) = False := eq_false (by omega)
      have c := overm_any (o := 0) (o' := (i + 1) * 3) (la := 1) (lb := m) (ca := some 1) (cb := some (cp - (i + 1))) (C := MkL p) (D := X ++ Y ++ [.any, .any, .any]) (fun ρ => by simp [renL, ren]) (fun ρ => by rw [renL_append, renL_append, rX, rY]; simp [renL, ren]) (by omega) (by omega)
      rw [e0]
      refine AWpA.ext 0 0 3 rfl (by rw [List.length_append, hX, hY]; omega) rfl ?_
      (repeat' (first | refine AWpA.seq ?_ | refine AWpA.block ?_ | (with_reducible refine CondP.tt ?_) | (with_reducible refine CondP.ff ?_) | refine AWpA.condv (by simp (maxSteps := 9999999) (disch := omega) only [go_sem, rX, rY, hX, hY, g1, g2, renL_append, t1, t2, t3, t4, t5, t6, t7]; rfl) ?_ | ((first | (apply AWpA.region; (focus (simp (maxSteps := 9999999) (disch := omega) only [go_sem, rX, rY, hX, hY, g1, g2, renL_append, t1, t2, t3, t4, t5, t6, t7]; rfl))) | (apply AWpA.draw [] [] follows; (focus (first | rfl | decide)); (focus (simp (maxSteps := 9999999) (disch := omega) only [go_sem, rX, rY, hX, hY, g1, g2, renL_append, t1, t2, t3, t4, t5, t6, t7]; rfl)); (focus (simp (maxSteps := 9999999) (disch := omega) only [go_sem, rX, rY, hX, hY, g1, g2, renL_append, t1, t2, t3, t4, t5, t6, t7]; first | done | trivial)); (focus (simp (maxSteps := 9999999) (disch := omega) only [go_sem, rX, rY, hX, hY, g1, g2, renL_append, t1, t2, t3, t4, t5, t6, t7]; rfl))) | (apply TailK.go; (focus (simp (maxSteps := 9999999) (disch := omega) only [go_sem, rX, rY, hX, hY, g1, g2, renL_append, t1, t2, t3, t4, t5, t6, t7]; rfl))) | refine AWpA.skip ?_ | refine AWpA.exit ?_ | refine AWpA.ret ?_ | (with_reducible refine ARoundsA.succ ?_) | ((first | refine Runs.kt (by assumption) (fun h9 => ?_) | refine Runs.kf (by assumption) (fun h9 => ?_) | refine Runs.nt (by assumption) (fun h9 => ?_) | refine Runs.nf (by assumption) (fun h9 => ?_) | refine CondP.ht (by assumption) (fun h9 => ?_) | refine CondP.hf (by assumption) (fun h9 => ?_) | refine CondP.nt (by assumption) (fun h9 => ?_) | refine CondP.nf (by assumption) (fun h9 => ?_)); (try simp only [h9]); clear h9) | ((first | (with_reducible apply CallG.plain1 [1, 0] (c)) | (with_reducible apply CallG.draw1 [1, 0] (c))); (focus ((try refine And.intro (leAs_of_eq rfl) ?_); (try refine And.intro (leOL_of_eq rfl) ?_); simp (maxSteps := 9999999) (disch := omega) only [go_sem, rX, rY, hX, hY, g1, g2, renL_append, t1, t2, t3, t4, t5, t6, t7]; first | done | (repeat' (first | rfl | (refine And.intro ?_ ?_))))); (focus (simp (maxSteps := 9999999) (disch := omega) only [go_sem, rX, rY, hX, hY, g1, g2, renL_append, t1, t2, t3, t4, t5, t6, t7]; rfl)))); (try simp (maxSteps := 9999999) (disch := omega) only [go_sem, rX, rY, hX, hY, g1, g2, renL_append, t1, t2, t3, t4, t5, t6, t7]); (try (refine And.intro ?_ ?_; (focus (first | omega | (simp only [go_sem]; done) | (simp; done) | (simp; omega) | assumption))))) | ((first | refine CondP.split (fun hif => ?_) (fun hif => ?_) | refine Runs.part (fun hif => ?_) (fun hif => ?_)) <;> ((try simp only [hif]); (try simp only [decide_eq_true_eq, decide_eq_false_iff_not, Bool.not_eq_true, Bool.not_eq_false, Bool.not_eq_true', Bool.not_eq_false', beq_iff_eq, bne_iff_ne, bne_eq_false_iff_eq, beq_eq_false_iff_ne, ne_eq, Bool.and_eq_true, Bool.or_eq_true, Bool.or_eq_false_iff] at hif); (try (have h9 : _ = true := hif; simp only [h9])); (try (have h9 : _ = false := hif; simp only [h9])); (try simp (maxSteps := 9999999) (disch := omega) only [go_sem, rX, rY, hX, hY, g1, g2, renL_append, t1, t2, t3, t4, t5, t6, t7]); (try (refine And.intro ?_ ?_; (focus (first | omega | (simp only [go_sem]; done) | (simp; done) | (simp; omega) | assumption)))); (try (exfalso; omega; done))))))
      rw [ins_placem hX hY]
      (apply Ret.det [0, 1, 0]; (focus (first | exact .inl rfl | exact .inr rfl)); (focus (simp (maxSteps := 9999999) (disch := omega) only [go_sem, rX, rY, renL_append]; rfl)); (simp (maxSteps := 9999999) (disch := omega) only [go_sem, rX, rY, renL_append]; (try (repeat' (first | done | trivial | rfl | exact leAs_rfl _ | decide | (refine And.intro ?_ ?_) | (simp; done) | omega | (simp; decide))))))
    · have g2 : ((cp : Int) < (l.length : Int) + 1) = True := eq_true (by omega)
      have g3 : ((l.length : Int) + 1 - i).toNat = m + 1 := by omega
      have g4 : ((i : Int) + ((m : Int) + 1)).toNat = i + m + 1 := by omega
      have g5 : i + m + 1 - i = m + 1 := by omega
      have g6 : i + m + 1 - (i + 1) = m := by omega
      have q0 : List.take (i * 3) (Rm 0 l) = X := by rw [e0, ← hX, List.take_left]
      have q1 : List.take (i * 3) (X ++ List.replicate ((m + 1) * 3) AV.any) = X := by rw [← hX, List.take_left]
      have q2 : List.drop (i * 3 + 3) (X ++ List.replicate ((m + 1) * 3) AV.any) = List.replicate (m * 3) AV.any := by
        rw [List.drop_append, List.drop_of_length_le (by omega), hX, List.drop_replicate, List.nil_append, show (m + 1) * 3 - (i * 3 + 3 - i * 3) = m * 3 by omega]
      have hL := hlen l
      have hcp : i + (m + 1) ≤ cp ↔ False := iff_false_intro (by omega)
      have q3 : List.drop (i * 3) (Rm 0 l) = Y := by rw [e0, ← hX, List.drop_left]
      (repeat' (first | refine AWpA.seq ?_ | refine AWpA.block ?_ | (with_reducible refine CondP.tt ?_) | (with_reducible refine CondP.ff ?_) | refine AWpA.condv (by simp (maxSteps := 9999999) (disch := omega) only [go_sem, rX, rY, hX, hY, hL, g1, g2, g3, g4, g5, g6, q0, q1, q2, q3, hcp, t1, t2, t3, t4, t5, t6, t7]; rfl) ?_ | ((first | (apply AWpA.region; (focus (simp (maxSteps := 9999999) (disch := omega) only [go_sem, rX, rY, hX, hY, hL, g1, g2, g3, g4, g5, g6, q0, q1, q2, q3, hcp, t1, t2, t3, t4, t5, t6, t7]; rfl))) | (apply AWpA.draw [] [] follows; (focus (first | rfl | decide)); (focus (simp (maxSteps := 9999999) (disch := omega) only [go_sem, rX, rY, hX, hY, hL, g1, g2, g3, g4, g5, g6, q0, q1, q2, q3, hcp, t1, t2, t3, t4, t5, t6, t7]; rfl)); (focus (simp (maxSteps := 9999999) (disch := omega) only [go_sem, rX, rY, hX, hY, hL, g1, g2, g3, g4, g5, g6, q0, q1, q2, q3, hcp, t1, t2, t3, t4, t5, t6, t7]; first | done | trivial)); (focus (simp (maxSteps := 9999999) (disch := omega) only [go_sem, rX, rY, hX, hY, hL, g1, g2, g3, g4, g5, g6, q0, q1, q2, q3, hcp, t1, t2, t3, t4, t5, t6, t7]; rfl))) | (apply TailK.go; (focus (simp (maxSteps := 9999999) (disch := omega) only [go_sem, rX, rY, hX, hY, hL, g1, g2, g3, g4, g5, g6, q0, q1, q2, q3, hcp, t1, t2, t3, t4, t5, t6, t7]; rfl))) | refine AWpA.skip ?_ | refine AWpA.exit ?_ | refine AWpA.ret ?_ | (with_reducible refine ARoundsA.succ ?_) | ((first | refine Runs.kt (by assumption) (fun h9 => ?_) | refine Runs.kf (by assumption) (fun h9 => ?_) | refine Runs.nt (by assumption) (fun h9 => ?_) | refine Runs.nf (by assumption) (fun h9 => ?_) | refine CondP.ht (by assumption) (fun h9 => ?_) | refine CondP.hf (by assumption) (fun h9 => ?_) | refine CondP.nt (by assumption) (fun h9 => ?_) | refine CondP.nf (by assumption) (fun h9 => ?_)); (try simp only [h9]); clear h9)); (try simp (maxSteps := 9999999) (disch := omega) only [go_sem, rX, rY, hX, hY, hL, g1, g2, g3, g4, g5, g6, q0, q1, q2, q3, hcp, t1, t2, t3, t4, t5, t6, t7]); (try (refine And.intro ?_ ?_; (focus (first | omega | (simp only [go_sem]; done) | (simp; done) | (simp; omega) | assumption))))) | ((first | refine CondP.split (fun hif => ?_) (fun hif => ?_) | refine Runs.part (fun hif => ?_) (fun hif => ?_)) <;> ((try simp only [hif]); (try simp only [decide_eq_true_eq, decide_eq_false_iff_not, Bool.not_eq_true, Bool.not_eq_false, Bool.not_eq_true', Bool.not_eq_false', beq_iff_eq, bne_iff_ne, bne_eq_false_iff_eq, beq_eq_false_iff_ne, ne_eq, Bool.and_eq_true, Bool.or_eq_true, Bool.or_eq_false_iff] at hif); (try (have h9 : _ = true := hif; simp only [h9])); (try (have h9 : _ = false := hif; simp only [h9])); (try simp (maxSteps := 9999999) (disch := omega) only [go_sem, rX, rY, hX, hY, hL, g1, g2, g3, g4, g5, g6, q0, q1, q2, q3, hcp, t1, t2, t3, t4, t5, t6, t7]); (try (refine And.intro ?_ ?_; (focus (first | omega | (simp only [go_sem]; done) | (simp; done) | (simp; omega) | assumption)))); (try (exfalso; omega; done))))))
      have q4 : List.take (m * 3) Y = Y := List.take_of_length_le (by omega)
      have q5 : ∀ k v w : AV, List.drop ((i + 1) * 3 + m * 3) (X ++ [k, v, w] ++ List.replicate (m * 3) AV.any) = [] := fun k v w => List.drop_of_length_le (by simp; omega)
      have q6 : ∀ k v w : AV, List.take ((i + 1) * 3) (X ++ [k, v, w] ++ List.replicate (m * 3) AV.any) = X ++ [k, v, w] := fun k v w => by
        rw [show (i + 1) * 3 = (X ++ [k, v, w]).length by simp; omega, List.take_left]
      rw [Nat.min_self, q4, q5, q6, List.append_nil]
      (apply Ret.det [0, 1, 466]; (focus (first | exact .inl rfl | exact .inr rfl)); (focus (simp (maxSteps := 9999999) (disch := omega) only [go_sem, rX, rY, renL_append, q4]; rfl)); (simp (maxSteps := 9999999) (disch := omega) only [go_sem, rX, rY, renL_append, q4]; (try (repeat' (first | done | trivial | rfl | exact leAs_rfl _ | decide | (refine And.intro ?_ ?_) | (simp; done) | omega | (simp; decide))))))
end Go.Proofs.Ytgjimlgofakbpaa
