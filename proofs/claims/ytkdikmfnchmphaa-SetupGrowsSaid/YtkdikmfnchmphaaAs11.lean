/- The walk of SetupGrows. -/
import Derived.Test.YtkdikmfnchmphaaAs9
namespace Go.Setup
set_option linter.unusedSimpArgs false
set_option linter.unusedVariables false
set_option maxHeartbeats 4000000
open Go Go.Am
theorem boundB_ok {l : List Int} (h : boundB l = true) : right l = true ∧ boundI l = rounds l := by
  unfold boundB at h
  have h1 : roomy l = true := by simp at h; exact h.1
  refine ⟨by simp [roomy] at h1; exact h1.1, ?_⟩
  unfold boundI
  rw [h]; rfl
theorem boundB_no {l : List Int} (h : boundB l = false) : boundI l = 0 := by
  unfold boundB at h
  unfold boundI
  rw [h]; rfl
theorem rounds_le {l m : List Int} (hl : right l = true) (hm : right m = true) (h0 : m.getD 0 0 = l.getD 0 0) (hf : l.getD 18 0 ≤ m.getD 18 0) (hs : steps l ≤ steps m) : rounds l ≤ rounds m := by
  have b1 := rounds_bd hl
  have b2 := rounds_bd hm
  have bl := (right_bd hl).f
  have s1 := steps_bd l
  unfold rounds
  rw [h0] at b2 ⊢
  have e1 := Int.mul_le_mul (Int.le_refl ((l.getD 0 0 - 1) * (l.getD 0 0 - 1))) (show l.getD 18 0 + 2 ≤ m.getD 18 0 + 2 by omega) (by omega) b1.1.1
  have e2 := Int.mul_le_mul e1 (show 2 * steps l + 5 + 1 ≤ 2 * steps m + 5 + 1 by omega) (by omega) b2.2.1.1
  omega
theorem steps_right {l : List Int} (h : right l = true) : steps l = quo l + l.getD 19 0 + 2 := by simp [steps, h]
theorem set_at {l : List Int} {i : Nat} (t : Int) (h : i < l.length) : (l.set i t).getD i 0 = t := by
  rw [List.getD_eq_getElem?_getD, List.getElem?_set_self h]; rfl
theorem rounds_up0 {l m : List Int} (hB : boundB l = true) (h : boundB m = true) (e : m = l.set 1 (l.getD 1 0 + 1)) : boundI l ≤ boundI m := by
  obtain ⟨r1, e1⟩ := boundB_ok hB
  obtain ⟨r2, e2⟩ := boundB_ok h
  rw [e1, e2]
  have h1 : 1 < l.length := by
    refine Nat.lt_of_not_le fun hh => ?_
    have := (right_bd r1).q
    rw [List.getD_eq_getElem?_getD, List.getElem?_eq_none (by omega)] at this
    simp at this
  have c1 := (right_bd r1).c
  have n1 := (right_bd r1).n
  have q1 := nnq_bd (right_bd r1)
  have q2 := nnq_bd (right_bd r2)
  have g0 : m.getD 0 0 = l.getD 0 0 := by rw [e]; exact set_get _ (by omega)
  have g1 : m.getD 1 0 = l.getD 1 0 + 1 := by rw [e]; exact set_at _ h1
  have g17 : m.getD 17 0 = l.getD 17 0 := by rw [e]; exact set_get _ (by omega)
  have g18 : m.getD 18 0 = l.getD 18 0 := by rw [e]; exact set_get _ (by omega)
  have g19 : m.getD 19 0 = l.getD 19 0 := by rw [e]; exact set_get _ (by omega)
  refine rounds_le r1 r2 g0 (by omega) ?_
  rw [steps_right r1, steps_right r2, g19]
  have : quo l ≤ quo m := by
    unfold quo
    rw [g0, g1, g17] at *
    have e3 : l.getD 0 0 * l.getD 0 0 * (l.getD 1 0 + 1) = l.getD 0 0 * l.getD 0 0 * l.getD 1 0 + l.getD 0 0 * l.getD 0 0 := by rw [Int.mul_add, Int.mul_one]
    rw [e3]
    rw [Int.tdiv_eq_ediv_of_nonneg (by omega), Int.tdiv_eq_ediv_of_nonneg (by omega)]
    exact Int.ediv_le_ediv (by omega) (by omega)
  omega
theorem rounds_up1 {l m : List Int} (hB : boundB l = true) (h : boundB m = true) (e : m = l.set 19 (l.getD 19 0 + 1)) : boundI l ≤ boundI m := by
  obtain ⟨r1, e1⟩ := boundB_ok hB
  obtain ⟨r2, e2⟩ := boundB_ok h
  rw [e1, e2]
  have h1 : 19 < l.length := by
    refine Nat.lt_of_not_le fun hh => ?_
    have := (right_bd r1).k
    rw [List.getD_eq_getElem?_getD, List.getElem?_eq_none (by omega)] at this
    simp at this
  have g0 : m.getD 0 0 = l.getD 0 0 := by rw [e]; exact set_get _ (by omega)
  have g1 : m.getD 1 0 = l.getD 1 0 := by rw [e]; exact set_get _ (by omega)
  have g17 : m.getD 17 0 = l.getD 17 0 := by rw [e]; exact set_get _ (by omega)
  have g18 : m.getD 18 0 = l.getD 18 0 := by rw [e]; exact set_get _ (by omega)
  have g19 : m.getD 19 0 = l.getD 19 0 + 1 := by rw [e]; exact set_at _ h1
  refine rounds_le r1 r2 g0 (by omega) ?_
  rw [steps_right r1, steps_right r2, g19]
  have : quo m = quo l := by unfold quo; rw [g0, g1, g17]
  omega
theorem rounds_up2 {l m : List Int} (hB : boundB l = true) (h : boundB m = true) (e : m = l.set 18 (l.getD 18 0 + 1)) : boundI l ≤ boundI m := by
  obtain ⟨r1, e1⟩ := boundB_ok hB
  obtain ⟨r2, e2⟩ := boundB_ok h
  rw [e1, e2]
  have h1 : 18 < l.length := by
    refine Nat.lt_of_not_le fun hh => ?_
    have := (right_bd r1).f
    rw [List.getD_eq_getElem?_getD, List.getElem?_eq_none (by omega)] at this
    simp at this
  have g0 : m.getD 0 0 = l.getD 0 0 := by rw [e]; exact set_get _ (by omega)
  have g1 : m.getD 1 0 = l.getD 1 0 := by rw [e]; exact set_get _ (by omega)
  have g17 : m.getD 17 0 = l.getD 17 0 := by rw [e]; exact set_get _ (by omega)
  have g19 : m.getD 19 0 = l.getD 19 0 := by rw [e]; exact set_get _ (by omega)
  have g18 : m.getD 18 0 = l.getD 18 0 + 1 := by rw [e]; exact set_at _ h1
  refine rounds_le r1 r2 g0 (by omega) ?_
  rw [steps_right r1, steps_right r2, g19]
  have : quo m = quo l := by unfold quo; rw [g0, g1, g17]
  omega
theorem bound_two {l : List Int} (hB : boundB l = true) : 2 ≤ boundI l ∧ l.getD 19 0 < steps l := by
  obtain ⟨r1, e1⟩ := boundB_ok hB
  have b := rounds_bd r1
  have q := quo_bd (right_bd r1)
  rw [e1, steps_right r1]
  unfold rounds
  exact ⟨by omega, by omega⟩
end Go.Setup
namespace Go.Proofs.Ytkdikmfnchmphaa
open Go Go.Am Go.RowKit Go.ChangeShapes Go.WideShapes Go.ChangeAt Go.Setup
set_option linter.unusedSimpArgs false
set_option maxHeartbeats 4000000
set_option maxRecDepth 100000
/- quidnunc/quidnunclaw13.SetupGrows -/
noncomputable def c6_1 : ACode := .region false [⟨some 1, .box 0, [.t 0], none⟩,
  ⟨some 2, .move, [.c (.val (.bool false))], none⟩] [] [] [1] true [] []
noncomputable def c6_4 : ACode := .region false [⟨some 10, .call 28, [], none⟩,
  ⟨some 11, .un .not, [.t 10], none⟩,
  ⟨some 12, .move, [.t 11], none⟩,
  ⟨some 13, .load true 20, [.t 1], some (some 12, false)⟩,
  ⟨some 14, .call 29, [.t 13], some (some 12, false)⟩,
  ⟨some 15, .un .not, [.t 14], some (some 12, false)⟩,
  ⟨some 16, .pick, [.t 12, .c (.val (.bool true)), .t 15], none⟩] [] [] [1, 16] true [] []
noncomputable def c6_7 : ACode := .region false [⟨some 17, .call 28, [], none⟩,
  ⟨some 2, .move, [.t 17], none⟩] [] [] [2] true [] []
noncomputable def c6_6 : ACode := .seq c6_7 .ret
noncomputable def c6_5 : ACode := .cond (.t 16) c6_6 .skip
noncomputable def c6_3 : ACode := .seq c6_4 c6_5
noncomputable def c6_9 : ACode := .region false [⟨some 18, .load true 20, [.t 1], none⟩,
  ⟨some 19, .call 30, [.t 18], none⟩,
  ⟨some 3, .alloc (List.replicate 20 (.int .i64 0)), [], none⟩,
  ⟨none, .store 20, [.t 3, .t 19], none⟩] [] [] [3] true [] []
noncomputable def c6_11 : ACode := .region false [⟨some 21, .load true 20, [.t 3], none⟩,
  ⟨some 22, .call 31, [.t 21], none⟩,
  ⟨some 20, .move, [.t 22], none⟩,
  ⟨some 23, .ext 0, [.t 20], none⟩,
  ⟨some 24, .ext 1, [.t 20], none⟩,
  ⟨some 4, .move, [.t 23], none⟩,
  ⟨some 5, .move, [.t 24], none⟩] [] [] [3, 4, 5] true [] []
noncomputable def c6_14 : ACode := .region false [⟨some 25, .move, [.t 5], none⟩,
  ⟨some 26, .un .not, [.t 25], none⟩] [] [] [3, 4, 26] false [] []
noncomputable def c6_17 : ACode := .region false [⟨some 27, .move, [.t 4], none⟩,
  ⟨some 28, .bin .eql, [.t 27, .c (.val (.int .i64 0))], none⟩,
  ⟨some 2, .move, [.t 28], none⟩] [] [] [2] false [] []
noncomputable def c6_16 : ACode := .seq c6_17 .ret
noncomputable def c6_15 : ACode := .cond (.t 26) c6_16 .skip
noncomputable def c6_13 : ACode := .seq c6_14 c6_15
noncomputable def c6_20 : ACode := .region false [⟨some 29, .move, [.c (.val (.int .i64 0))], none⟩] [] [] [3, 4, 29] false [] []
noncomputable def c6_24 : ACode := .region false [⟨some 30, .bin .lss, [.t 29, .c (.val (.int .i64 3))], none⟩] [] [] [3, 4, 29, 30] false [] []
noncomputable def c6_26 : ACode := .cond (.t 30) .skip (.exit 0)
noncomputable def c6_30 : ACode := .region false [⟨some 31, .move, [.t 29], none⟩,
  ⟨some 6, .move, [.t 31], none⟩] [] [] [3, 4, 6, 29] false [] []
noncomputable def c6_32 : ACode := .region false [⟨some 32, .load true 20, [.t 3], none⟩,
  ⟨some 7, .alloc (List.replicate 20 (.int .i64 0)), [], none⟩,
  ⟨none, .store 20, [.t 7, .t 32], none⟩] [] [] [3, 4, 6, 7, 29] true [] []
noncomputable def c6_35 : ACode := .region false [⟨some 33, .move, [.t 6], none⟩] [] [] [3, 4, 7, 29, 33] false [] []
noncomputable def c6_38 : ACode := .region false [⟨some 39, .bin .eql, [.t 33, .c (.val (.int .i64 0))], none⟩,
  ⟨some 38, .move, [.t 39], none⟩] [] [] [3, 4, 7, 29, 33, 38] false [] []
noncomputable def c6_40 : ACode := .region false [⟨some 40, .addr 1, [.t 7], none⟩,
  ⟨some 41, .load false 1, [.t 40], none⟩,
  ⟨some 42, .bin .add, [.t 41, .c (.val (.int .i64 1))], none⟩,
  ⟨some 43, .addr 1, [.t 7], none⟩,
  ⟨none, .store 1, [.t 43, .t 42], none⟩] [] [] [3, 4, 7, 29] true [] []
noncomputable def c6_42 : ACode := .region false [⟨some 45, .bin .eql, [.t 33, .c (.val (.int .i64 1))], none⟩,
  ⟨some 44, .move, [.t 45], none⟩] [] [] [3, 4, 7, 29, 44] false [] []
noncomputable def c6_44 : ACode := .region false [⟨some 46, .addr 19, [.t 7], none⟩,
  ⟨some 47, .load false 1, [.t 46], none⟩,
  ⟨some 48, .bin .add, [.t 47, .c (.val (.int .i64 1))], none⟩,
  ⟨some 49, .addr 19, [.t 7], none⟩,
  ⟨none, .store 1, [.t 49, .t 48], none⟩] [] [] [3, 4, 7, 29] true [] []
noncomputable def c6_45 : ACode := .region false [⟨some 34, .addr 18, [.t 7], none⟩,
  ⟨some 35, .load false 1, [.t 34], none⟩,
  ⟨some 36, .bin .add, [.t 35, .c (.val (.int .i64 1))], none⟩,
  ⟨some 37, .addr 18, [.t 7], none⟩,
  ⟨none, .store 1, [.t 37, .t 36], none⟩] [] [] [3, 4, 7, 29] true [] []
noncomputable def c6_43 : ACode := .cond (.t 44) c6_44 c6_45
noncomputable def c6_41 : ACode := .seq c6_42 c6_43
noncomputable def c6_39 : ACode := .cond (.t 38) c6_40 c6_41
noncomputable def c6_37 : ACode := .seq c6_38 c6_39
noncomputable def c6_36 : ACode := .block 2 c6_37
noncomputable def c6_34 : ACode := .seq c6_35 c6_36
noncomputable def c6_47 : ACode := .region false [⟨some 51, .load true 20, [.t 7], none⟩,
  ⟨some 52, .call 31, [.t 51], none⟩,
  ⟨some 50, .move, [.t 52], none⟩,
  ⟨some 53, .ext 0, [.t 50], none⟩,
  ⟨some 54, .ext 1, [.t 50], none⟩,
  ⟨some 8, .move, [.t 53], none⟩,
  ⟨some 9, .move, [.t 54], none⟩] [] [] [3, 4, 8, 9, 29] true [] []
noncomputable def c6_49 : ACode := .region false [⟨some 55, .move, [.t 9], none⟩,
  ⟨some 56, .move, [.t 55], none⟩,
  ⟨some 57, .move, [.t 8], some (some 56, true)⟩,
  ⟨some 58, .move, [.t 4], some (some 56, true)⟩,
  ⟨some 59, .bin .lss, [.t 57, .t 58], some (some 56, true)⟩,
  ⟨some 60, .pick, [.t 56, .t 59, .c (.val (.bool false))], none⟩] [] [] [3, 4, 29, 60] false [] []
noncomputable def c6_52 : ACode := .region false [⟨some 2, .move, [.c (.val (.bool false))], none⟩] [] [] [2] false [] []
noncomputable def c6_51 : ACode := .seq c6_52 .ret
noncomputable def c6_50 : ACode := .cond (.t 60) c6_51 .skip
noncomputable def c6_48 : ACode := .seq c6_49 c6_50
noncomputable def c6_46 : ACode := .seq c6_47 c6_48
noncomputable def c6_33 : ACode := .seq c6_34 c6_46
noncomputable def c6_31 : ACode := .seq c6_32 c6_33
noncomputable def c6_29 : ACode := .seq c6_30 c6_31
noncomputable def c6_28 : ACode := .block 1 c6_29
noncomputable def c6_53 : ACode := .region false [⟨some 61, .bin .add, [.t 29, .c (.val (.int .i64 1))], none⟩,
  ⟨some 29, .move, [.t 61], none⟩] [] [] [3, 4, 29] false [] []
noncomputable def c6_27 : ACode := .seq c6_28 c6_53
noncomputable def c6_25 : ACode := .seq c6_26 c6_27
noncomputable def c6_23 : ACode := .seq c6_24 c6_25
noncomputable def c6_22 : ACode := .loop c6_23
noncomputable def c6_21 : ACode := .block 0 c6_22
noncomputable def c6_19 : ACode := .seq c6_20 c6_21
noncomputable def c6_55 : ACode := .region true [⟨some 62, .move, [.t 4], none⟩,
  ⟨some 63, .bin .geq, [.t 62, .c (.val (.int .i64 2))], none⟩,
  ⟨some 64, .move, [.t 63], none⟩,
  ⟨some 65, .load true 20, [.t 3], some (some 64, true)⟩,
  ⟨some 66, .call 32, [.t 65], some (some 64, true)⟩,
  ⟨some 67, .addr 19, [.t 3], some (some 64, true)⟩,
  ⟨some 68, .load false 1, [.t 67], some (some 64, true)⟩,
  ⟨some 69, .bin .gtr, [.t 66, .t 68], some (some 64, true)⟩,
  ⟨some 70, .pick, [.t 64, .t 69, .c (.val (.bool false))], none⟩,
  ⟨some 2, .move, [.t 70], none⟩] [] [] [2] true [] []
noncomputable def c6_54 : ACode := .seq c6_55 .ret
noncomputable def c6_18 : ACode := .seq c6_19 c6_54
noncomputable def c6_12 : ACode := .seq c6_13 c6_18
noncomputable def c6_10 : ACode := .seq c6_11 c6_12
noncomputable def c6_8 : ACode := .seq c6_9 c6_10
noncomputable def c6_2 : ACode := .seq c6_3 c6_8
noncomputable def c6_0 : ACode := .seq c6_1 c6_2
noncomputable def code6 : Code := (Try.f6.body).getD .skip
theorem c6_ok : compC Try.prog 71 code6 = some (strip c6_0) := by kernel_rfl
theorem res6_ok : Try.f6.results.toList.mapM (resC Try.prog) = some [(2, none)] := by kernel_rfl
theorem grows_walk (W : World) (l : List Int) (hl : l.length = 20 ∧ ∀ a ∈ l, IntKind.i64.min ≤ a ∧ a ≤ IntKind.i64.max) :
    Calls Try.prog 6 #[.agg (l.flatMap fun n : Int => [Value.int .i64 n]).toArray] W fun e W' => e = .returned (.bool true) ∧ Below W.heap.size W W' := by
  obtain ⟨hl, hb⟩ := hl
  have hv := vals_cI l
  have ho := one_cI l
  have hc := cI_len l
  have ht := cI_take hl
  have hr := rright_any l hl
  cases h : right l
  · rw [h] at hr
    refine top_call c6_ok Try.func6 rfl Try.ntmps6 res6_ok [ .agg (cI l)] (by simp) (by (repeat' (first | exact VRs_nil' _ | exact VR_val' _ _ | (refine VRs_cons' ?_ ?_) | (refine VR_agg' (by first | rfl | assumption) ?_; first | assumption | simp [Value.oneCell'])))) ?_; try simp (maxSteps := 9999999) (disch := omega) only [go_sem]
    (repeat' (first | refine AWpA.seq ?_ | refine AWpA.block ?_ | (with_reducible refine CondP.tt ?_) | (with_reducible refine CondP.ff ?_) | refine AWpA.condv (by simp (maxSteps := 9999999) (disch := omega) only [go_sem, cI_ren, hc, hl, ht]; rfl) ?_ | ((first | (apply AWpA.region; (focus (simp (maxSteps := 9999999) (disch := omega) only [go_sem, cI_ren, hc, hl, ht]; rfl))) | (apply AWpA.draw [] follows; (focus (simp (maxSteps := 9999999) (disch := omega) only [go_sem, cI_ren, hc, hl, ht]; rfl)); (focus (simp (maxSteps := 9999999) (disch := omega) only [go_sem, cI_ren, hc, hl, ht]; first | done | trivial)); (focus (simp (maxSteps := 9999999) (disch := omega) only [go_sem, cI_ren, hc, hl, ht]; rfl))) | (apply TailK.go; (focus (simp (maxSteps := 9999999) (disch := omega) only [go_sem, cI_ren, hc, hl, ht]; rfl))) | refine AWpA.skip ?_ | refine AWpA.exit ?_ | refine AWpA.ret ?_ | (with_reducible refine ARoundsA.succ ?_) | ((first | refine Runs.kt (by assumption) (fun h9 => ?_) | refine Runs.kf (by assumption) (fun h9 => ?_) | refine Runs.nt (by assumption) (fun h9 => ?_) | refine Runs.nf (by assumption) (fun h9 => ?_) | refine CondP.ht (by assumption) (fun h9 => ?_) | refine CondP.hf (by assumption) (fun h9 => ?_) | refine CondP.nt (by assumption) (fun h9 => ?_) | refine CondP.nf (by assumption) (fun h9 => ?_)); (try simp only [h9]); clear h9) | ((first | (with_reducible apply CallG.plain1 [] (speaks13_any)) | (with_reducible apply CallG.plain1 [] (hr)) | (with_reducible apply CallG.draw1 [] (speaks13_any)) | (with_reducible apply CallG.draw1 [] (hr))); (focus ((try refine And.intro (leAs_of_eq rfl) ?_); (try refine And.intro (leOL_of_eq rfl) ?_); simp (maxSteps := 9999999) (disch := omega) only [go_sem, cI_ren, hc, hl, ht]; first | done | (repeat' (first | rfl | (refine And.intro ?_ ?_))))); (focus (simp (maxSteps := 9999999) (disch := omega) only [go_sem, cI_ren, hc, hl, ht]; rfl)))); (try simp (maxSteps := 9999999) (disch := omega) only [go_sem, cI_ren, hc, hl, ht]); (try (refine And.intro ?_ ?_; (focus (first | omega | (simp only [go_sem]; done) | (simp; done) | (simp; omega) | assumption))))) | ((first | refine CondP.split (fun hif => ?_) (fun hif => ?_) | refine Runs.part (fun hif => ?_) (fun hif => ?_)) <;> ((try simp only [hif]); (try simp only [decide_eq_true_eq, decide_eq_false_iff_not, Bool.not_eq_true, Bool.not_eq_false, Bool.not_eq_true', Bool.not_eq_false', beq_iff_eq, bne_iff_ne, bne_eq_false_iff_eq, beq_eq_false_iff_ne, ne_eq, Bool.and_eq_true, Bool.or_eq_true, Bool.or_eq_false_iff] at hif); (try (have h9 : _ = true := hif; simp only [h9])); (try (have h9 : _ = false := hif; simp only [h9])); (try simp (maxSteps := 9999999) (disch := omega) only [go_sem, cI_ren, hc, hl, ht]); (try (refine And.intro ?_ ?_; (focus (first | omega | (simp only [go_sem]; done) | (simp; done) | (simp; omega) | assumption)))); (try (exfalso; omega; done))))))
    (refine TopPost.of (by first | exact .inl rfl | exact .inr rfl) (by (try simp (maxSteps := 9999999) (disch := omega) only [go_sem]); rfl) ?_; (try simp (maxSteps := 9999999) (disch := omega) only [go_sem]); (try (first | trivial | decide | (simp; done))))
  rw [h] at hr
  have b := right_bd h
  have hbl := bound_any l hl
  have hsl := steps_any l hl
  cases hB : boundB l
  · have e := boundB_no hB
    rw [hB, e] at hbl
    refine top_call c6_ok Try.func6 rfl Try.ntmps6 res6_ok [ .agg (cI l)] (by simp) (by (repeat' (first | exact VRs_nil' _ | exact VR_val' _ _ | (refine VRs_cons' ?_ ?_) | (refine VR_agg' (by first | rfl | assumption) ?_; first | assumption | simp [Value.oneCell'])))) ?_; try simp (maxSteps := 9999999) (disch := omega) only [go_sem]
    (repeat' (first | refine AWpA.seq ?_ | refine AWpA.block ?_ | (with_reducible refine CondP.tt ?_) | (with_reducible refine CondP.ff ?_) | refine AWpA.condv (by simp (maxSteps := 9999999) (disch := omega) only [go_sem, cI_ren, hc, hl, ht]; rfl) ?_ | ((first | (apply AWpA.region; (focus (simp (maxSteps := 9999999) (disch := omega) only [go_sem, cI_ren, hc, hl, ht]; rfl))) | (apply AWpA.draw [] follows; (focus (simp (maxSteps := 9999999) (disch := omega) only [go_sem, cI_ren, hc, hl, ht]; rfl)); (focus (simp (maxSteps := 9999999) (disch := omega) only [go_sem, cI_ren, hc, hl, ht]; first | done | trivial)); (focus (simp (maxSteps := 9999999) (disch := omega) only [go_sem, cI_ren, hc, hl, ht]; rfl))) | (apply TailK.go; (focus (simp (maxSteps := 9999999) (disch := omega) only [go_sem, cI_ren, hc, hl, ht]; rfl))) | refine AWpA.skip ?_ | refine AWpA.exit ?_ | refine AWpA.ret ?_ | (with_reducible refine ARoundsA.succ ?_) | ((first | refine Runs.kt (by assumption) (fun h9 => ?_) | refine Runs.kf (by assumption) (fun h9 => ?_) | refine Runs.nt (by assumption) (fun h9 => ?_) | refine Runs.nf (by assumption) (fun h9 => ?_) | refine CondP.ht (by assumption) (fun h9 => ?_) | refine CondP.hf (by assumption) (fun h9 => ?_) | refine CondP.nt (by assumption) (fun h9 => ?_) | refine CondP.nf (by assumption) (fun h9 => ?_)); (try simp only [h9]); clear h9) | ((first | (with_reducible apply CallG.plain1 [] (speaks13_any)) | (with_reducible apply CallG.plain1 [] (hr)) | (with_reducible apply CallG.plain1 [] (lawof_any l hl)) | (with_reducible apply CallG.plain1 [] (hbl)) | (with_reducible apply CallG.draw1 [] (speaks13_any)) | (with_reducible apply CallG.draw1 [] (hr)) | (with_reducible apply CallG.draw1 [] (lawof_any l hl)) | (with_reducible apply CallG.draw1 [] (hbl))); (focus ((try refine And.intro (leAs_of_eq rfl) ?_); (try refine And.intro (leOL_of_eq rfl) ?_); simp (maxSteps := 9999999) (disch := omega) only [go_sem, cI_ren, hc, hl, ht]; first | done | (repeat' (first | rfl | (refine And.intro ?_ ?_))))); (focus (simp (maxSteps := 9999999) (disch := omega) only [go_sem, cI_ren, hc, hl, ht]; rfl)))); (try simp (maxSteps := 9999999) (disch := omega) only [go_sem, cI_ren, hc, hl, ht]); (try (refine And.intro ?_ ?_; (focus (first | omega | (simp only [go_sem]; done) | (simp; done) | (simp; omega) | assumption))))) | ((first | refine CondP.split (fun hif => ?_) (fun hif => ?_) | refine Runs.part (fun hif => ?_) (fun hif => ?_)) <;> ((try simp only [hif]); (try simp only [decide_eq_true_eq, decide_eq_false_iff_not, Bool.not_eq_true, Bool.not_eq_false, Bool.not_eq_true', Bool.not_eq_false', beq_iff_eq, bne_iff_ne, bne_eq_false_iff_eq, beq_eq_false_iff_ne, ne_eq, Bool.and_eq_true, Bool.or_eq_true, Bool.or_eq_false_iff] at hif); (try (have h9 : _ = true := hif; simp only [h9])); (try (have h9 : _ = false := hif; simp only [h9])); (try simp (maxSteps := 9999999) (disch := omega) only [go_sem, cI_ren, hc, hl, ht]); (try (refine And.intro ?_ ?_; (focus (first | omega | (simp only [go_sem]; done) | (simp; done) | (simp; omega) | assumption)))); (try (exfalso; omega; done))))))
    (refine TopPost.of (by first | exact .inl rfl | exact .inr rfl) (by (try simp (maxSteps := 9999999) (disch := omega) only [go_sem]); rfl) ?_; (try simp (maxSteps := 9999999) (disch := omega) only [go_sem]); (try (first | trivial | decide | (simp; done))))
  rw [hB] at hbl
  obtain ⟨h2, h3⟩ := bound_two hB
  refine top_call c6_ok Try.func6 rfl Try.ntmps6 res6_ok [ .agg (cI l)] (by simp) (by (repeat' (first | exact VRs_nil' _ | exact VR_val' _ _ | (refine VRs_cons' ?_ ?_) | (refine VR_agg' (by first | rfl | assumption) ?_; first | assumption | simp [Value.oneCell'])))) ?_; try simp (maxSteps := 9999999) (disch := omega) only [go_sem]
  (repeat' (first | refine AWpA.seq ?_ | refine AWpA.block ?_ | (with_reducible refine CondP.tt ?_) | (with_reducible refine CondP.ff ?_) | refine AWpA.condv (by simp (maxSteps := 9999999) (disch := omega) only [go_sem, cI_ren, hc, hl, ht]; rfl) ?_ | ((first | (apply AWpA.region; (focus (simp (maxSteps := 9999999) (disch := omega) only [go_sem, cI_ren, hc, hl, ht]; rfl))) | (apply AWpA.draw [] follows; (focus (simp (maxSteps := 9999999) (disch := omega) only [go_sem, cI_ren, hc, hl, ht]; rfl)); (focus (simp (maxSteps := 9999999) (disch := omega) only [go_sem, cI_ren, hc, hl, ht]; first | done | trivial)); (focus (simp (maxSteps := 9999999) (disch := omega) only [go_sem, cI_ren, hc, hl, ht]; rfl))) | (apply TailK.go; (focus (simp (maxSteps := 9999999) (disch := omega) only [go_sem, cI_ren, hc, hl, ht]; rfl))) | refine AWpA.skip ?_ | refine AWpA.exit ?_ | refine AWpA.ret ?_ | (with_reducible refine ARoundsA.succ ?_) | ((first | refine Runs.kt (by assumption) (fun h9 => ?_) | refine Runs.kf (by assumption) (fun h9 => ?_) | refine Runs.nt (by assumption) (fun h9 => ?_) | refine Runs.nf (by assumption) (fun h9 => ?_) | refine CondP.ht (by assumption) (fun h9 => ?_) | refine CondP.hf (by assumption) (fun h9 => ?_) | refine CondP.nt (by assumption) (fun h9 => ?_) | refine CondP.nf (by assumption) (fun h9 => ?_)); (try simp only [h9]); clear h9) | ((first | (with_reducible apply CallG.plain1 [] (speaks13_any)) | (with_reducible apply CallG.plain1 [] (hr)) | (with_reducible apply CallG.plain1 [] (lawof_any l hl)) | (with_reducible apply CallG.plain1 [] (hbl)) | (with_reducible apply CallG.draw1 [] (speaks13_any)) | (with_reducible apply CallG.draw1 [] (hr)) | (with_reducible apply CallG.draw1 [] (lawof_any l hl)) | (with_reducible apply CallG.draw1 [] (hbl))); (focus ((try refine And.intro (leAs_of_eq rfl) ?_); (try refine And.intro (leOL_of_eq rfl) ?_); simp (maxSteps := 9999999) (disch := omega) only [go_sem, cI_ren, hc, hl, ht]; first | done | (repeat' (first | rfl | (refine And.intro ?_ ?_))))); (focus (simp (maxSteps := 9999999) (disch := omega) only [go_sem, cI_ren, hc, hl, ht]; rfl)))); (try simp (maxSteps := 9999999) (disch := omega) only [go_sem, cI_ren, hc, hl, ht]); (try (refine And.intro ?_ ?_; (focus (first | omega | (simp only [go_sem]; done) | (simp; done) | (simp; omega) | assumption))))) | ((first | refine CondP.split (fun hif => ?_) (fun hif => ?_) | refine Runs.part (fun hif => ?_) (fun hif => ?_)) <;> ((try simp only [hif]); (try simp only [decide_eq_true_eq, decide_eq_false_iff_not, Bool.not_eq_true, Bool.not_eq_false, Bool.not_eq_true', Bool.not_eq_false', beq_iff_eq, bne_iff_ne, bne_eq_false_iff_eq, beq_eq_false_iff_ne, ne_eq, Bool.and_eq_true, Bool.or_eq_true, Bool.or_eq_false_iff] at hif); (try (have h9 : _ = true := hif; simp only [h9])); (try (have h9 : _ = false := hif; simp only [h9])); (try simp (maxSteps := 9999999) (disch := omega) only [go_sem, cI_ren, hc, hl, ht]); (try (refine And.intro ?_ ?_; (focus (first | omega | (simp only [go_sem]; done) | (simp; done) | (simp; omega) | assumption)))); (try (exfalso; omega; done))))))
  (apply AWpA.loopL (fun i : Nat => [(3, .ptr 0 0), (4, I (boundI l)), (29, I i)]) (fun i => [.cells false (cI l)]) (fun i => 3 - i) (fun i => i ≤ 3) (0) [176]; rotate_left; (focus (simp (maxSteps := 9999999) (disch := omega) only [go_sem, cI_ren]; (try (repeat' (first | done | trivial | rfl | exact leAs_rfl _ | decide | (refine And.intro ?_ ?_) | (simp; done) | omega | (simp; decide)))))); rotate_right)
  · exact Nat.zero_le _
  rintro i hi
  (try simp only at hi)
  obtain rfl | rfl | rfl | rfl : i = 0 ∨ i = 1 ∨ i = 2 ∨ i = 3 := by omega
  · have hml : (l.set 1 (l.getD 1 0 + 1)).length = 20 := by simp [hl]
    have p1 := cI_put l 1 (l.getD 1 0 + 1) (by omega)
    have hq := fun h => rounds_up0 hB (m := l.set 1 (l.getD 1 0 + 1)) h rfl
    generalize l.set 1 (l.getD 1 0 + 1) = m at hml p1 hq
    have hk := bound_any m hml
    have hmt := cI_take hml
    have hmc := cI_len m
    have hbx := b.q
    cases hM : boundB m
    · rw [hM] at hk
      (try simp (maxSteps := 9999999) (disch := omega) only [go_sem])
      (repeat' (first | refine AWpA.seq ?_ | refine AWpA.block ?_ | (with_reducible refine CondP.tt ?_) | (with_reducible refine CondP.ff ?_) | refine AWpA.condv (by simp (maxSteps := 9999999) (disch := omega) only [go_sem, cI_ren, hc, hl, ht, cI_get, p1, hmt, hmc, hml]; rfl) ?_ | ((first | (apply AWpA.region; (focus (simp (maxSteps := 9999999) (disch := omega) only [go_sem, cI_ren, hc, hl, ht, cI_get, p1, hmt, hmc, hml]; rfl))) | (apply AWpA.draw [] follows; (focus (simp (maxSteps := 9999999) (disch := omega) only [go_sem, cI_ren, hc, hl, ht, cI_get, p1, hmt, hmc, hml]; rfl)); (focus (simp (maxSteps := 9999999) (disch := omega) only [go_sem, cI_ren, hc, hl, ht, cI_get, p1, hmt, hmc, hml]; first | done | trivial)); (focus (simp (maxSteps := 9999999) (disch := omega) only [go_sem, cI_ren, hc, hl, ht, cI_get, p1, hmt, hmc, hml]; rfl))) | (apply TailK.go; (focus (simp (maxSteps := 9999999) (disch := omega) only [go_sem, cI_ren, hc, hl, ht, cI_get, p1, hmt, hmc, hml]; rfl))) | refine AWpA.skip ?_ | refine AWpA.exit ?_ | refine AWpA.ret ?_ | (with_reducible refine ARoundsA.succ ?_) | ((first | refine Runs.kt (by assumption) (fun h9 => ?_) | refine Runs.kf (by assumption) (fun h9 => ?_) | refine Runs.nt (by assumption) (fun h9 => ?_) | refine Runs.nf (by assumption) (fun h9 => ?_) | refine CondP.ht (by assumption) (fun h9 => ?_) | refine CondP.hf (by assumption) (fun h9 => ?_) | refine CondP.nt (by assumption) (fun h9 => ?_) | refine CondP.nf (by assumption) (fun h9 => ?_)); (try simp only [h9]); clear h9) | ((first | (with_reducible apply CallG.plain1 [] (hk)) | (with_reducible apply CallG.draw1 [] (hk))); (focus ((try refine And.intro (leAs_of_eq rfl) ?_); (try refine And.intro (leOL_of_eq rfl) ?_); simp (maxSteps := 9999999) (disch := omega) only [go_sem, cI_ren, hc, hl, ht, cI_get, p1, hmt, hmc, hml]; first | done | (repeat' (first | rfl | (refine And.intro ?_ ?_))))); (focus (simp (maxSteps := 9999999) (disch := omega) only [go_sem, cI_ren, hc, hl, ht, cI_get, p1, hmt, hmc, hml]; rfl)))); (try simp (maxSteps := 9999999) (disch := omega) only [go_sem, cI_ren, hc, hl, ht, cI_get, p1, hmt, hmc, hml]); (try (refine And.intro ?_ ?_; (focus (first | omega | (simp only [go_sem]; done) | (simp; done) | (simp; omega) | assumption))))) | ((first | refine CondP.split (fun hif => ?_) (fun hif => ?_) | refine Runs.part (fun hif => ?_) (fun hif => ?_)) <;> ((try simp only [hif]); (try simp only [decide_eq_true_eq, decide_eq_false_iff_not, Bool.not_eq_true, Bool.not_eq_false, Bool.not_eq_true', Bool.not_eq_false', beq_iff_eq, bne_iff_ne, bne_eq_false_iff_eq, beq_eq_false_iff_ne, ne_eq, Bool.and_eq_true, Bool.or_eq_true, Bool.or_eq_false_iff] at hif); (try (have h9 : _ = true := hif; simp only [h9])); (try (have h9 : _ = false := hif; simp only [h9])); (try simp (maxSteps := 9999999) (disch := omega) only [go_sem, cI_ren, hc, hl, ht, cI_get, p1, hmt, hmc, hml]); (try (refine And.intro ?_ ?_; (focus (first | omega | (simp only [go_sem]; done) | (simp; done) | (simp; omega) | assumption)))); (try (exfalso; omega; done))))))
      (apply Back.to 1 [0]; (focus ((try simp (maxSteps := 9999999) (disch := omega) only [go_sem, cI_ren]); first | done | omega)); rotate_left; (focus (simp (maxSteps := 9999999) (disch := omega) only [go_sem, cI_ren]; (try (repeat' (first | done | trivial | rfl | exact leAs_rfl _ | decide | (refine And.intro ?_ ?_) | (simp; done) | omega | (simp; decide)))))))
      exact Nat.le_of_ble_eq_true rfl
    · rw [hM] at hk
      have q1 : (boundI m < boundI l) = False := eq_false (by have := hq hM; omega)
      (try simp (maxSteps := 9999999) (disch := omega) only [go_sem])
      (repeat' (first | refine AWpA.seq ?_ | refine AWpA.block ?_ | (with_reducible refine CondP.tt ?_) | (with_reducible refine CondP.ff ?_) | refine AWpA.condv (by simp (maxSteps := 9999999) (disch := omega) only [go_sem, cI_ren, hc, hl, ht, cI_get, p1, hmt, hmc, hml, q1]; rfl) ?_ | ((first | (apply AWpA.region; (focus (simp (maxSteps := 9999999) (disch := omega) only [go_sem, cI_ren, hc, hl, ht, cI_get, p1, hmt, hmc, hml, q1]; rfl))) | (apply AWpA.draw [] follows; (focus (simp (maxSteps := 9999999) (disch := omega) only [go_sem, cI_ren, hc, hl, ht, cI_get, p1, hmt, hmc, hml, q1]; rfl)); (focus (simp (maxSteps := 9999999) (disch := omega) only [go_sem, cI_ren, hc, hl, ht, cI_get, p1, hmt, hmc, hml, q1]; first | done | trivial)); (focus (simp (maxSteps := 9999999) (disch := omega) only [go_sem, cI_ren, hc, hl, ht, cI_get, p1, hmt, hmc, hml, q1]; rfl))) | (apply TailK.go; (focus (simp (maxSteps := 9999999) (disch := omega) only [go_sem, cI_ren, hc, hl, ht, cI_get, p1, hmt, hmc, hml, q1]; rfl))) | refine AWpA.skip ?_ | refine AWpA.exit ?_ | refine AWpA.ret ?_ | (with_reducible refine ARoundsA.succ ?_) | ((first | refine Runs.kt (by assumption) (fun h9 => ?_) | refine Runs.kf (by assumption) (fun h9 => ?_) | refine Runs.nt (by assumption) (fun h9 => ?_) | refine Runs.nf (by assumption) (fun h9 => ?_) | refine CondP.ht (by assumption) (fun h9 => ?_) | refine CondP.hf (by assumption) (fun h9 => ?_) | refine CondP.nt (by assumption) (fun h9 => ?_) | refine CondP.nf (by assumption) (fun h9 => ?_)); (try simp only [h9]); clear h9) | ((first | (with_reducible apply CallG.plain1 [] (hk)) | (with_reducible apply CallG.draw1 [] (hk))); (focus ((try refine And.intro (leAs_of_eq rfl) ?_); (try refine And.intro (leOL_of_eq rfl) ?_); simp (maxSteps := 9999999) (disch := omega) only [go_sem, cI_ren, hc, hl, ht, cI_get, p1, hmt, hmc, hml, q1]; first | done | (repeat' (first | rfl | (refine And.intro ?_ ?_))))); (focus (simp (maxSteps := 9999999) (disch := omega) only [go_sem, cI_ren, hc, hl, ht, cI_get, p1, hmt, hmc, hml, q1]; rfl)))); (try simp (maxSteps := 9999999) (disch := omega) only [go_sem, cI_ren, hc, hl, ht, cI_get, p1, hmt, hmc, hml, q1]); (try (refine And.intro ?_ ?_; (focus (first | omega | (simp only [go_sem]; done) | (simp; done) | (simp; omega) | assumption))))) | ((first | refine CondP.split (fun hif => ?_) (fun hif => ?_) | refine Runs.part (fun hif => ?_) (fun hif => ?_)) <;> ((try simp only [hif]); (try simp only [decide_eq_true_eq, decide_eq_false_iff_not, Bool.not_eq_true, Bool.not_eq_false, Bool.not_eq_true', Bool.not_eq_false', beq_iff_eq, bne_iff_ne, bne_eq_false_iff_eq, beq_eq_false_iff_ne, ne_eq, Bool.and_eq_true, Bool.or_eq_true, Bool.or_eq_false_iff] at hif); (try (have h9 : _ = true := hif; simp only [h9])); (try (have h9 : _ = false := hif; simp only [h9])); (try simp (maxSteps := 9999999) (disch := omega) only [go_sem, cI_ren, hc, hl, ht, cI_get, p1, hmt, hmc, hml, q1]); (try (refine And.intro ?_ ?_; (focus (first | omega | (simp only [go_sem]; done) | (simp; done) | (simp; omega) | assumption)))); (try (exfalso; omega; done))))))
      (apply Back.to 1 [0]; (focus ((try simp (maxSteps := 9999999) (disch := omega) only [go_sem, cI_ren]); first | done | omega)); rotate_left; (focus (simp (maxSteps := 9999999) (disch := omega) only [go_sem, cI_ren]; (try (repeat' (first | done | trivial | rfl | exact leAs_rfl _ | decide | (refine And.intro ?_ ?_) | (simp; done) | omega | (simp; decide)))))))
      exact Nat.le_of_ble_eq_true rfl
  · have hml : (l.set 19 (l.getD 19 0 + 1)).length = 20 := by simp [hl]
    have p1 := cI_put l 19 (l.getD 19 0 + 1) (by omega)
    have hq := fun h => rounds_up1 hB (m := l.set 19 (l.getD 19 0 + 1)) h rfl
    generalize l.set 19 (l.getD 19 0 + 1) = m at hml p1 hq
    have hk := bound_any m hml
    have hmt := cI_take hml
    have hmc := cI_len m
    have hbx := b.k
    cases hM : boundB m
    · rw [hM] at hk
      (try simp (maxSteps := 9999999) (disch := omega) only [go_sem])
      (repeat' (first | refine AWpA.seq ?_ | refine AWpA.block ?_ | (with_reducible refine CondP.tt ?_) | (with_reducible refine CondP.ff ?_) | refine AWpA.condv (by simp (maxSteps := 9999999) (disch := omega) only [go_sem, cI_ren, hc, hl, ht, cI_get, p1, hmt, hmc, hml]; rfl) ?_ | ((first | (apply AWpA.region; (focus (simp (maxSteps := 9999999) (disch := omega) only [go_sem, cI_ren, hc, hl, ht, cI_get, p1, hmt, hmc, hml]; rfl))) | (apply AWpA.draw [] follows; (focus (simp (maxSteps := 9999999) (disch := omega) only [go_sem, cI_ren, hc, hl, ht, cI_get, p1, hmt, hmc, hml]; rfl)); (focus (simp (maxSteps := 9999999) (disch := omega) only [go_sem, cI_ren, hc, hl, ht, cI_get, p1, hmt, hmc, hml]; first | done | trivial)); (focus (simp (maxSteps := 9999999) (disch := omega) only [go_sem, cI_ren, hc, hl, ht, cI_get, p1, hmt, hmc, hml]; rfl))) | (apply TailK.go; (focus (simp (maxSteps := 9999999) (disch := omega) only [go_sem, cI_ren, hc, hl, ht, cI_get, p1, hmt, hmc, hml]; rfl))) | refine AWpA.skip ?_ | refine AWpA.exit ?_ | refine AWpA.ret ?_ | (with_reducible refine ARoundsA.succ ?_) | ((first | refine Runs.kt (by assumption) (fun h9 => ?_) | refine Runs.kf (by assumption) (fun h9 => ?_) | refine Runs.nt (by assumption) (fun h9 => ?_) | refine Runs.nf (by assumption) (fun h9 => ?_) | refine CondP.ht (by assumption) (fun h9 => ?_) | refine CondP.hf (by assumption) (fun h9 => ?_) | refine CondP.nt (by assumption) (fun h9 => ?_) | refine CondP.nf (by assumption) (fun h9 => ?_)); (try simp only [h9]); clear h9) | ((first | (with_reducible apply CallG.plain1 [] (hk)) | (with_reducible apply CallG.draw1 [] (hk))); (focus ((try refine And.intro (leAs_of_eq rfl) ?_); (try refine And.intro (leOL_of_eq rfl) ?_); simp (maxSteps := 9999999) (disch := omega) only [go_sem, cI_ren, hc, hl, ht, cI_get, p1, hmt, hmc, hml]; first | done | (repeat' (first | rfl | (refine And.intro ?_ ?_))))); (focus (simp (maxSteps := 9999999) (disch := omega) only [go_sem, cI_ren, hc, hl, ht, cI_get, p1, hmt, hmc, hml]; rfl)))); (try simp (maxSteps := 9999999) (disch := omega) only [go_sem, cI_ren, hc, hl, ht, cI_get, p1, hmt, hmc, hml]); (try (refine And.intro ?_ ?_; (focus (first | omega | (simp only [go_sem]; done) | (simp; done) | (simp; omega) | assumption))))) | ((first | refine CondP.split (fun hif => ?_) (fun hif => ?_) | refine Runs.part (fun hif => ?_) (fun hif => ?_)) <;> ((try simp only [hif]); (try simp only [decide_eq_true_eq, decide_eq_false_iff_not, Bool.not_eq_true, Bool.not_eq_false, Bool.not_eq_true', Bool.not_eq_false', beq_iff_eq, bne_iff_ne, bne_eq_false_iff_eq, beq_eq_false_iff_ne, ne_eq, Bool.and_eq_true, Bool.or_eq_true, Bool.or_eq_false_iff] at hif); (try (have h9 : _ = true := hif; simp only [h9])); (try (have h9 : _ = false := hif; simp only [h9])); (try simp (maxSteps := 9999999) (disch := omega) only [go_sem, cI_ren, hc, hl, ht, cI_get, p1, hmt, hmc, hml]); (try (refine And.intro ?_ ?_; (focus (first | omega | (simp only [go_sem]; done) | (simp; done) | (simp; omega) | assumption)))); (try (exfalso; omega; done))))))
      (apply Back.to 2 [0]; (focus ((try simp (maxSteps := 9999999) (disch := omega) only [go_sem, cI_ren]); first | done | omega)); rotate_left; (focus (simp (maxSteps := 9999999) (disch := omega) only [go_sem, cI_ren]; (try (repeat' (first | done | trivial | rfl | exact leAs_rfl _ | decide | (refine And.intro ?_ ?_) | (simp; done) | omega | (simp; decide)))))))
      exact Nat.le_of_ble_eq_true rfl
    · rw [hM] at hk
      have q1 : (boundI m < boundI l) = False := eq_false (by have := hq hM; omega)
      (try simp (maxSteps := 9999999) (disch := omega) only [go_sem])
      (repeat' (first | refine AWpA.seq ?_ | refine AWpA.block ?_ | (with_reducible refine CondP.tt ?_) | (with_reducible refine CondP.ff ?_) | refine AWpA.condv (by simp (maxSteps := 9999999) (disch := omega) only [go_sem, cI_ren, hc, hl, ht, cI_get, p1, hmt, hmc, hml, q1]; rfl) ?_ | ((first | (apply AWpA.region; (focus (simp (maxSteps := 9999999) (disch := omega) only [go_sem, cI_ren, hc, hl, ht, cI_get, p1, hmt, hmc, hml, q1]; rfl))) | (apply AWpA.draw [] follows; (focus (simp (maxSteps := 9999999) (disch := omega) only [go_sem, cI_ren, hc, hl, ht, cI_get, p1, hmt, hmc, hml, q1]; rfl)); (focus (simp (maxSteps := 9999999) (disch := omega) only [go_sem, cI_ren, hc, hl, ht, cI_get, p1, hmt, hmc, hml, q1]; first | done | trivial)); (focus (simp (maxSteps := 9999999) (disch := omega) only [go_sem, cI_ren, hc, hl, ht, cI_get, p1, hmt, hmc, hml, q1]; rfl))) | (apply TailK.go; (focus (simp (maxSteps := 9999999) (disch := omega) only [go_sem, cI_ren, hc, hl, ht, cI_get, p1, hmt, hmc, hml, q1]; rfl))) | refine AWpA.skip ?_ | refine AWpA.exit ?_ | refine AWpA.ret ?_ | (with_reducible refine ARoundsA.succ ?_) | ((first | refine Runs.kt (by assumption) (fun h9 => ?_) | refine Runs.kf (by assumption) (fun h9 => ?_) | refine Runs.nt (by assumption) (fun h9 => ?_) | refine Runs.nf (by assumption) (fun h9 => ?_) | refine CondP.ht (by assumption) (fun h9 => ?_) | refine CondP.hf (by assumption) (fun h9 => ?_) | refine CondP.nt (by assumption) (fun h9 => ?_) | refine CondP.nf (by assumption) (fun h9 => ?_)); (try simp only [h9]); clear h9) | ((first | (with_reducible apply CallG.plain1 [] (hk)) | (with_reducible apply CallG.draw1 [] (hk))); (focus ((try refine And.intro (leAs_of_eq rfl) ?_); (try refine And.intro (leOL_of_eq rfl) ?_); simp (maxSteps := 9999999) (disch := omega) only [go_sem, cI_ren, hc, hl, ht, cI_get, p1, hmt, hmc, hml, q1]; first | done | (repeat' (first | rfl | (refine And.intro ?_ ?_))))); (focus (simp (maxSteps := 9999999) (disch := omega) only [go_sem, cI_ren, hc, hl, ht, cI_get, p1, hmt, hmc, hml, q1]; rfl)))); (try simp (maxSteps := 9999999) (disch := omega) only [go_sem, cI_ren, hc, hl, ht, cI_get, p1, hmt, hmc, hml, q1]); (try (refine And.intro ?_ ?_; (focus (first | omega | (simp only [go_sem]; done) | (simp; done) | (simp; omega) | assumption))))) | ((first | refine CondP.split (fun hif => ?_) (fun hif => ?_) | refine Runs.part (fun hif => ?_) (fun hif => ?_)) <;> ((try simp only [hif]); (try simp only [decide_eq_true_eq, decide_eq_false_iff_not, Bool.not_eq_true, Bool.not_eq_false, Bool.not_eq_true', Bool.not_eq_false', beq_iff_eq, bne_iff_ne, bne_eq_false_iff_eq, beq_eq_false_iff_ne, ne_eq, Bool.and_eq_true, Bool.or_eq_true, Bool.or_eq_false_iff] at hif); (try (have h9 : _ = true := hif; simp only [h9])); (try (have h9 : _ = false := hif; simp only [h9])); (try simp (maxSteps := 9999999) (disch := omega) only [go_sem, cI_ren, hc, hl, ht, cI_get, p1, hmt, hmc, hml, q1]); (try (refine And.intro ?_ ?_; (focus (first | omega | (simp only [go_sem]; done) | (simp; done) | (simp; omega) | assumption)))); (try (exfalso; omega; done))))))
      (apply Back.to 2 [0]; (focus ((try simp (maxSteps := 9999999) (disch := omega) only [go_sem, cI_ren]); first | done | omega)); rotate_left; (focus (simp (maxSteps := 9999999) (disch := omega) only [go_sem, cI_ren]; (try (repeat' (first | done | trivial | rfl | exact leAs_rfl _ | decide | (refine And.intro ?_ ?_) | (simp; done) | omega | (simp; decide)))))))
      exact Nat.le_of_ble_eq_true rfl
  · have hml : (l.set 18 (l.getD 18 0 + 1)).length = 20 := by simp [hl]
    have p1 := cI_put l 18 (l.getD 18 0 + 1) (by omega)
    have hq := fun h => rounds_up2 hB (m := l.set 18 (l.getD 18 0 + 1)) h rfl
    generalize l.set 18 (l.getD 18 0 + 1) = m at hml p1 hq
    have hk := bound_any m hml
    have hmt := cI_take hml
    have hmc := cI_len m
    have hbx := b.f
    cases hM : boundB m
    · rw [hM] at hk
      (try simp (maxSteps := 9999999) (disch := omega) only [go_sem])
      (repeat' (first | refine AWpA.seq ?_ | refine AWpA.block ?_ | (with_reducible refine CondP.tt ?_) | (with_reducible refine CondP.ff ?_) | refine AWpA.condv (by simp (maxSteps := 9999999) (disch := omega) only [go_sem, cI_ren, hc, hl, ht, cI_get, p1, hmt, hmc, hml]; rfl) ?_ | ((first | (apply AWpA.region; (focus (simp (maxSteps := 9999999) (disch := omega) only [go_sem, cI_ren, hc, hl, ht, cI_get, p1, hmt, hmc, hml]; rfl))) | (apply AWpA.draw [] follows; (focus (simp (maxSteps := 9999999) (disch := omega) only [go_sem, cI_ren, hc, hl, ht, cI_get, p1, hmt, hmc, hml]; rfl)); (focus (simp (maxSteps := 9999999) (disch := omega) only [go_sem, cI_ren, hc, hl, ht, cI_get, p1, hmt, hmc, hml]; first | done | trivial)); (focus (simp (maxSteps := 9999999) (disch := omega) only [go_sem, cI_ren, hc, hl, ht, cI_get, p1, hmt, hmc, hml]; rfl))) | (apply TailK.go; (focus (simp (maxSteps := 9999999) (disch := omega) only [go_sem, cI_ren, hc, hl, ht, cI_get, p1, hmt, hmc, hml]; rfl))) | refine AWpA.skip ?_ | refine AWpA.exit ?_ | refine AWpA.ret ?_ | (with_reducible refine ARoundsA.succ ?_) | ((first | refine Runs.kt (by assumption) (fun h9 => ?_) | refine Runs.kf (by assumption) (fun h9 => ?_) | refine Runs.nt (by assumption) (fun h9 => ?_) | refine Runs.nf (by assumption) (fun h9 => ?_) | refine CondP.ht (by assumption) (fun h9 => ?_) | refine CondP.hf (by assumption) (fun h9 => ?_) | refine CondP.nt (by assumption) (fun h9 => ?_) | refine CondP.nf (by assumption) (fun h9 => ?_)); (try simp only [h9]); clear h9) | ((first | (with_reducible apply CallG.plain1 [] (hk)) | (with_reducible apply CallG.draw1 [] (hk))); (focus ((try refine And.intro (leAs_of_eq rfl) ?_); (try refine And.intro (leOL_of_eq rfl) ?_); simp (maxSteps := 9999999) (disch := omega) only [go_sem, cI_ren, hc, hl, ht, cI_get, p1, hmt, hmc, hml]; first | done | (repeat' (first | rfl | (refine And.intro ?_ ?_))))); (focus (simp (maxSteps := 9999999) (disch := omega) only [go_sem, cI_ren, hc, hl, ht, cI_get, p1, hmt, hmc, hml]; rfl)))); (try simp (maxSteps := 9999999) (disch := omega) only [go_sem, cI_ren, hc, hl, ht, cI_get, p1, hmt, hmc, hml]); (try (refine And.intro ?_ ?_; (focus (first | omega | (simp only [go_sem]; done) | (simp; done) | (simp; omega) | assumption))))) | ((first | refine CondP.split (fun hif => ?_) (fun hif => ?_) | refine Runs.part (fun hif => ?_) (fun hif => ?_)) <;> ((try simp only [hif]); (try simp only [decide_eq_true_eq, decide_eq_false_iff_not, Bool.not_eq_true, Bool.not_eq_false, Bool.not_eq_true', Bool.not_eq_false', beq_iff_eq, bne_iff_ne, bne_eq_false_iff_eq, beq_eq_false_iff_ne, ne_eq, Bool.and_eq_true, Bool.or_eq_true, Bool.or_eq_false_iff] at hif); (try (have h9 : _ = true := hif; simp only [h9])); (try (have h9 : _ = false := hif; simp only [h9])); (try simp (maxSteps := 9999999) (disch := omega) only [go_sem, cI_ren, hc, hl, ht, cI_get, p1, hmt, hmc, hml]); (try (refine And.intro ?_ ?_; (focus (first | omega | (simp only [go_sem]; done) | (simp; done) | (simp; omega) | assumption)))); (try (exfalso; omega; done))))))
      (apply Back.to 3 [0]; (focus ((try simp (maxSteps := 9999999) (disch := omega) only [go_sem, cI_ren]); first | done | omega)); rotate_left; (focus (simp (maxSteps := 9999999) (disch := omega) only [go_sem, cI_ren]; (try (repeat' (first | done | trivial | rfl | exact leAs_rfl _ | decide | (refine And.intro ?_ ?_) | (simp; done) | omega | (simp; decide)))))))
      exact Nat.le_of_ble_eq_true rfl
    · rw [hM] at hk
      have q1 : (boundI m < boundI l) = False := eq_false (by have := hq hM; omega)
      (try simp (maxSteps := 9999999) (disch := omega) only [go_sem])
      (repeat' (first | refine AWpA.seq ?_ | refine AWpA.block ?_ | (with_reducible refine CondP.tt ?_) | (with_reducible refine CondP.ff ?_) | refine AWpA.condv (by simp (maxSteps := 9999999) (disch := omega) only [go_sem, cI_ren, hc, hl, ht, cI_get, p1, hmt, hmc, hml, q1]; rfl) ?_ | ((first | (apply AWpA.region; (focus (simp (maxSteps := 9999999) (disch := omega) only [go_sem, cI_ren, hc, hl, ht, cI_get, p1, hmt, hmc, hml, q1]; rfl))) | (apply AWpA.draw [] follows; (focus (simp (maxSteps := 9999999) (disch := omega) only [go_sem, cI_ren, hc, hl, ht, cI_get, p1, hmt, hmc, hml, q1]; rfl)); (focus (simp (maxSteps := 9999999) (disch := omega) only [go_sem, cI_ren, hc, hl, ht, cI_get, p1, hmt, hmc, hml, q1]; first | done | trivial)); (focus (simp (maxSteps := 9999999) (disch := omega) only [go_sem, cI_ren, hc, hl, ht, cI_get, p1, hmt, hmc, hml, q1]; rfl))) | (apply TailK.go; (focus (simp (maxSteps := 9999999) (disch := omega) only [go_sem, cI_ren, hc, hl, ht, cI_get, p1, hmt, hmc, hml, q1]; rfl))) | refine AWpA.skip ?_ | refine AWpA.exit ?_ | refine AWpA.ret ?_ | (with_reducible refine ARoundsA.succ ?_) | ((first | refine Runs.kt (by assumption) (fun h9 => ?_) | refine Runs.kf (by assumption) (fun h9 => ?_) | refine Runs.nt (by assumption) (fun h9 => ?_) | refine Runs.nf (by assumption) (fun h9 => ?_) | refine CondP.ht (by assumption) (fun h9 => ?_) | refine CondP.hf (by assumption) (fun h9 => ?_) | refine CondP.nt (by assumption) (fun h9 => ?_) | refine CondP.nf (by assumption) (fun h9 => ?_)); (try simp only [h9]); clear h9) | ((first | (with_reducible apply CallG.plain1 [] (hk)) | (with_reducible apply CallG.draw1 [] (hk))); (focus ((try refine And.intro (leAs_of_eq rfl) ?_); (try refine And.intro (leOL_of_eq rfl) ?_); simp (maxSteps := 9999999) (disch := omega) only [go_sem, cI_ren, hc, hl, ht, cI_get, p1, hmt, hmc, hml, q1]; first | done | (repeat' (first | rfl | (refine And.intro ?_ ?_))))); (focus (simp (maxSteps := 9999999) (disch := omega) only [go_sem, cI_ren, hc, hl, ht, cI_get, p1, hmt, hmc, hml, q1]; rfl)))); (try simp (maxSteps := 9999999) (disch := omega) only [go_sem, cI_ren, hc, hl, ht, cI_get, p1, hmt, hmc, hml, q1]); (try (refine And.intro ?_ ?_; (focus (first | omega | (simp only [go_sem]; done) | (simp; done) | (simp; omega) | assumption))))) | ((first | refine CondP.split (fun hif => ?_) (fun hif => ?_) | refine Runs.part (fun hif => ?_) (fun hif => ?_)) <;> ((try simp only [hif]); (try simp only [decide_eq_true_eq, decide_eq_false_iff_not, Bool.not_eq_true, Bool.not_eq_false, Bool.not_eq_true', Bool.not_eq_false', beq_iff_eq, bne_iff_ne, bne_eq_false_iff_eq, beq_eq_false_iff_ne, ne_eq, Bool.and_eq_true, Bool.or_eq_true, Bool.or_eq_false_iff] at hif); (try (have h9 : _ = true := hif; simp only [h9])); (try (have h9 : _ = false := hif; simp only [h9])); (try simp (maxSteps := 9999999) (disch := omega) only [go_sem, cI_ren, hc, hl, ht, cI_get, p1, hmt, hmc, hml, q1]); (try (refine And.intro ?_ ?_; (focus (first | omega | (simp only [go_sem]; done) | (simp; done) | (simp; omega) | assumption)))); (try (exfalso; omega; done))))))
      (apply Back.to 3 [0]; (focus ((try simp (maxSteps := 9999999) (disch := omega) only [go_sem, cI_ren]); first | done | omega)); rotate_left; (focus (simp (maxSteps := 9999999) (disch := omega) only [go_sem, cI_ren]; (try (repeat' (first | done | trivial | rfl | exact leAs_rfl _ | decide | (refine And.intro ?_ ?_) | (simp; done) | omega | (simp; decide)))))))
      exact Nat.le_of_ble_eq_true rfl
  · have q1 : (2 ≤ boundI l) = True := eq_true h2
    have q2 : (l.getD 19 0 < steps l) = True := eq_true h3
    (try simp (maxSteps := 9999999) (disch := omega) only [go_sem])
    (repeat' (first | refine AWpA.seq ?_ | refine AWpA.block ?_ | (with_reducible refine CondP.tt ?_) | (with_reducible refine CondP.ff ?_) | refine AWpA.condv (by simp (maxSteps := 9999999) (disch := omega) only [go_sem, cI_ren, hc, hl, ht, cI_get, q1, q2]; rfl) ?_ | ((first | (apply AWpA.region; (focus (simp (maxSteps := 9999999) (disch := omega) only [go_sem, cI_ren, hc, hl, ht, cI_get, q1, q2]; rfl))) | (apply AWpA.draw [] follows; (focus (simp (maxSteps := 9999999) (disch := omega) only [go_sem, cI_ren, hc, hl, ht, cI_get, q1, q2]; rfl)); (focus (simp (maxSteps := 9999999) (disch := omega) only [go_sem, cI_ren, hc, hl, ht, cI_get, q1, q2]; first | done | trivial)); (focus (simp (maxSteps := 9999999) (disch := omega) only [go_sem, cI_ren, hc, hl, ht, cI_get, q1, q2]; rfl))) | (apply TailK.go; (focus (simp (maxSteps := 9999999) (disch := omega) only [go_sem, cI_ren, hc, hl, ht, cI_get, q1, q2]; rfl))) | refine AWpA.skip ?_ | refine AWpA.exit ?_ | refine AWpA.ret ?_ | (with_reducible refine ARoundsA.succ ?_) | ((first | refine Runs.kt (by assumption) (fun h9 => ?_) | refine Runs.kf (by assumption) (fun h9 => ?_) | refine Runs.nt (by assumption) (fun h9 => ?_) | refine Runs.nf (by assumption) (fun h9 => ?_) | refine CondP.ht (by assumption) (fun h9 => ?_) | refine CondP.hf (by assumption) (fun h9 => ?_) | refine CondP.nt (by assumption) (fun h9 => ?_) | refine CondP.nf (by assumption) (fun h9 => ?_)); (try simp only [h9]); clear h9) | ((first | (with_reducible apply CallG.plain1 [] (hsl)) | (with_reducible apply CallG.draw1 [] (hsl))); (focus ((try refine And.intro (leAs_of_eq rfl) ?_); (try refine And.intro (leOL_of_eq rfl) ?_); simp (maxSteps := 9999999) (disch := omega) only [go_sem, cI_ren, hc, hl, ht, cI_get, q1, q2]; first | done | (repeat' (first | rfl | (refine And.intro ?_ ?_))))); (focus (simp (maxSteps := 9999999) (disch := omega) only [go_sem, cI_ren, hc, hl, ht, cI_get, q1, q2]; rfl)))); (try simp (maxSteps := 9999999) (disch := omega) only [go_sem, cI_ren, hc, hl, ht, cI_get, q1, q2]); (try (refine And.intro ?_ ?_; (focus (first | omega | (simp only [go_sem]; done) | (simp; done) | (simp; omega) | assumption))))) | ((first | refine CondP.split (fun hif => ?_) (fun hif => ?_) | refine Runs.part (fun hif => ?_) (fun hif => ?_)) <;> ((try simp only [hif]); (try simp only [decide_eq_true_eq, decide_eq_false_iff_not, Bool.not_eq_true, Bool.not_eq_false, Bool.not_eq_true', Bool.not_eq_false', beq_iff_eq, bne_iff_ne, bne_eq_false_iff_eq, beq_eq_false_iff_ne, ne_eq, Bool.and_eq_true, Bool.or_eq_true, Bool.or_eq_false_iff] at hif); (try (have h9 : _ = true := hif; simp only [h9])); (try (have h9 : _ = false := hif; simp only [h9])); (try simp (maxSteps := 9999999) (disch := omega) only [go_sem, cI_ren, hc, hl, ht, cI_get, q1, q2]); (try (refine And.intro ?_ ?_; (focus (first | omega | (simp only [go_sem]; done) | (simp; done) | (simp; omega) | assumption)))); (try (exfalso; omega; done))))))
    (refine TopPost.of (by first | exact .inl rfl | exact .inr rfl) (by (try simp (maxSteps := 9999999) (disch := omega) only [go_sem]); rfl) ?_; (try simp (maxSteps := 9999999) (disch := omega) only [go_sem]); (try (first | trivial | decide | (simp; done))))
end Go.Proofs.Ytkdikmfnchmphaa
