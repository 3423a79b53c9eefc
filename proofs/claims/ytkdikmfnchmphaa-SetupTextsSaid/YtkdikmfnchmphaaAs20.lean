/- The walk of SetupTexts. -/
import Derived.Test.YtkdikmfnchmphaaAs19
namespace Go.Proofs.Ytkdikmfnchmphaa
set_option linter.unusedSimpArgs false
set_option linter.unusedVariables false
set_option maxHeartbeats 4000000
open Go Go.Am Go.RowKit Go.ChangeShapes Go.WideShapes Go.ChangeAt Go.Setup
set_option maxRecDepth 100000
/- quidnunc/quidnunclaw13.SetupTexts -/
noncomputable def c14_1 : ACode := .region false [⟨some 1, .box 0, [.t 0], none⟩,
  ⟨some 2, .move, [.c (.val (.bool false))], none⟩] [] [] [1] true [] []
noncomputable def c14_4 : ACode := .region false [⟨some 7, .call 28, [], none⟩,
  ⟨some 8, .un .not, [.t 7], none⟩] [] [] [1, 8] true [] []
noncomputable def c14_7 : ACode := .region false [⟨some 2, .move, [.c (.val (.bool false))], none⟩] [] [] [2] false [] []
noncomputable def c14_6 : ACode := .seq c14_7 .ret
noncomputable def c14_5 : ACode := .cond (.t 8) c14_6 .skip
noncomputable def c14_3 : ACode := .seq c14_4 c14_5
noncomputable def c14_9 : ACode := .region false [⟨some 10, .load true 20, [.t 1], none⟩,
  ⟨some 11, .call 30, [.t 10], none⟩,
  ⟨some 12, .call 61, [.t 11], none⟩,
  ⟨some 9, .move, [.t 12], none⟩,
  ⟨some 13, .ext 0, [.t 9], none⟩,
  ⟨some 14, .ext 1, [.t 9], none⟩,
  ⟨some 3, .move, [.t 13], none⟩,
  ⟨some 4, .move, [.t 14], none⟩] [] [] [1, 3, 4] true [] []
noncomputable def c14_12 : ACode := .region false [⟨some 15, .load true 20, [.t 1], none⟩,
  ⟨some 16, .call 29, [.t 15], none⟩,
  ⟨some 17, .un .not, [.t 16], none⟩] [] [] [1, 3, 4, 17] true [] []
noncomputable def c14_15 : ACode := .region false [⟨some 18, .move, [.t 4], none⟩,
  ⟨some 19, .bin .eql, [.t 18, .c (.val (.int .i64 14))], none⟩,
  ⟨some 20, .move, [.t 19], none⟩,
  ⟨some 21, .move, [.t 3], some (some 20, true)⟩,
  ⟨some 22, .len, [.t 21], some (some 20, true)⟩,
  ⟨some 23, .bin .eql, [.t 22, .c (.val (.int .i64 0))], some (some 20, true)⟩,
  ⟨some 24, .pick, [.t 20, .t 23, .c (.val (.bool false))], none⟩,
  ⟨some 2, .move, [.t 24], none⟩] [] [] [2] false [] []
noncomputable def c14_14 : ACode := .seq c14_15 .ret
noncomputable def c14_13 : ACode := .cond (.t 17) c14_14 .skip
noncomputable def c14_11 : ACode := .seq c14_12 c14_13
noncomputable def c14_17 : ACode := .region false [⟨some 26, .move, [.t 3], none⟩,
  ⟨some 27, .call 46, [.t 26], none⟩,
  ⟨some 25, .move, [.t 27], none⟩,
  ⟨some 28, .ext 0, [.t 25], none⟩,
  ⟨some 29, .ext 1, [.t 25], none⟩,
  ⟨some 5, .alloc (List.replicate 20 (.int .i64 0)), [], none⟩,
  ⟨none, .store 20, [.t 5, .t 28], none⟩,
  ⟨some 6, .move, [.t 29], none⟩] [] [] [1, 3, 4, 5, 6] true [] []
noncomputable def c14_19 : ACode := .region true [⟨some 30, .move, [.t 4], none⟩,
  ⟨some 31, .bin .eql, [.t 30, .c (.val (.int .i64 0))], none⟩,
  ⟨some 32, .move, [.t 31], none⟩,
  ⟨some 33, .move, [.t 3], some (some 32, true)⟩,
  ⟨some 34, .toStr, [.t 33], some (some 32, true)⟩,
  ⟨some 35, .load true 20, [.t 1], some (some 32, true)⟩,
  ⟨some 36, .call 62, [.t 35], some (some 32, true)⟩,
  ⟨some 37, .toStr, [.t 36], some (some 32, true)⟩,
  ⟨some 38, .bin .eql, [.t 34, .t 37], some (some 32, true)⟩,
  ⟨some 39, .pick, [.t 32, .t 38, .c (.val (.bool false))], none⟩,
  ⟨some 40, .move, [.t 39], none⟩,
  ⟨some 41, .move, [.t 6], some (some 40, true)⟩,
  ⟨some 42, .bin .eql, [.t 41, .c (.val (.int .i64 0))], some (some 40, true)⟩,
  ⟨some 43, .pick, [.t 40, .t 42, .c (.val (.bool false))], none⟩,
  ⟨some 44, .move, [.t 43], none⟩,
  ⟨some 45, .load true 20, [.t 5], some (some 44, true)⟩,
  ⟨some 46, .load true 20, [.t 1], some (some 44, true)⟩,
  ⟨some 47, .call 30, [.t 46], some (some 44, true)⟩,
  ⟨some 48, .eqA false [(0, 0), (1, 0), (2, 0), (3, 0), (4, 0), (5, 0), (6, 0), (7, 0), (8, 0), (9, 0), (10, 0), (11, 0), (12, 0), (13, 0), (14, 0), (15, 0), (16, 0), (17, 0), (18, 0), (19, 0)], [.t 45, .t 47], some (some 44, true)⟩,
  ⟨some 49, .pick, [.t 44, .t 48, .c (.val (.bool false))], none⟩,
  ⟨some 2, .move, [.t 49], none⟩] [7] [] [2] true [] []
noncomputable def c14_18 : ACode := .seq c14_19 .ret
noncomputable def c14_16 : ACode := .seq c14_17 c14_18
noncomputable def c14_10 : ACode := .seq c14_11 c14_16
noncomputable def c14_8 : ACode := .seq c14_9 c14_10
noncomputable def c14_2 : ACode := .seq c14_3 c14_8
noncomputable def c14_0 : ACode := .seq c14_1 c14_2
noncomputable def code14 : Code := (Try.f14.body).getD .skip
theorem c14_ok : compC Try.prog 50 code14 = some (strip c14_0) := by kernel_rfl
theorem res14_ok : Try.f14.results.toList.mapM (resC Try.prog) = some [(2, none)] := by kernel_rfl
theorem texts_walk (W : World) (l : List Int) (hl : l.length = 20 ∧ ∀ a ∈ l, IntKind.i64.min ≤ a ∧ a ≤ IntKind.i64.max) :
    Calls Try.prog 14 #[.agg (l.flatMap fun n : Int => [Value.int .i64 n]).toArray] W fun e W' => e = .returned (.bool true) ∧ Below W.heap.size W W' := by
  obtain ⟨hl, hb⟩ := hl
  have hv := vals_cI l
  have ho := one_cI l
  have hc := cI_len l
  have ht := cI_take hl
  have hd := cI_drop hl
  have hr := rright_any l hl
  have h16 := lawof_any l hl
  cases h : right l
  · rw [h] at hr
    have c1 := encode_no l hl h
    refine top_call c14_ok Try.func14 rfl Try.ntmps14 res14_ok [ .agg (cI l)] (by simp) (by (repeat' (first | exact VRs_nil' _ | exact VR_val' _ _ | (refine VRs_cons' ?_ ?_) | (refine VR_agg' (by first | rfl | assumption) ?_; first | assumption | simp [Value.oneCell'])))) ?_; try simp (maxSteps := 9999999) (disch := omega) only [go_sem]
    (repeat' (first | refine AWpA.seq ?_ | refine AWpA.block ?_ | (with_reducible refine CondP.tt ?_) | (with_reducible refine CondP.ff ?_) | refine AWpA.condv (by simp (maxSteps := 9999999) (disch := omega) only [go_sem, cI_ren, hc, hl, ht]; rfl) ?_ | ((first | (apply AWpA.region; (focus (simp (maxSteps := 9999999) (disch := omega) only [go_sem, cI_ren, hc, hl, ht]; rfl))) | (apply AWpA.draw [] follows; (focus (simp (maxSteps := 9999999) (disch := omega) only [go_sem, cI_ren, hc, hl, ht]; rfl)); (focus (simp (maxSteps := 9999999) (disch := omega) only [go_sem, cI_ren, hc, hl, ht]; first | done | trivial)); (focus (simp (maxSteps := 9999999) (disch := omega) only [go_sem, cI_ren, hc, hl, ht]; rfl))) | (apply TailK.go; (focus (simp (maxSteps := 9999999) (disch := omega) only [go_sem, cI_ren, hc, hl, ht]; rfl))) | refine AWpA.skip ?_ | refine AWpA.exit ?_ | refine AWpA.ret ?_ | (with_reducible refine ARoundsA.succ ?_) | ((first | refine Runs.kt (by assumption) (fun h9 => ?_) | refine Runs.kf (by assumption) (fun h9 => ?_) | refine Runs.nt (by assumption) (fun h9 => ?_) | refine Runs.nf (by assumption) (fun h9 => ?_) | refine CondP.ht (by assumption) (fun h9 => ?_) | refine CondP.hf (by assumption) (fun h9 => ?_) | refine CondP.nt (by assumption) (fun h9 => ?_) | refine CondP.nf (by assumption) (fun h9 => ?_)); (try simp only [h9]); clear h9) | ((first | (with_reducible apply CallG.plain1 [] (speaks13_any)) | (with_reducible apply CallG.plain1 [] (hr)) | (with_reducible apply CallG.plain1 [] (h16)) | (with_reducible apply CallG.plain1 [] (c1)) | (with_reducible apply CallG.draw1 [] (speaks13_any)) | (with_reducible apply CallG.draw1 [] (hr)) | (with_reducible apply CallG.draw1 [] (h16)) | (with_reducible apply CallG.draw1 [] (c1))); (focus ((try refine And.intro (leAs_of_eq rfl) ?_); (try refine And.intro (leOL_of_eq rfl) ?_); simp (maxSteps := 9999999) (disch := omega) only [go_sem, cI_ren, hc, hl, ht]; first | done | (repeat' (first | rfl | (refine And.intro ?_ ?_))))); (focus (simp (maxSteps := 9999999) (disch := omega) only [go_sem, cI_ren, hc, hl, ht]; rfl)))); (try simp (maxSteps := 9999999) (disch := omega) only [go_sem, cI_ren, hc, hl, ht]); (try (refine And.intro ?_ ?_; (focus (first | omega | (simp only [go_sem]; done) | (simp; done) | (simp; omega) | assumption))))) | ((first | refine CondP.split (fun hif => ?_) (fun hif => ?_) | refine Runs.part (fun hif => ?_) (fun hif => ?_)) <;> ((try simp only [hif]); (try simp only [decide_eq_true_eq, decide_eq_false_iff_not, Bool.not_eq_true, Bool.not_eq_false, Bool.not_eq_true', Bool.not_eq_false', beq_iff_eq, bne_iff_ne, bne_eq_false_iff_eq, beq_eq_false_iff_ne, ne_eq, Bool.and_eq_true, Bool.or_eq_true, Bool.or_eq_false_iff] at hif); (try (have h9 : _ = true := hif; simp only [h9])); (try (have h9 : _ = false := hif; simp only [h9])); (try simp (maxSteps := 9999999) (disch := omega) only [go_sem, cI_ren, hc, hl, ht]); (try (refine And.intro ?_ ?_; (focus (first | omega | (simp only [go_sem]; done) | (simp; done) | (simp; omega) | assumption)))); (try (exfalso; omega; done))))))
    (refine TopPost.of (by first | exact .inl rfl | exact .inr rfl) (by (try simp (maxSteps := 9999999) (disch := omega) only [go_sem]); rfl) ?_; (try simp (maxSteps := 9999999) (disch := omega) only [go_sem]); (try (first | trivial | decide | (simp; done))))
  · rw [h] at hr
    have c1 := encode_ok l hl h
    have c2 := rencode_ok l hl h
    have sg := Seg.all (eN l 20) (by rw [eN_len]; omega)
    have c3 := decode_any sg (eN_bytes l 20)
    obtain ⟨d1, d2⟩ := dc_en hl h
    rw [d1, d2, eN_len, show 4 * 20 = 80 from rfl] at c3
    have hel := eN_len l 20
    have htk : (eN l 20).take 80 = eN l 20 := List.take_of_length_le (by omega)
    generalize eN l 20 = B at *
    clear d1 d2
    refine top_call c14_ok Try.func14 rfl Try.ntmps14 res14_ok [ .agg (cI l)] (by simp) (by (repeat' (first | exact VRs_nil' _ | exact VR_val' _ _ | (refine VRs_cons' ?_ ?_) | (refine VR_agg' (by first | rfl | assumption) ?_; first | assumption | simp [Value.oneCell'])))) ?_; try simp (maxSteps := 9999999) (disch := omega) only [go_sem]
    (repeat' (first | refine AWpA.seq ?_ | refine AWpA.block ?_ | (with_reducible refine CondP.tt ?_) | (with_reducible refine CondP.ff ?_) | refine AWpA.condv (by simp (maxSteps := 9999999) (disch := omega) only [go_sem, cI_ren, bA_ren, hc, hl, ht, hd, htk, hel, cI_get, Nat.reduceMul]; rfl) ?_ | ((first | (apply AWpA.region; (focus (simp (maxSteps := 9999999) (disch := omega) only [go_sem, cI_ren, bA_ren, hc, hl, ht, hd, htk, hel, cI_get, Nat.reduceMul]; rfl))) | (apply AWpA.draw [] follows; (focus (simp (maxSteps := 9999999) (disch := omega) only [go_sem, cI_ren, bA_ren, hc, hl, ht, hd, htk, hel, cI_get, Nat.reduceMul]; rfl)); (focus (simp (maxSteps := 9999999) (disch := omega) only [go_sem, cI_ren, bA_ren, hc, hl, ht, hd, htk, hel, cI_get, Nat.reduceMul]; first | done | trivial)); (focus (simp (maxSteps := 9999999) (disch := omega) only [go_sem, cI_ren, bA_ren, hc, hl, ht, hd, htk, hel, cI_get, Nat.reduceMul]; rfl))) | (apply TailK.go; (focus (simp (maxSteps := 9999999) (disch := omega) only [go_sem, cI_ren, bA_ren, hc, hl, ht, hd, htk, hel, cI_get, Nat.reduceMul]; rfl))) | refine AWpA.skip ?_ | refine AWpA.exit ?_ | refine AWpA.ret ?_ | (with_reducible refine ARoundsA.succ ?_) | ((first | refine Runs.kt (by assumption) (fun h9 => ?_) | refine Runs.kf (by assumption) (fun h9 => ?_) | refine Runs.nt (by assumption) (fun h9 => ?_) | refine Runs.nf (by assumption) (fun h9 => ?_) | refine CondP.ht (by assumption) (fun h9 => ?_) | refine CondP.hf (by assumption) (fun h9 => ?_) | refine CondP.nt (by assumption) (fun h9 => ?_) | refine CondP.nf (by assumption) (fun h9 => ?_)); (try simp only [h9]); clear h9) | ((first | (with_reducible apply CallG.plain1 [] (speaks13_any)) | (with_reducible apply CallG.plain1 [] (hr)) | (with_reducible apply CallG.plain1 [] (h16)) | (with_reducible apply CallG.plain1 [] (c1)) | (with_reducible apply CallG.plain1 [] (c2)) | (with_reducible apply CallG.plain1 [96] (c3)) | (with_reducible apply CallG.draw1 [] (speaks13_any)) | (with_reducible apply CallG.draw1 [] (hr)) | (with_reducible apply CallG.draw1 [] (h16)) | (with_reducible apply CallG.draw1 [] (c1)) | (with_reducible apply CallG.draw1 [] (c2)) | (with_reducible apply CallG.draw1 [96] (c3))); (focus ((try refine And.intro (leAs_of_eq rfl) ?_); (try refine And.intro (leOL_of_eq rfl) ?_); simp (maxSteps := 9999999) (disch := omega) only [go_sem, cI_ren, bA_ren, hc, hl, ht, hd, htk, hel, cI_get, Nat.reduceMul]; first | done | (repeat' (first | rfl | (refine And.intro ?_ ?_))))); (focus (simp (maxSteps := 9999999) (disch := omega) only [go_sem, cI_ren, bA_ren, hc, hl, ht, hd, htk, hel, cI_get, Nat.reduceMul]; rfl)))); (try simp (maxSteps := 9999999) (disch := omega) only [go_sem, cI_ren, bA_ren, hc, hl, ht, hd, htk, hel, cI_get, Nat.reduceMul]); (try (refine And.intro ?_ ?_; (focus (first | omega | (simp only [go_sem]; done) | (simp; done) | (simp; omega) | assumption))))) | ((first | refine CondP.split (fun hif => ?_) (fun hif => ?_) | refine Runs.part (fun hif => ?_) (fun hif => ?_)) <;> ((try simp only [hif]); (try simp only [decide_eq_true_eq, decide_eq_false_iff_not, Bool.not_eq_true, Bool.not_eq_false, Bool.not_eq_true', Bool.not_eq_false', beq_iff_eq, bne_iff_ne, bne_eq_false_iff_eq, beq_eq_false_iff_ne, ne_eq, Bool.and_eq_true, Bool.or_eq_true, Bool.or_eq_false_iff] at hif); (try (have h9 : _ = true := hif; simp only [h9])); (try (have h9 : _ = false := hif; simp only [h9])); (try simp (maxSteps := 9999999) (disch := omega) only [go_sem, cI_ren, bA_ren, hc, hl, ht, hd, htk, hel, cI_get, Nat.reduceMul]); (try (refine And.intro ?_ ?_; (focus (first | omega | (simp only [go_sem]; done) | (simp; done) | (simp; omega) | assumption)))); (try (exfalso; omega; done))))))
    all_goals (refine TopPost.of (by first | exact .inl rfl | exact .inr rfl) (by (try simp (maxSteps := 9999999) (disch := omega) only [go_sem]); rfl) ?_; (try simp (maxSteps := 9999999) (disch := omega) only [go_sem]); (try (first | trivial | decide | (simp; done))))
end Go.Proofs.Ytkdikmfnchmphaa
