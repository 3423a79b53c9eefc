/- Contracts: List, Of, spans. -/
import Derived.Test.YtkdikmfnchmphaaAs1
namespace Go.Proofs.Ytkdikmfnchmphaa
set_option linter.unusedSimpArgs false
set_option linter.unusedVariables false
set_option maxHeartbeats 4000000
open Go Go.Am Go.RowKit Go.Setup
set_option maxRecDepth 100000
/- quidnunc/setup.List -/
noncomputable def c33_1 : ACode := .region false [⟨some 1, .box 0, [.t 0], none⟩,
  ⟨some 2, .alloc (List.replicate 20 (.int .i64 0)), [], none⟩] [] [] [1, 2] true [] []
noncomputable def c33_3 : ACode := .region false [⟨some 3, .alloc (List.replicate 20 (.int .i64 0)), [], none⟩] [] [] [1, 2, 3] true [] []
noncomputable def c33_6 : ACode := .region false [⟨some 6, .call 68, [.t 1], none⟩,
  ⟨some 7, .move, [.c (.val (.int .i64 0))], none⟩] [] [] [2, 3, 6, 7] true [] []
noncomputable def c33_10 : ACode := .region false [⟨some 8, .bin .lss, [.t 7, .c (.val (.int .i64 20))], none⟩] [] [] [2, 3, 6, 7, 8] false [] []
noncomputable def c33_12 : ACode := .cond (.t 8) .skip (.exit 0)
noncomputable def c33_16 : ACode := .region false [⟨some 9, .move, [.t 7], none⟩,
  ⟨some 10, .ixV false 20 1, [.t 6, .t 7], none⟩,
  ⟨some 4, .move, [.t 9], none⟩,
  ⟨some 5, .move, [.t 10], none⟩] [] [] [2, 3, 4, 5, 6, 7] false [] []
noncomputable def c33_17 : ACode := .region false [⟨some 11, .move, [.t 4], none⟩,
  ⟨some 12, .move, [.t 5], none⟩,
  ⟨some 13, .nilChk, [.t 12], none⟩,
  ⟨some 14, .load false 1, [.t 13], none⟩,
  ⟨some 15, .ixA 20 1, [.t 3, .t 11], none⟩,
  ⟨none, .store 1, [.t 15, .t 14], none⟩] [] [] [2, 3, 6, 7] true [] []
noncomputable def c33_15 : ACode := .seq c33_16 c33_17
noncomputable def c33_14 : ACode := .block 1 c33_15
noncomputable def c33_18 : ACode := .region false [⟨some 16, .bin .add, [.t 7, .c (.val (.int .i64 1))], none⟩,
  ⟨some 7, .move, [.t 16], none⟩] [] [] [2, 3, 6, 7] false [] []
noncomputable def c33_13 : ACode := .seq c33_14 c33_18
noncomputable def c33_11 : ACode := .seq c33_12 c33_13
noncomputable def c33_9 : ACode := .seq c33_10 c33_11
noncomputable def c33_8 : ACode := .loop c33_9
noncomputable def c33_7 : ACode := .block 0 c33_8
noncomputable def c33_5 : ACode := .seq c33_6 c33_7
noncomputable def c33_20 : ACode := .region false [⟨some 17, .load true 20, [.t 3], none⟩,
  ⟨none, .store 20, [.t 2, .t 17], none⟩] [] [] [2] true [] []
noncomputable def c33_19 : ACode := .seq c33_20 .ret
noncomputable def c33_4 : ACode := .seq c33_5 c33_19
noncomputable def c33_2 : ACode := .seq c33_3 c33_4
noncomputable def c33_0 : ACode := .seq c33_1 c33_2
noncomputable def code33 : Code := (Try.f33.body).getD .skip
theorem c33_ok : compC Try.prog 18 code33 = some (strip c33_0) := by kernel_rfl
theorem res33_ok : Try.f33.results.toList.mapM (resC Try.prog) = some [(2, some (true, 20))] := by kernel_rfl
/- quidnunc/setup.Of -/
noncomputable def c35_1 : ACode := .region false [⟨some 1, .box 0, [.t 0], none⟩,
  ⟨some 2, .alloc (List.replicate 20 (.int .i64 0)), [], none⟩] [] [] [1, 2] true [] []
noncomputable def c35_3 : ACode := .region false [⟨some 3, .alloc (List.replicate 20 (.int .i64 0)), [], none⟩] [] [] [1, 2, 3] true [] []
noncomputable def c35_6 : ACode := .region false [⟨some 6, .call 68, [.t 3], none⟩,
  ⟨some 7, .move, [.c (.val (.int .i64 0))], none⟩] [] [] [1, 2, 3, 6, 7] true [] []
noncomputable def c35_10 : ACode := .region false [⟨some 8, .bin .lss, [.t 7, .c (.val (.int .i64 20))], none⟩] [] [] [1, 2, 3, 6, 7, 8] false [] []
noncomputable def c35_12 : ACode := .cond (.t 8) .skip (.exit 0)
noncomputable def c35_16 : ACode := .region false [⟨some 9, .move, [.t 7], none⟩,
  ⟨some 10, .ixV false 20 1, [.t 6, .t 7], none⟩,
  ⟨some 4, .move, [.t 9], none⟩,
  ⟨some 5, .move, [.t 10], none⟩] [] [] [1, 2, 3, 4, 5, 6, 7] false [] []
noncomputable def c35_17 : ACode := .region false [⟨some 11, .move, [.t 5], none⟩,
  ⟨some 12, .move, [.t 4], none⟩,
  ⟨some 13, .ixA 20 1, [.t 1, .t 12], none⟩,
  ⟨some 14, .load false 1, [.t 13], none⟩,
  ⟨some 15, .nilChk, [.t 11], none⟩,
  ⟨none, .store 1, [.t 15, .t 14], none⟩] [] [] [1, 2, 3, 6, 7] true [] []
noncomputable def c35_15 : ACode := .seq c35_16 c35_17
noncomputable def c35_14 : ACode := .block 1 c35_15
noncomputable def c35_18 : ACode := .region false [⟨some 16, .bin .add, [.t 7, .c (.val (.int .i64 1))], none⟩,
  ⟨some 7, .move, [.t 16], none⟩] [] [] [1, 2, 3, 6, 7] false [] []
noncomputable def c35_13 : ACode := .seq c35_14 c35_18
noncomputable def c35_11 : ACode := .seq c35_12 c35_13
noncomputable def c35_9 : ACode := .seq c35_10 c35_11
noncomputable def c35_8 : ACode := .loop c35_9
noncomputable def c35_7 : ACode := .block 0 c35_8
noncomputable def c35_5 : ACode := .seq c35_6 c35_7
noncomputable def c35_20 : ACode := .region false [⟨some 17, .load true 20, [.t 3], none⟩,
  ⟨none, .store 20, [.t 2, .t 17], none⟩] [] [] [2] true [] []
noncomputable def c35_19 : ACode := .seq c35_20 .ret
noncomputable def c35_4 : ACode := .seq c35_5 c35_19
noncomputable def c35_2 : ACode := .seq c35_3 c35_4
noncomputable def c35_0 : ACode := .seq c35_1 c35_2
noncomputable def code35 : Code := (Try.f35.body).getD .skip
theorem c35_ok : compC Try.prog 18 code35 = some (strip c35_0) := by kernel_rfl
theorem res35_ok : Try.f35.results.toList.mapM (resC Try.prog) = some [(2, some (true, 20))] := by kernel_rfl
/- quidnunc/setup.spans -/
noncomputable def c69_1 : ACode := .region false [⟨some 1, .box 0, [.t 0], none⟩,
  ⟨some 2, .alloc (List.replicate 40 (.int .i64 0)), [], none⟩] [] [] [1, 2] true [] []
noncomputable def c69_3 : ACode := .region false [⟨some 4, .build [(.int .i64 0), (.int .i64 0)] [(0, 1), (1, 1)], [.c (.val (.int .i64 0)), .c (.val (.int .i64 0))], none⟩,
  ⟨some 3, .alloc [(.int .i64 0), (.int .i64 0)], [], none⟩,
  ⟨none, .store 2, [.t 3, .t 4], none⟩] [] [] [1, 2, 3] true [] []
noncomputable def c69_6 : ACode := .region false [⟨some 5, .addr 3, [.t 1], none⟩,
  ⟨some 6, .load false 1, [.t 5], none⟩,
  ⟨some 7, .bin .neq, [.t 6, .c (.val (.int .i64 0))], none⟩] [] [] [1, 2, 3, 7] false [] []
noncomputable def c69_8 : ACode := .region false [⟨some 8, .addr 3, [.t 1], none⟩,
  ⟨some 9, .load false 1, [.t 8], none⟩,
  ⟨some 10, .build [(.int .i64 0), (.int .i64 0)] [(0, 1), (1, 1)], [.t 9, .c (.val (.int .i64 2147483647))], none⟩,
  ⟨none, .store 2, [.t 3, .t 10], none⟩] [] [] [1, 2, 3] true [] []
noncomputable def c69_7 : ACode := .cond (.t 7) c69_8 .skip
noncomputable def c69_5 : ACode := .seq c69_6 c69_7
noncomputable def c69_10 : ACode := .region false [⟨some 11, .build [(.int .i64 0), (.int .i64 0)] [(0, 1), (1, 1)], [.c (.val (.int .i64 2)), .c (.val (.int .i64 12))], none⟩,
  ⟨some 12, .build [(.int .i64 0), (.int .i64 0)] [(0, 1), (1, 1)], [.c (.val (.int .i64 1)), .c (.val (.int .i64 16))], none⟩,
  ⟨some 13, .addr 0, [.t 1], none⟩,
  ⟨some 14, .load false 1, [.t 13], none⟩,
  ⟨some 15, .build [(.int .i64 0), (.int .i64 0)] [(0, 1), (1, 1)], [.c (.val (.int .i64 1)), .t 14], none⟩,
  ⟨some 16, .build [(.int .i64 0), (.int .i64 0)] [(0, 1), (1, 1)], [.c (.val (.int .i64 0)), .c (.val (.int .i64 2147483647))], none⟩,
  ⟨some 17, .load true 2, [.t 3], none⟩,
  ⟨some 18, .build [(.int .i64 0), (.int .i64 0)] [(0, 1), (1, 1)], [.c (.val (.int .i64 1)), .c (.val (.int .i64 6))], none⟩,
  ⟨some 19, .build [(.int .i64 0), (.int .i64 0)] [(0, 1), (1, 1)], [.c (.val (.int .i64 1)), .c (.val (.int .i64 11))], none⟩,
  ⟨some 20, .build [(.int .i64 0), (.int .i64 0)] [(0, 1), (1, 1)], [.c (.val (.int .i64 1)), .c (.val (.int .i64 8))], none⟩,
  ⟨some 21, .addr 7, [.t 1], none⟩,
  ⟨some 22, .load false 1, [.t 21], none⟩,
  ⟨some 23, .build [(.int .i64 0), (.int .i64 0)] [(0, 1), (1, 1)], [.c (.val (.int .i64 0)), .t 22], none⟩,
  ⟨some 24, .build [(.int .i64 0), (.int .i64 0)] [(0, 1), (1, 1)], [.c (.val (.int .i64 1)), .c (.val (.int .i64 8))], none⟩,
  ⟨some 25, .build [(.int .i64 0), (.int .i64 0)] [(0, 1), (1, 1)], [.c (.val (.int .i64 1)), .c (.val (.int .i64 16))], none⟩,
  ⟨some 26, .addr 10, [.t 1], none⟩,
  ⟨some 27, .load false 1, [.t 26], none⟩,
  ⟨some 28, .build [(.int .i64 0), (.int .i64 0)] [(0, 1), (1, 1)], [.t 27, .c (.val (.int .i64 64))], none⟩,
  ⟨some 29, .build [(.int .i64 0), (.int .i64 0)] [(0, 1), (1, 1)], [.c (.val (.int .i64 1)), .c (.val (.int .i64 64))], none⟩,
  ⟨some 30, .build [(.int .i64 0), (.int .i64 0)] [(0, 1), (1, 1)], [.c (.val (.int .i64 1)), .c (.val (.int .i64 16))], none⟩,
  ⟨some 31, .build [(.int .i64 0), (.int .i64 0)] [(0, 1), (1, 1)], [.c (.val (.int .i64 1)), .c (.val (.int .i64 16))], none⟩,
  ⟨some 32, .build [(.int .i64 0), (.int .i64 0)] [(0, 1), (1, 1)], [.c (.val (.int .i64 1)), .c (.val (.int .i64 8))], none⟩,
  ⟨some 33, .build [(.int .i64 0), (.int .i64 0)] [(0, 1), (1, 1)], [.c (.val (.int .i64 0)), .c (.val (.int .i64 1))], none⟩,
  ⟨some 34, .build [(.int .i64 0), (.int .i64 0)] [(0, 1), (1, 1)], [.c (.val (.int .i64 1)), .c (.val (.int .i64 8))], none⟩,
  ⟨some 35, .build [(.int .i64 0), (.int .i64 0)] [(0, 1), (1, 1)], [.c (.val (.int .i64 1)), .c (.val (.int .i64 8))], none⟩,
  ⟨some 36, .build [(.int .i64 0), (.int .i64 0)] [(0, 1), (1, 1)], [.c (.val (.int .i64 1)), .c (.val (.int .i64 512))], none⟩,
  ⟨some 37, .build (List.replicate 40 (.int .i64 0)) [(0, 2), (2, 2), (4, 2), (6, 2), (8, 2), (10, 2), (12, 2), (14, 2), (16, 2), (18, 2), (20, 2), (22, 2), (24, 2), (26, 2), (28, 2), (30, 2), (32, 2), (34, 2), (36, 2), (38, 2)], [.t 11, .t 12, .t 15, .t 16, .t 17, .t 18, .t 19, .t 20, .t 23, .t 24, .t 25, .t 28, .t 29, .t 30, .t 31, .t 32, .t 33, .t 34, .t 35, .t 36], none⟩,
  ⟨none, .store 40, [.t 2, .t 37], none⟩] [] [] [2] true [] []
noncomputable def c69_9 : ACode := .seq c69_10 .ret
noncomputable def c69_4 : ACode := .seq c69_5 c69_9
noncomputable def c69_2 : ACode := .seq c69_3 c69_4
noncomputable def c69_0 : ACode := .seq c69_1 c69_2
noncomputable def code69 : Code := (Try.f69.body).getD .skip
theorem c69_ok : compC Try.prog 38 code69 = some (strip c69_0) := by kernel_rfl
theorem res69_ok : Try.f69.results.toList.mapM (resC Try.prog) = some [(2, some (true, 40))] := by kernel_rfl
theorem pts_ren (ρ : List Nat) (id : Nat) : renL ρ (pts id) = (match ρ[id]? with | some j => pts j | none => List.replicate 20 .bad) := by
  rw [pts_lit]
  cases h : ρ[id]? with
  | none => simp [renL, ren, h]
  | some j => simp [renL, ren, h, pts_lit]
theorem cI_drop {m : List Int} (h : m.length = 20) : (cI m).drop 20 = [] := List.drop_of_length_le (by rw [cI_len]; omega)
theorem list_any (l : List Int) (hl : l.length = 20) : ACall Try.prog 33 [.agg (cI l)] [] (Det (.agg (cI l)) []) := by
  have hc := cI_len l
  have ht := cI_take hl
  have hz := cI_zero
  rw [← pre_zero l] at hz
  have hz2 := cI_drop (pre_len hl (Nat.zero_le 20))
  have hq0 : (cI (pre l 0)).length = 20 := by rw [cI_len]; exact pre_len hl (by omega)
  refine ACall.startA c33_ok Try.func33 rfl Try.ntmps33 (by kernel_rfl) res33_ok rfl rfl rfl ?_; simp (maxSteps := 9999999) (disch := omega) only [go_sem]
  (repeat' (first | refine AWpA.seq ?_ | refine AWpA.block ?_ | (with_reducible refine CondP.tt ?_) | (with_reducible refine CondP.ff ?_) | refine AWpA.condv (by simp (maxSteps := 9999999) (disch := omega) only [go_sem, cI_ren, hc, ht, pts_ren, hz.symm]; rfl) ?_ | ((first | (apply AWpA.region; (focus (simp (maxSteps := 9999999) (disch := omega) only [go_sem, cI_ren, hc, ht, pts_ren, hz.symm]; rfl))) | (apply AWpA.draw [] follows; (focus (simp (maxSteps := 9999999) (disch := omega) only [go_sem, cI_ren, hc, ht, pts_ren, hz.symm]; rfl)); (focus (simp (maxSteps := 9999999) (disch := omega) only [go_sem, cI_ren, hc, ht, pts_ren, hz.symm]; first | done | trivial)); (focus (simp (maxSteps := 9999999) (disch := omega) only [go_sem, cI_ren, hc, ht, pts_ren, hz.symm]; rfl))) | (apply TailK.go; (focus (simp (maxSteps := 9999999) (disch := omega) only [go_sem, cI_ren, hc, ht, pts_ren, hz.symm]; rfl))) | refine AWpA.skip ?_ | refine AWpA.exit ?_ | refine AWpA.ret ?_ | (with_reducible refine ARoundsA.succ ?_) | ((first | refine Runs.kt (by assumption) (fun h9 => ?_) | refine Runs.kf (by assumption) (fun h9 => ?_) | refine Runs.nt (by assumption) (fun h9 => ?_) | refine Runs.nf (by assumption) (fun h9 => ?_) | refine CondP.ht (by assumption) (fun h9 => ?_) | refine CondP.hf (by assumption) (fun h9 => ?_) | refine CondP.nt (by assumption) (fun h9 => ?_) | refine CondP.nf (by assumption) (fun h9 => ?_)); (try simp only [h9]); clear h9) | ((first | (with_reducible apply CallG.plain1 [0] (places_any l)) | (with_reducible apply CallG.draw1 [0] (places_any l))); (focus ((try refine And.intro (leAs_of_eq rfl) ?_); (try refine And.intro (leOL_of_eq rfl) ?_); simp (maxSteps := 9999999) (disch := omega) only [go_sem, cI_ren, hc, ht, pts_ren, hz.symm]; first | done | (repeat' (first | rfl | (refine And.intro ?_ ?_))))); (focus (simp (maxSteps := 9999999) (disch := omega) only [go_sem, cI_ren, hc, ht, pts_ren, hz.symm]; rfl)))); (try simp (maxSteps := 9999999) (disch := omega) only [go_sem, cI_ren, hc, ht, pts_ren, hz.symm]); (try (refine And.intro ?_ ?_; (focus (first | omega | (simp only [go_sem]; done) | (simp; done) | (simp; omega) | assumption))))) | ((first | refine CondP.split (fun hif => ?_) (fun hif => ?_) | refine Runs.part (fun hif => ?_) (fun hif => ?_)) <;> ((try simp only [hif]); (try simp only [decide_eq_true_eq, decide_eq_false_iff_not, Bool.not_eq_true, Bool.not_eq_false, Bool.not_eq_true', Bool.not_eq_false', beq_iff_eq, bne_iff_ne, bne_eq_false_iff_eq, beq_eq_false_iff_ne, ne_eq, Bool.and_eq_true, Bool.or_eq_true, Bool.or_eq_false_iff] at hif); (try (have h9 : _ = true := hif; simp only [h9])); (try (have h9 : _ = false := hif; simp only [h9])); (try simp (maxSteps := 9999999) (disch := omega) only [go_sem, cI_ren, hc, ht, pts_ren, hz.symm]); (try (refine And.intro ?_ ?_; (focus (first | omega | (simp only [go_sem]; done) | (simp; done) | (simp; omega) | assumption)))); (try (exfalso; omega; done))))))
  (apply AWpA.loopL (fun i : Nat => [(2, .ptr 2 0), (3, .ptr 1 0), (6, .agg (pts 0)), (7, I i)]) (fun i => [.cells false (cI l), .cells false (cI (pre l i)), .cells false (cI (pre l 0))]) (fun i => 20 - i) (fun i => i ≤ 20) (0) [0, 32, 16]; rotate_left; (focus (simp (maxSteps := 9999999) (disch := omega) only [go_sem, cI_ren, pts_ren]; (try (repeat' (first | done | trivial | rfl | exact leAs_rfl _ | decide | (refine And.intro ?_ ?_) | (simp; done) | omega | (simp; decide)))))); rotate_right)
  · exact Nat.zero_le _
  rintro i hi
  (try simp only at hi)
  have hp := pre_len hl hi
  have hp2 := cI_len (pre l i)
  by_cases hin : i < 20
  · have g1 : ((i : Int) < 20) = True := eq_true (by omega)
    have g2 := pts_get (id := 0) hin
    have g3 := cI_get (l := l) (k := i) (by omega)
    have g4 := cI_put (pre l i) i (l.getD i 0) (by omega)
    rw [pre_set hl hin] at g4
    have g5 := pts_len 0
    (try simp (maxSteps := 9999999) (disch := omega) only [go_sem])
    (repeat' (first | refine AWpA.seq ?_ | refine AWpA.block ?_ | (with_reducible refine CondP.tt ?_) | (with_reducible refine CondP.ff ?_) | refine AWpA.condv (by simp (maxSteps := 9999999) (disch := omega) only [go_sem, g1, g2, g3, g5, cI_ren, hc, hp2, hp, hl, pts_ren]; rfl) ?_ | ((first | (apply AWpA.region; (focus (simp (maxSteps := 9999999) (disch := omega) only [go_sem, g1, g2, g3, g5, cI_ren, hc, hp2, hp, hl, pts_ren]; rfl))) | (apply AWpA.draw [] follows; (focus (simp (maxSteps := 9999999) (disch := omega) only [go_sem, g1, g2, g3, g5, cI_ren, hc, hp2, hp, hl, pts_ren]; rfl)); (focus (simp (maxSteps := 9999999) (disch := omega) only [go_sem, g1, g2, g3, g5, cI_ren, hc, hp2, hp, hl, pts_ren]; first | done | trivial)); (focus (simp (maxSteps := 9999999) (disch := omega) only [go_sem, g1, g2, g3, g5, cI_ren, hc, hp2, hp, hl, pts_ren]; rfl))) | (apply TailK.go; (focus (simp (maxSteps := 9999999) (disch := omega) only [go_sem, g1, g2, g3, g5, cI_ren, hc, hp2, hp, hl, pts_ren]; rfl))) | refine AWpA.skip ?_ | refine AWpA.exit ?_ | refine AWpA.ret ?_ | (with_reducible refine ARoundsA.succ ?_) | ((first | refine Runs.kt (by assumption) (fun h9 => ?_) | refine Runs.kf (by assumption) (fun h9 => ?_) | refine Runs.nt (by assumption) (fun h9 => ?_) | refine Runs.nf (by assumption) (fun h9 => ?_) | refine CondP.ht (by assumption) (fun h9 => ?_) | refine CondP.hf (by assumption) (fun h9 => ?_) | refine CondP.nt (by assumption) (fun h9 => ?_) | refine CondP.nf (by assumption) (fun h9 => ?_)); (try simp only [h9]); clear h9)); (try simp (maxSteps := 9999999) (disch := omega) only [go_sem, g1, g2, g3, g5, cI_ren, hc, hp2, hp, hl, pts_ren]); (try (refine And.intro ?_ ?_; (focus (first | omega | (simp only [go_sem]; done) | (simp; done) | (simp; omega) | assumption))))) | ((first | refine CondP.split (fun hif => ?_) (fun hif => ?_) | refine Runs.part (fun hif => ?_) (fun hif => ?_)) <;> ((try simp only [hif]); (try simp only [decide_eq_true_eq, decide_eq_false_iff_not, Bool.not_eq_true, Bool.not_eq_false, Bool.not_eq_true', Bool.not_eq_false', beq_iff_eq, bne_iff_ne, bne_eq_false_iff_eq, beq_eq_false_iff_ne, ne_eq, Bool.and_eq_true, Bool.or_eq_true, Bool.or_eq_false_iff] at hif); (try (have h9 : _ = true := hif; simp only [h9])); (try (have h9 : _ = false := hif; simp only [h9])); (try simp (maxSteps := 9999999) (disch := omega) only [go_sem, g1, g2, g3, g5, cI_ren, hc, hp2, hp, hl, pts_ren]); (try (refine And.intro ?_ ?_; (focus (first | omega | (simp only [go_sem]; done) | (simp; done) | (simp; omega) | assumption)))); (try (exfalso; omega; done))))))
    (apply Back.to (i + 1) [0, 1, 2]; (focus ((try simp (maxSteps := 9999999) (disch := omega) only [go_sem, g4, cI_ren, pts_ren]); first | done | omega)); rotate_left; (focus (simp (maxSteps := 9999999) (disch := omega) only [go_sem, g4, cI_ren, pts_ren]; (try (repeat' (first | done | trivial | rfl | exact leAs_rfl _ | decide | (refine And.intro ?_ ?_) | (simp; done) | omega | (simp; decide)))))))
    omega
  · obtain rfl : i = 20 := by omega
    rw [pre_all hl]
    (try simp (maxSteps := 9999999) (disch := omega) only [go_sem])
    (repeat' (first | refine AWpA.seq ?_ | refine AWpA.block ?_ | (with_reducible refine CondP.tt ?_) | (with_reducible refine CondP.ff ?_) | refine AWpA.condv (by simp (maxSteps := 9999999) (disch := omega) only [go_sem, cI_ren, ht, hz2, hc, hl, hq0]; rfl) ?_ | ((first | (apply AWpA.region; (focus (simp (maxSteps := 9999999) (disch := omega) only [go_sem, cI_ren, ht, hz2, hc, hl, hq0]; rfl))) | (apply AWpA.draw [] follows; (focus (simp (maxSteps := 9999999) (disch := omega) only [go_sem, cI_ren, ht, hz2, hc, hl, hq0]; rfl)); (focus (simp (maxSteps := 9999999) (disch := omega) only [go_sem, cI_ren, ht, hz2, hc, hl, hq0]; first | done | trivial)); (focus (simp (maxSteps := 9999999) (disch := omega) only [go_sem, cI_ren, ht, hz2, hc, hl, hq0]; rfl))) | (apply TailK.go; (focus (simp (maxSteps := 9999999) (disch := omega) only [go_sem, cI_ren, ht, hz2, hc, hl, hq0]; rfl))) | refine AWpA.skip ?_ | refine AWpA.exit ?_ | refine AWpA.ret ?_ | (with_reducible refine ARoundsA.succ ?_) | ((first | refine Runs.kt (by assumption) (fun h9 => ?_) | refine Runs.kf (by assumption) (fun h9 => ?_) | refine Runs.nt (by assumption) (fun h9 => ?_) | refine Runs.nf (by assumption) (fun h9 => ?_) | refine CondP.ht (by assumption) (fun h9 => ?_) | refine CondP.hf (by assumption) (fun h9 => ?_) | refine CondP.nt (by assumption) (fun h9 => ?_) | refine CondP.nf (by assumption) (fun h9 => ?_)); (try simp only [h9]); clear h9)); (try simp (maxSteps := 9999999) (disch := omega) only [go_sem, cI_ren, ht, hz2, hc, hl, hq0]); (try (refine And.intro ?_ ?_; (focus (first | omega | (simp only [go_sem]; done) | (simp; done) | (simp; omega) | assumption))))) | ((first | refine CondP.split (fun hif => ?_) (fun hif => ?_) | refine Runs.part (fun hif => ?_) (fun hif => ?_)) <;> ((try simp only [hif]); (try simp only [decide_eq_true_eq, decide_eq_false_iff_not, Bool.not_eq_true, Bool.not_eq_false, Bool.not_eq_true', Bool.not_eq_false', beq_iff_eq, bne_iff_ne, bne_eq_false_iff_eq, beq_eq_false_iff_ne, ne_eq, Bool.and_eq_true, Bool.or_eq_true, Bool.or_eq_false_iff] at hif); (try (have h9 : _ = true := hif; simp only [h9])); (try (have h9 : _ = false := hif; simp only [h9])); (try simp (maxSteps := 9999999) (disch := omega) only [go_sem, cI_ren, ht, hz2, hc, hl, hq0]); (try (refine And.intro ?_ ?_; (focus (first | omega | (simp only [go_sem]; done) | (simp; done) | (simp; omega) | assumption)))); (try (exfalso; omega; done))))))
    (apply Ret.det []; (focus (first | exact .inl rfl | exact .inr rfl)); (focus (simp (maxSteps := 9999999) (disch := omega) only [go_sem, cI_ren, ht, hc, hl]; rfl)); (simp (maxSteps := 9999999) (disch := omega) only [go_sem, cI_ren, ht, hc, hl]; (try (repeat' (first | done | trivial | rfl | exact leAs_rfl _ | decide | (refine And.intro ?_ ?_) | (simp; done) | omega | (simp; decide))))))
theorem of_any (l : List Int) (hl : l.length = 20) : ACall Try.prog 35 [.agg (cI l)] [] (Det (.agg (cI l)) []) := by
  have hc := cI_len l
  have ht := cI_take hl
  have hz := cI_zero
  rw [← pre_zero l] at hz
  have hz2 := cI_drop (pre_len hl (Nat.zero_le 20))
  have hq0 : (cI (pre l 0)).length = 20 := by rw [cI_len]; exact pre_len hl (by omega)
  refine ACall.startA c35_ok Try.func35 rfl Try.ntmps35 (by kernel_rfl) res35_ok rfl rfl rfl ?_; simp (maxSteps := 9999999) (disch := omega) only [go_sem]
  (repeat' (first | refine AWpA.seq ?_ | refine AWpA.block ?_ | (with_reducible refine CondP.tt ?_) | (with_reducible refine CondP.ff ?_) | refine AWpA.condv (by simp (maxSteps := 9999999) (disch := omega) only [go_sem, cI_ren, hc, ht, pts_ren, hz.symm]; rfl) ?_ | ((first | (apply AWpA.region; (focus (simp (maxSteps := 9999999) (disch := omega) only [go_sem, cI_ren, hc, ht, pts_ren, hz.symm]; rfl))) | (apply AWpA.draw [] follows; (focus (simp (maxSteps := 9999999) (disch := omega) only [go_sem, cI_ren, hc, ht, pts_ren, hz.symm]; rfl)); (focus (simp (maxSteps := 9999999) (disch := omega) only [go_sem, cI_ren, hc, ht, pts_ren, hz.symm]; first | done | trivial)); (focus (simp (maxSteps := 9999999) (disch := omega) only [go_sem, cI_ren, hc, ht, pts_ren, hz.symm]; rfl))) | (apply TailK.go; (focus (simp (maxSteps := 9999999) (disch := omega) only [go_sem, cI_ren, hc, ht, pts_ren, hz.symm]; rfl))) | refine AWpA.skip ?_ | refine AWpA.exit ?_ | refine AWpA.ret ?_ | (with_reducible refine ARoundsA.succ ?_) | ((first | refine Runs.kt (by assumption) (fun h9 => ?_) | refine Runs.kf (by assumption) (fun h9 => ?_) | refine Runs.nt (by assumption) (fun h9 => ?_) | refine Runs.nf (by assumption) (fun h9 => ?_) | refine CondP.ht (by assumption) (fun h9 => ?_) | refine CondP.hf (by assumption) (fun h9 => ?_) | refine CondP.nt (by assumption) (fun h9 => ?_) | refine CondP.nf (by assumption) (fun h9 => ?_)); (try simp only [h9]); clear h9) | ((first | (with_reducible apply CallG.plain1 [32] (places_any (pre l 0))) | (with_reducible apply CallG.draw1 [32] (places_any (pre l 0)))); (focus ((try refine And.intro (leAs_of_eq rfl) ?_); (try refine And.intro (leOL_of_eq rfl) ?_); simp (maxSteps := 9999999) (disch := omega) only [go_sem, cI_ren, hc, ht, pts_ren, hz.symm]; first | done | (repeat' (first | rfl | (refine And.intro ?_ ?_))))); (focus (simp (maxSteps := 9999999) (disch := omega) only [go_sem, cI_ren, hc, ht, pts_ren, hz.symm]; rfl)))); (try simp (maxSteps := 9999999) (disch := omega) only [go_sem, cI_ren, hc, ht, pts_ren, hz.symm]); (try (refine And.intro ?_ ?_; (focus (first | omega | (simp only [go_sem]; done) | (simp; done) | (simp; omega) | assumption))))) | ((first | refine CondP.split (fun hif => ?_) (fun hif => ?_) | refine Runs.part (fun hif => ?_) (fun hif => ?_)) <;> ((try simp only [hif]); (try simp only [decide_eq_true_eq, decide_eq_false_iff_not, Bool.not_eq_true, Bool.not_eq_false, Bool.not_eq_true', Bool.not_eq_false', beq_iff_eq, bne_iff_ne, bne_eq_false_iff_eq, beq_eq_false_iff_ne, ne_eq, Bool.and_eq_true, Bool.or_eq_true, Bool.or_eq_false_iff] at hif); (try (have h9 : _ = true := hif; simp only [h9])); (try (have h9 : _ = false := hif; simp only [h9])); (try simp (maxSteps := 9999999) (disch := omega) only [go_sem, cI_ren, hc, ht, pts_ren, hz.symm]); (try (refine And.intro ?_ ?_; (focus (first | omega | (simp only [go_sem]; done) | (simp; done) | (simp; omega) | assumption)))); (try (exfalso; omega; done))))))
  (apply AWpA.loopL (fun i : Nat => [(1, .ptr 0 0), (2, .ptr 2 0), (3, .ptr 1 0), (6, .agg (pts 1)), (7, I i)]) (fun i => [.cells false (cI l), .cells false (cI (pre l i)), .cells false (cI (pre l 0))]) (fun i => 20 - i) (fun i => i ≤ 20) (0) [0, 32, 16]; rotate_left; (focus (simp (maxSteps := 9999999) (disch := omega) only [go_sem, cI_ren, pts_ren]; (try (repeat' (first | done | trivial | rfl | exact leAs_rfl _ | decide | (refine And.intro ?_ ?_) | (simp; done) | omega | (simp; decide)))))); rotate_right)
  · exact Nat.zero_le _
  rintro i hi
  (try simp only at hi)
  have hp := pre_len hl hi
  have hp2 := cI_len (pre l i)
  by_cases hin : i < 20
  · have g1 : ((i : Int) < 20) = True := eq_true (by omega)
    have g2 := pts_get (id := 1) hin
    have g3 := cI_get (l := l) (k := i) (by omega)
    have g4 := cI_put (pre l i) i (l.getD i 0) (by omega)
    rw [pre_set hl hin] at g4
    have g5 := pts_len 1
    (try simp (maxSteps := 9999999) (disch := omega) only [go_sem])
    (repeat' (first | refine AWpA.seq ?_ | refine AWpA.block ?_ | (with_reducible refine CondP.tt ?_) | (with_reducible refine CondP.ff ?_) | refine AWpA.condv (by simp (maxSteps := 9999999) (disch := omega) only [go_sem, g1, g2, g3, g5, cI_ren, hc, hp2, hp, hl, pts_ren]; rfl) ?_ | ((first | (apply AWpA.region; (focus (simp (maxSteps := 9999999) (disch := omega) only [go_sem, g1, g2, g3, g5, cI_ren, hc, hp2, hp, hl, pts_ren]; rfl))) | (apply AWpA.draw [] follows; (focus (simp (maxSteps := 9999999) (disch := omega) only [go_sem, g1, g2, g3, g5, cI_ren, hc, hp2, hp, hl, pts_ren]; rfl)); (focus (simp (maxSteps := 9999999) (disch := omega) only [go_sem, g1, g2, g3, g5, cI_ren, hc, hp2, hp, hl, pts_ren]; first | done | trivial)); (focus (simp (maxSteps := 9999999) (disch := omega) only [go_sem, g1, g2, g3, g5, cI_ren, hc, hp2, hp, hl, pts_ren]; rfl))) | (apply TailK.go; (focus (simp (maxSteps := 9999999) (disch := omega) only [go_sem, g1, g2, g3, g5, cI_ren, hc, hp2, hp, hl, pts_ren]; rfl))) | refine AWpA.skip ?_ | refine AWpA.exit ?_ | refine AWpA.ret ?_ | (with_reducible refine ARoundsA.succ ?_) | ((first | refine Runs.kt (by assumption) (fun h9 => ?_) | refine Runs.kf (by assumption) (fun h9 => ?_) | refine Runs.nt (by assumption) (fun h9 => ?_) | refine Runs.nf (by assumption) (fun h9 => ?_) | refine CondP.ht (by assumption) (fun h9 => ?_) | refine CondP.hf (by assumption) (fun h9 => ?_) | refine CondP.nt (by assumption) (fun h9 => ?_) | refine CondP.nf (by assumption) (fun h9 => ?_)); (try simp only [h9]); clear h9)); (try simp (maxSteps := 9999999) (disch := omega) only [go_sem, g1, g2, g3, g5, cI_ren, hc, hp2, hp, hl, pts_ren]); (try (refine And.intro ?_ ?_; (focus (first | omega | (simp only [go_sem]; done) | (simp; done) | (simp; omega) | assumption))))) | ((first | refine CondP.split (fun hif => ?_) (fun hif => ?_) | refine Runs.part (fun hif => ?_) (fun hif => ?_)) <;> ((try simp only [hif]); (try simp only [decide_eq_true_eq, decide_eq_false_iff_not, Bool.not_eq_true, Bool.not_eq_false, Bool.not_eq_true', Bool.not_eq_false', beq_iff_eq, bne_iff_ne, bne_eq_false_iff_eq, beq_eq_false_iff_ne, ne_eq, Bool.and_eq_true, Bool.or_eq_true, Bool.or_eq_false_iff] at hif); (try (have h9 : _ = true := hif; simp only [h9])); (try (have h9 : _ = false := hif; simp only [h9])); (try simp (maxSteps := 9999999) (disch := omega) only [go_sem, g1, g2, g3, g5, cI_ren, hc, hp2, hp, hl, pts_ren]); (try (refine And.intro ?_ ?_; (focus (first | omega | (simp only [go_sem]; done) | (simp; done) | (simp; omega) | assumption)))); (try (exfalso; omega; done))))))
    (apply Back.to (i + 1) [0, 1, 2]; (focus ((try simp (maxSteps := 9999999) (disch := omega) only [go_sem, g4, cI_ren, pts_ren]); first | done | omega)); rotate_left; (focus (simp (maxSteps := 9999999) (disch := omega) only [go_sem, g4, cI_ren, pts_ren]; (try (repeat' (first | done | trivial | rfl | exact leAs_rfl _ | decide | (refine And.intro ?_ ?_) | (simp; done) | omega | (simp; decide)))))))
    omega
  · obtain rfl : i = 20 := by omega
    rw [pre_all hl]
    (try simp (maxSteps := 9999999) (disch := omega) only [go_sem])
    (repeat' (first | refine AWpA.seq ?_ | refine AWpA.block ?_ | (with_reducible refine CondP.tt ?_) | (with_reducible refine CondP.ff ?_) | refine AWpA.condv (by simp (maxSteps := 9999999) (disch := omega) only [go_sem, cI_ren, ht, hz2, hc, hl, hq0]; rfl) ?_ | ((first | (apply AWpA.region; (focus (simp (maxSteps := 9999999) (disch := omega) only [go_sem, cI_ren, ht, hz2, hc, hl, hq0]; rfl))) | (apply AWpA.draw [] follows; (focus (simp (maxSteps := 9999999) (disch := omega) only [go_sem, cI_ren, ht, hz2, hc, hl, hq0]; rfl)); (focus (simp (maxSteps := 9999999) (disch := omega) only [go_sem, cI_ren, ht, hz2, hc, hl, hq0]; first | done | trivial)); (focus (simp (maxSteps := 9999999) (disch := omega) only [go_sem, cI_ren, ht, hz2, hc, hl, hq0]; rfl))) | (apply TailK.go; (focus (simp (maxSteps := 9999999) (disch := omega) only [go_sem, cI_ren, ht, hz2, hc, hl, hq0]; rfl))) | refine AWpA.skip ?_ | refine AWpA.exit ?_ | refine AWpA.ret ?_ | (with_reducible refine ARoundsA.succ ?_) | ((first | refine Runs.kt (by assumption) (fun h9 => ?_) | refine Runs.kf (by assumption) (fun h9 => ?_) | refine Runs.nt (by assumption) (fun h9 => ?_) | refine Runs.nf (by assumption) (fun h9 => ?_) | refine CondP.ht (by assumption) (fun h9 => ?_) | refine CondP.hf (by assumption) (fun h9 => ?_) | refine CondP.nt (by assumption) (fun h9 => ?_) | refine CondP.nf (by assumption) (fun h9 => ?_)); (try simp only [h9]); clear h9)); (try simp (maxSteps := 9999999) (disch := omega) only [go_sem, cI_ren, ht, hz2, hc, hl, hq0]); (try (refine And.intro ?_ ?_; (focus (first | omega | (simp only [go_sem]; done) | (simp; done) | (simp; omega) | assumption))))) | ((first | refine CondP.split (fun hif => ?_) (fun hif => ?_) | refine Runs.part (fun hif => ?_) (fun hif => ?_)) <;> ((try simp only [hif]); (try simp only [decide_eq_true_eq, decide_eq_false_iff_not, Bool.not_eq_true, Bool.not_eq_false, Bool.not_eq_true', Bool.not_eq_false', beq_iff_eq, bne_iff_ne, bne_eq_false_iff_eq, beq_eq_false_iff_ne, ne_eq, Bool.and_eq_true, Bool.or_eq_true, Bool.or_eq_false_iff] at hif); (try (have h9 : _ = true := hif; simp only [h9])); (try (have h9 : _ = false := hif; simp only [h9])); (try simp (maxSteps := 9999999) (disch := omega) only [go_sem, cI_ren, ht, hz2, hc, hl, hq0]); (try (refine And.intro ?_ ?_; (focus (first | omega | (simp only [go_sem]; done) | (simp; done) | (simp; omega) | assumption)))); (try (exfalso; omega; done))))))
    (apply Ret.det []; (focus (first | exact .inl rfl | exact .inr rfl)); (focus (simp (maxSteps := 9999999) (disch := omega) only [go_sem, cI_ren, ht, hc, hl]; rfl)); (simp (maxSteps := 9999999) (disch := omega) only [go_sem, cI_ren, ht, hc, hl]; (try (repeat' (first | done | trivial | rfl | exact leAs_rfl _ | decide | (refine And.intro ?_ ?_) | (simp; done) | omega | (simp; decide))))))
theorem spans_any (l : List Int) (hl : l.length = 20) : ACall Try.prog 69 [.agg (cI l)] [] (Det (.agg (cI (sp l))) []) := by
  have hc := cI_len l
  have e : cI (sp l) = [I (lo l 0), I (hi l 0), I (lo l 1), I (hi l 1), I (lo l 2), I (hi l 2), I (lo l 3), I (hi l 3), I (lo l 4), I (hi l 4), I (lo l 5), I (hi l 5), I (lo l 6), I (hi l 6), I (lo l 7), I (hi l 7), I (lo l 8), I (hi l 8), I (lo l 9), I (hi l 9), I (lo l 10), I (hi l 10), I (lo l 11), I (hi l 11), I (lo l 12), I (hi l 12), I (lo l 13), I (hi l 13), I (lo l 14), I (hi l 14), I (lo l 15), I (hi l 15), I (lo l 16), I (hi l 16), I (lo l 17), I (hi l 17), I (lo l 18), I (hi l 18), I (lo l 19), I (hi l 19)] := by unfold cI sp; rfl
  rw [e]
  simp only [lo, hi]
  have g0 := cI_get (l := l) (k := 0) (by omega)
  have g3 := cI_get (l := l) (k := 3) (by omega)
  have g7 := cI_get (l := l) (k := 7) (by omega)
  have g10 := cI_get (l := l) (k := 10) (by omega)
  generalize l.getD 0 0 = x0 at g0
  generalize l.getD 3 0 = x3 at g3
  generalize l.getD 7 0 = x7 at g7
  generalize l.getD 10 0 = x10 at g10
  clear e
  by_cases h3 : x3 = 0
  · have g4 : (x3 != 0) = false := by simp [h3]
    have g5 : (if x3 = 0 then (0 : Int) else 2147483647) = 0 := by simp [h3]
    subst h3
    rw [g5]
    refine ACall.startA c69_ok Try.func69 rfl Try.ntmps69 (by kernel_rfl) res69_ok rfl rfl rfl ?_; simp (maxSteps := 9999999) (disch := omega) only [go_sem]
    (repeat' (first | refine AWpA.seq ?_ | refine AWpA.block ?_ | (with_reducible refine CondP.tt ?_) | (with_reducible refine CondP.ff ?_) | refine AWpA.condv (by simp (maxSteps := 9999999) (disch := omega) only [go_sem, cI_ren, hc, hl, g0, g3, g7, g10, g4]; rfl) ?_ | ((first | (apply AWpA.region; (focus (simp (maxSteps := 9999999) (disch := omega) only [go_sem, cI_ren, hc, hl, g0, g3, g7, g10, g4]; rfl))) | (apply AWpA.draw [] follows; (focus (simp (maxSteps := 9999999) (disch := omega) only [go_sem, cI_ren, hc, hl, g0, g3, g7, g10, g4]; rfl)); (focus (simp (maxSteps := 9999999) (disch := omega) only [go_sem, cI_ren, hc, hl, g0, g3, g7, g10, g4]; first | done | trivial)); (focus (simp (maxSteps := 9999999) (disch := omega) only [go_sem, cI_ren, hc, hl, g0, g3, g7, g10, g4]; rfl))) | (apply TailK.go; (focus (simp (maxSteps := 9999999) (disch := omega) only [go_sem, cI_ren, hc, hl, g0, g3, g7, g10, g4]; rfl))) | refine AWpA.skip ?_ | refine AWpA.exit ?_ | refine AWpA.ret ?_ | (with_reducible refine ARoundsA.succ ?_) | ((first | refine Runs.kt (by assumption) (fun h9 => ?_) | refine Runs.kf (by assumption) (fun h9 => ?_) | refine Runs.nt (by assumption) (fun h9 => ?_) | refine Runs.nf (by assumption) (fun h9 => ?_) | refine CondP.ht (by assumption) (fun h9 => ?_) | refine CondP.hf (by assumption) (fun h9 => ?_) | refine CondP.nt (by assumption) (fun h9 => ?_) | refine CondP.nf (by assumption) (fun h9 => ?_)); (try simp only [h9]); clear h9)); (try simp (maxSteps := 9999999) (disch := omega) only [go_sem, cI_ren, hc, hl, g0, g3, g7, g10, g4]); (try (refine And.intro ?_ ?_; (focus (first | omega | (simp only [go_sem]; done) | (simp; done) | (simp; omega) | assumption))))) | ((first | refine CondP.split (fun hif => ?_) (fun hif => ?_) | refine Runs.part (fun hif => ?_) (fun hif => ?_)) <;> ((try simp only [hif]); (try simp only [decide_eq_true_eq, decide_eq_false_iff_not, Bool.not_eq_true, Bool.not_eq_false, Bool.not_eq_true', Bool.not_eq_false', beq_iff_eq, bne_iff_ne, bne_eq_false_iff_eq, beq_eq_false_iff_ne, ne_eq, Bool.and_eq_true, Bool.or_eq_true, Bool.or_eq_false_iff] at hif); (try (have h9 : _ = true := hif; simp only [h9])); (try (have h9 : _ = false := hif; simp only [h9])); (try simp (maxSteps := 9999999) (disch := omega) only [go_sem, cI_ren, hc, hl, g0, g3, g7, g10, g4]); (try (refine And.intro ?_ ?_; (focus (first | omega | (simp only [go_sem]; done) | (simp; done) | (simp; omega) | assumption)))); (try (exfalso; omega; done))))))
    (apply Ret.det []; (focus (first | exact .inl rfl | exact .inr rfl)); (focus (simp (maxSteps := 9999999) (disch := omega) only [go_sem, cI_ren]; rfl)); (simp (maxSteps := 9999999) (disch := omega) only [go_sem, cI_ren]; (try (repeat' (first | done | trivial | rfl | exact leAs_rfl _ | decide | (refine And.intro ?_ ?_) | (simp; done) | omega | (simp; decide))))))
  · have g4 : (x3 != 0) = true := by simp [h3]
    have g5 : (if x3 = 0 then (0 : Int) else 2147483647) = 2147483647 := by simp [h3]
    rw [g5]
    refine ACall.startA c69_ok Try.func69 rfl Try.ntmps69 (by kernel_rfl) res69_ok rfl rfl rfl ?_; simp (maxSteps := 9999999) (disch := omega) only [go_sem]
    (repeat' (first | refine AWpA.seq ?_ | refine AWpA.block ?_ | (with_reducible refine CondP.tt ?_) | (with_reducible refine CondP.ff ?_) | refine AWpA.condv (by simp (maxSteps := 9999999) (disch := omega) only [go_sem, cI_ren, hc, hl, g0, g3, g7, g10, g4]; rfl) ?_ | ((first | (apply AWpA.region; (focus (simp (maxSteps := 9999999) (disch := omega) only [go_sem, cI_ren, hc, hl, g0, g3, g7, g10, g4]; rfl))) | (apply AWpA.draw [] follows; (focus (simp (maxSteps := 9999999) (disch := omega) only [go_sem, cI_ren, hc, hl, g0, g3, g7, g10, g4]; rfl)); (focus (simp (maxSteps := 9999999) (disch := omega) only [go_sem, cI_ren, hc, hl, g0, g3, g7, g10, g4]; first | done | trivial)); (focus (simp (maxSteps := 9999999) (disch := omega) only [go_sem, cI_ren, hc, hl, g0, g3, g7, g10, g4]; rfl))) | (apply TailK.go; (focus (simp (maxSteps := 9999999) (disch := omega) only [go_sem, cI_ren, hc, hl, g0, g3, g7, g10, g4]; rfl))) | refine AWpA.skip ?_ | refine AWpA.exit ?_ | refine AWpA.ret ?_ | (with_reducible refine ARoundsA.succ ?_) | ((first | refine Runs.kt (by assumption) (fun h9 => ?_) | refine Runs.kf (by assumption) (fun h9 => ?_) | refine Runs.nt (by assumption) (fun h9 => ?_) | refine Runs.nf (by assumption) (fun h9 => ?_) | refine CondP.ht (by assumption) (fun h9 => ?_) | refine CondP.hf (by assumption) (fun h9 => ?_) | refine CondP.nt (by assumption) (fun h9 => ?_) | refine CondP.nf (by assumption) (fun h9 => ?_)); (try simp only [h9]); clear h9)); (try simp (maxSteps := 9999999) (disch := omega) only [go_sem, cI_ren, hc, hl, g0, g3, g7, g10, g4]); (try (refine And.intro ?_ ?_; (focus (first | omega | (simp only [go_sem]; done) | (simp; done) | (simp; omega) | assumption))))) | ((first | refine CondP.split (fun hif => ?_) (fun hif => ?_) | refine Runs.part (fun hif => ?_) (fun hif => ?_)) <;> ((try simp only [hif]); (try simp only [decide_eq_true_eq, decide_eq_false_iff_not, Bool.not_eq_true, Bool.not_eq_false, Bool.not_eq_true', Bool.not_eq_false', beq_iff_eq, bne_iff_ne, bne_eq_false_iff_eq, beq_eq_false_iff_ne, ne_eq, Bool.and_eq_true, Bool.or_eq_true, Bool.or_eq_false_iff] at hif); (try (have h9 : _ = true := hif; simp only [h9])); (try (have h9 : _ = false := hif; simp only [h9])); (try simp (maxSteps := 9999999) (disch := omega) only [go_sem, cI_ren, hc, hl, g0, g3, g7, g10, g4]); (try (refine And.intro ?_ ?_; (focus (first | omega | (simp only [go_sem]; done) | (simp; done) | (simp; omega) | assumption)))); (try (exfalso; omega; done))))))
    (apply Ret.det []; (focus (first | exact .inl rfl | exact .inr rfl)); (focus (simp (maxSteps := 9999999) (disch := omega) only [go_sem, cI_ren]; rfl)); (simp (maxSteps := 9999999) (disch := omega) only [go_sem, cI_ren]; (try (repeat' (first | done | trivial | rfl | exact leAs_rfl _ | decide | (refine And.intro ?_ ?_) | (simp; done) | omega | (simp; decide))))))
end Go.Proofs.Ytkdikmfnchmphaa
