/- Contract: the document's Decode. -/
import Derived.Test.YtkdikmfnchmphaaAs13
namespace Go.Proofs.Ytkdikmfnchmphaa
set_option linter.unusedSimpArgs false
set_option linter.unusedVariables false
set_option maxHeartbeats 4000000
open Go Go.Am Go.RowKit Go.Setup
set_option maxRecDepth 100000
/- quidnunc/quidnuncref13.Decode -/
noncomputable def c47_1 : ACode := .region false [⟨some 2, .alloc (List.replicate 20 (.int .i64 0)), [], none⟩,
  ⟨some 3, .move, [.c (.val (.int .i64 0))], none⟩] [] [] [0, 2] true [] []
noncomputable def c47_3 : ACode := .region false [⟨some 9, .move, [.t 0], none⟩,
  ⟨some 10, .build [(.slice none 0 0), (.int .i64 0), (.int .i64 0)] [(0, 1)], [.t 9], none⟩,
  ⟨some 4, .alloc [(.slice none 0 0), (.int .i64 0), (.int .i64 0)], [], none⟩,
  ⟨none, .store 3, [.t 4, .t 10], none⟩] [] [] [2, 4] true [] []
noncomputable def c47_5 : ACode := .region false [⟨some 11, .build (List.replicate 20 (.int .i64 0)) [], [], none⟩,
  ⟨some 5, .alloc (List.replicate 20 (.int .i64 0)), [], none⟩,
  ⟨none, .store 20, [.t 5, .t 11], none⟩] [] [] [2, 4, 5] true [] []
noncomputable def c47_8 : ACode := .region false [⟨some 6, .move, [.c (.val (.int .i64 0))], none⟩] [] [] [2, 4, 5, 6] false [] []
noncomputable def c47_13 : ACode := .region false [⟨some 12, .move, [.t 6], none⟩,
  ⟨some 13, .bin .lss, [.t 12, .c (.val (.int .i64 20))], none⟩] [] [] [2, 4, 5, 6, 13] false [] []
noncomputable def c47_14 : ACode := .cond (.t 13) .skip (.exit 0)
noncomputable def c47_12 : ACode := .seq c47_13 c47_14
noncomputable def c47_18 : ACode := .region false [⟨some 17, .load true 3, [.t 4], none⟩,
  ⟨some 18, .call 76, [.t 17, .c (.val (.int .i64 4))], none⟩,
  ⟨some 16, .move, [.t 18], none⟩,
  ⟨some 19, .ext 0, [.t 16], none⟩,
  ⟨some 20, .ext 1, [.t 16], none⟩,
  ⟨some 7, .alloc [(.slice none 0 0), (.int .i64 0), (.int .i64 0)], [], none⟩,
  ⟨none, .store 3, [.t 7, .t 19], none⟩,
  ⟨some 8, .move, [.t 20], none⟩] [] [] [2, 4, 5, 6, 7, 8] true [] []
noncomputable def c47_20 : ACode := .region false [⟨some 21, .load true 3, [.t 7], none⟩,
  ⟨none, .store 3, [.t 4, .t 21], none⟩] [] [] [2, 4, 5, 6, 8] true [] []
noncomputable def c47_21 : ACode := .region false [⟨some 22, .move, [.t 6], none⟩,
  ⟨some 23, .move, [.t 8], none⟩,
  ⟨some 24, .conv .i64, [.t 23], none⟩,
  ⟨some 25, .ixA 20 1, [.t 5, .t 22], none⟩,
  ⟨none, .store 1, [.t 25, .t 24], none⟩] [] [] [2, 4, 5, 6] true [] []
noncomputable def c47_19 : ACode := .seq c47_20 c47_21
noncomputable def c47_17 : ACode := .seq c47_18 c47_19
noncomputable def c47_16 : ACode := .block 1 c47_17
noncomputable def c47_22 : ACode := .region false [⟨some 14, .move, [.t 6], none⟩,
  ⟨some 15, .bin .add, [.t 14, .c (.val (.int .i64 1))], none⟩,
  ⟨some 6, .move, [.t 15], none⟩] [] [] [2, 4, 5, 6] false [] []
noncomputable def c47_15 : ACode := .seq c47_16 c47_22
noncomputable def c47_11 : ACode := .seq c47_12 c47_15
noncomputable def c47_10 : ACode := .loop c47_11
noncomputable def c47_9 : ACode := .block 0 c47_10
noncomputable def c47_7 : ACode := .seq c47_8 c47_9
noncomputable def c47_24 : ACode := .region false [⟨some 26, .load true 3, [.t 4], none⟩,
  ⟨some 27, .call 77, [.t 26], none⟩,
  ⟨none, .store 3, [.t 4, .t 27], none⟩] [] [] [2, 4, 5] true [] []
noncomputable def c47_27 : ACode := .region false [⟨some 28, .addr 2, [.t 4], none⟩,
  ⟨some 29, .load false 1, [.t 28], none⟩,
  ⟨some 30, .bin .neq, [.t 29, .c (.val (.int .i64 0))], none⟩] [] [] [2, 4, 5, 30] false [] []
noncomputable def c47_30 : ACode := .region true [⟨some 31, .build (List.replicate 20 (.int .i64 0)) [], [], none⟩,
  ⟨some 32, .addr 2, [.t 4], none⟩,
  ⟨some 33, .load false 1, [.t 32], none⟩,
  ⟨none, .store 20, [.t 2, .t 31], none⟩,
  ⟨some 3, .move, [.t 33], none⟩] [] [] [2, 3] true [2] []
noncomputable def c47_29 : ACode := .seq c47_30 .ret
noncomputable def c47_28 : ACode := .cond (.t 30) c47_29 .skip
noncomputable def c47_26 : ACode := .seq c47_27 c47_28
noncomputable def c47_33 : ACode := .region false [⟨some 34, .load true 20, [.t 5], none⟩,
  ⟨some 35, .call 29, [.t 34], none⟩,
  ⟨some 36, .un .not, [.t 35], none⟩] [] [] [2, 5, 36] true [] []
noncomputable def c47_36 : ACode := .region false [⟨some 37, .build (List.replicate 20 (.int .i64 0)) [], [], none⟩,
  ⟨none, .store 20, [.t 2, .t 37], none⟩,
  ⟨some 3, .move, [.c (.val (.int .i64 14))], none⟩] [] [] [2, 3] true [] []
noncomputable def c47_35 : ACode := .seq c47_36 .ret
noncomputable def c47_34 : ACode := .cond (.t 36) c47_35 .skip
noncomputable def c47_32 : ACode := .seq c47_33 c47_34
noncomputable def c47_38 : ACode := .region false [⟨some 38, .load true 20, [.t 5], none⟩,
  ⟨none, .store 20, [.t 2, .t 38], none⟩,
  ⟨some 3, .move, [.c (.val (.int .i64 0))], none⟩] [] [] [2, 3] true [] []
noncomputable def c47_37 : ACode := .seq c47_38 .ret
noncomputable def c47_31 : ACode := .seq c47_32 c47_37
noncomputable def c47_25 : ACode := .seq c47_26 c47_31
noncomputable def c47_23 : ACode := .seq c47_24 c47_25
noncomputable def c47_6 : ACode := .seq c47_7 c47_23
noncomputable def c47_4 : ACode := .seq c47_5 c47_6
noncomputable def c47_2 : ACode := .seq c47_3 c47_4
noncomputable def c47_0 : ACode := .seq c47_1 c47_2
noncomputable def code47 : Code := (Try.f47.body).getD .skip
theorem c47_ok : compC Try.prog 39 code47 = some (strip c47_0) := by kernel_rfl
theorem res47_ok : Try.f47.results.toList.mapM (resC Try.prog) = some [(2, some (true, 20)), (3, none)] := by kernel_rfl
theorem rdecode_any {P : List AV} {o : Nat} {L : List Int} (sg : Seg P o L) (hb : bytesB L) : ACall Try.prog 47 [.sl 0 o L.length 1 none] [.cells true P] (Det (.tup [.agg (cI (dcL L)), I (dcE L)]) [.cells true P]) := by
  have hL := sg.small
  have hvl := vs_len L
  have hz := cI_zero
  rw [← pre_zero (vs L)] at hz
  have hz2 := cI_drop (pre_len hvl (Nat.zero_le 20))
  have hq0 : (cI (pre (vs L) 0)).length = 20 := by rw [cI_len]; exact pre_len hvl (by omega)
  have hzt := cI_take (pre_len hvl (Nat.zero_le 20))
  have hc0 := cuN_zero L
  refine ACall.startA c47_ok Try.func47 rfl Try.ntmps47 (by kernel_rfl) res47_ok rfl rfl rfl ?_; simp (maxSteps := 9999999) (disch := omega) only [go_sem]
  (repeat' (first | refine AWpA.seq ?_ | refine AWpA.block ?_ | (with_reducible refine CondP.tt ?_) | (with_reducible refine CondP.ff ?_) | refine AWpA.condv (by simp (maxSteps := 9999999) (disch := omega) only [go_sem, cI_ren, sg.ren, bA_ren, hz.symm, hz2, hq0, hzt]; rfl) ?_ | ((first | (apply AWpA.region; (focus (simp (maxSteps := 9999999) (disch := omega) only [go_sem, cI_ren, sg.ren, bA_ren, hz.symm, hz2, hq0, hzt]; rfl))) | (apply AWpA.draw [] follows; (focus (simp (maxSteps := 9999999) (disch := omega) only [go_sem, cI_ren, sg.ren, bA_ren, hz.symm, hz2, hq0, hzt]; rfl)); (focus (simp (maxSteps := 9999999) (disch := omega) only [go_sem, cI_ren, sg.ren, bA_ren, hz.symm, hz2, hq0, hzt]; first | done | trivial)); (focus (simp (maxSteps := 9999999) (disch := omega) only [go_sem, cI_ren, sg.ren, bA_ren, hz.symm, hz2, hq0, hzt]; rfl))) | (apply TailK.go; (focus (simp (maxSteps := 9999999) (disch := omega) only [go_sem, cI_ren, sg.ren, bA_ren, hz.symm, hz2, hq0, hzt]; rfl))) | refine AWpA.skip ?_ | refine AWpA.exit ?_ | refine AWpA.ret ?_ | (with_reducible refine ARoundsA.succ ?_) | ((first | refine Runs.kt (by assumption) (fun h9 => ?_) | refine Runs.kf (by assumption) (fun h9 => ?_) | refine Runs.nt (by assumption) (fun h9 => ?_) | refine Runs.nf (by assumption) (fun h9 => ?_) | refine CondP.ht (by assumption) (fun h9 => ?_) | refine CondP.hf (by assumption) (fun h9 => ?_) | refine CondP.nt (by assumption) (fun h9 => ?_) | refine CondP.nf (by assumption) (fun h9 => ?_)); (try simp only [h9]); clear h9)); (try simp (maxSteps := 9999999) (disch := omega) only [go_sem, cI_ren, sg.ren, bA_ren, hz.symm, hz2, hq0, hzt]); (try (refine And.intro ?_ ?_; (focus (first | omega | (simp only [go_sem]; done) | (simp; done) | (simp; omega) | assumption))))) | ((first | refine CondP.split (fun hif => ?_) (fun hif => ?_) | refine Runs.part (fun hif => ?_) (fun hif => ?_)) <;> ((try simp only [hif]); (try simp only [decide_eq_true_eq, decide_eq_false_iff_not, Bool.not_eq_true, Bool.not_eq_false, Bool.not_eq_true', Bool.not_eq_false', beq_iff_eq, bne_iff_ne, bne_eq_false_iff_eq, beq_eq_false_iff_ne, ne_eq, Bool.and_eq_true, Bool.or_eq_true, Bool.or_eq_false_iff] at hif); (try (have h9 : _ = true := hif; simp only [h9])); (try (have h9 : _ = false := hif; simp only [h9])); (try simp (maxSteps := 9999999) (disch := omega) only [go_sem, cI_ren, sg.ren, bA_ren, hz.symm, hz2, hq0, hzt]); (try (refine And.intro ?_ ?_; (focus (first | omega | (simp only [go_sem]; done) | (simp; done) | (simp; omega) | assumption)))); (try (exfalso; omega; done))))))
  (apply AWpA.loopL (fun i : Nat => [(2, .ptr 1 0), (4, .ptr 2 0), (5, .ptr 3 0), (6, I i)]) (fun i => [.cells true P, .cells false (cI (pre (vs L) 0)), .cells false [.sl 0 o L.length 1 none, I (cuN L i).a, I (cuN L i).e], .cells false (cI (pre (vs L) i))]) (fun i => 20 - i) (fun i => i ≤ 20) (0) [0, 1, 65, 113]; rotate_left; (focus (simp (maxSteps := 9999999) (disch := omega) only [go_sem, cI_ren, sg.ren, bA_ren, hc0]; (try (repeat' (first | done | trivial | rfl | exact leAs_rfl _ | decide | (refine And.intro ?_ ?_) | (simp; done) | omega | (simp; decide)))))); rotate_right)
  · exact Nat.zero_le _
  rintro i hi
  (try simp only at hi)
  have hp := pre_len hvl hi
  have hp2 := cI_len (pre (vs L) i)
  have hca := cuN_le L i
  by_cases hin : i < 20
  · have g1 : ((i : Int) < 20) = True := eq_true (by omega)
    have c1 := ctake_any sg hb (cuN L i) hca 4
    rw [cuN_succ, vN_eq] at c1
    have hvb := num4_bd hb (cuN L i)
    rw [vN_eq] at hvb
    have g4 := cI_put (pre (vs L) i) i ((vs L).getD i 0) (by omega)
    rw [pre_set hvl hin, vs_get L hin] at g4
    generalize vN L i = v at *
    generalize cuN L i = c at *
    generalize hcc : cuN L (i + 1) = c' at *
    (try simp (maxSteps := 9999999) (disch := omega) only [go_sem])
    (repeat' (first | refine AWpA.seq ?_ | refine AWpA.block ?_ | (with_reducible refine CondP.tt ?_) | (with_reducible refine CondP.ff ?_) | refine AWpA.condv (by simp (maxSteps := 9999999) (disch := omega) only [go_sem, g1, cI_ren, sg.ren, bA_ren, hp2, hp]; rfl) ?_ | ((first | (apply AWpA.region; (focus (simp (maxSteps := 9999999) (disch := omega) only [go_sem, g1, cI_ren, sg.ren, bA_ren, hp2, hp]; rfl))) | (apply AWpA.draw [] follows; (focus (simp (maxSteps := 9999999) (disch := omega) only [go_sem, g1, cI_ren, sg.ren, bA_ren, hp2, hp]; rfl)); (focus (simp (maxSteps := 9999999) (disch := omega) only [go_sem, g1, cI_ren, sg.ren, bA_ren, hp2, hp]; first | done | trivial)); (focus (simp (maxSteps := 9999999) (disch := omega) only [go_sem, g1, cI_ren, sg.ren, bA_ren, hp2, hp]; rfl))) | (apply TailK.go; (focus (simp (maxSteps := 9999999) (disch := omega) only [go_sem, g1, cI_ren, sg.ren, bA_ren, hp2, hp]; rfl))) | refine AWpA.skip ?_ | refine AWpA.exit ?_ | refine AWpA.ret ?_ | (with_reducible refine ARoundsA.succ ?_) | ((first | refine Runs.kt (by assumption) (fun h9 => ?_) | refine Runs.kf (by assumption) (fun h9 => ?_) | refine Runs.nt (by assumption) (fun h9 => ?_) | refine Runs.nf (by assumption) (fun h9 => ?_) | refine CondP.ht (by assumption) (fun h9 => ?_) | refine CondP.hf (by assumption) (fun h9 => ?_) | refine CondP.nt (by assumption) (fun h9 => ?_) | refine CondP.nf (by assumption) (fun h9 => ?_)); (try simp only [h9]); clear h9) | ((first | (with_reducible apply CallG.plain1 [0] (c1)) | (with_reducible apply CallG.draw1 [0] (c1))); (focus ((try refine And.intro (leAs_of_eq rfl) ?_); (try refine And.intro (leOL_of_eq rfl) ?_); simp (maxSteps := 9999999) (disch := omega) only [go_sem, g1, cI_ren, sg.ren, bA_ren, hp2, hp]; first | done | (repeat' (first | rfl | (refine And.intro ?_ ?_))))); (focus (simp (maxSteps := 9999999) (disch := omega) only [go_sem, g1, cI_ren, sg.ren, bA_ren, hp2, hp]; rfl)))); (try simp (maxSteps := 9999999) (disch := omega) only [go_sem, g1, cI_ren, sg.ren, bA_ren, hp2, hp]); (try (refine And.intro ?_ ?_; (focus (first | omega | (simp only [go_sem]; done) | (simp; done) | (simp; omega) | assumption))))) | ((first | refine CondP.split (fun hif => ?_) (fun hif => ?_) | refine Runs.part (fun hif => ?_) (fun hif => ?_)) <;> ((try simp only [hif]); (try simp only [decide_eq_true_eq, decide_eq_false_iff_not, Bool.not_eq_true, Bool.not_eq_false, Bool.not_eq_true', Bool.not_eq_false', beq_iff_eq, bne_iff_ne, bne_eq_false_iff_eq, beq_eq_false_iff_ne, ne_eq, Bool.and_eq_true, Bool.or_eq_true, Bool.or_eq_false_iff] at hif); (try (have h9 : _ = true := hif; simp only [h9])); (try (have h9 : _ = false := hif; simp only [h9])); (try simp (maxSteps := 9999999) (disch := omega) only [go_sem, g1, cI_ren, sg.ren, bA_ren, hp2, hp]); (try (refine And.intro ?_ ?_; (focus (first | omega | (simp only [go_sem]; done) | (simp; done) | (simp; omega) | assumption)))); (try (exfalso; omega; done))))))
    (apply Back.to (i + 1) [0, 1, 2, 3]; (focus ((try simp (maxSteps := 9999999) (disch := omega) only [go_sem, g4, hcc, cI_ren, sg.ren, bA_ren]); first | done | omega)); rotate_left; (focus (simp (maxSteps := 9999999) (disch := omega) only [go_sem, g4, hcc, cI_ren, sg.ren, bA_ren]; (try (repeat' (first | done | trivial | rfl | exact leAs_rfl _ | decide | (refine And.intro ?_ ?_) | (simp; done) | omega | (simp; decide)))))))
    omega
  · obtain rfl : i = 20 := by omega
    have c1 := cdone_any sg (cuN L 20) hca
    rw [show (doneC L (cuN L 20)).e = endE L from rfl] at c1
    have hvt := cI_take hvl
    have hvc := cI_len (vs L)
    rw [pre_all hvl]
    by_cases he : endE L = 0
    · have g1 : (endE L != 0) = false := by rw [he]; rfl
      have c3 := rright_any (vs L) hvl
      rw [he] at c1
      cases hr : right (vs L)
      · obtain ⟨e1, e2⟩ := dc_no he hr
        rw [e1, e2]
        rw [hr] at c3
        (try simp (maxSteps := 9999999) (disch := omega) only [go_sem])
        (repeat' (first | refine AWpA.seq ?_ | refine AWpA.block ?_ | (with_reducible refine CondP.tt ?_) | (with_reducible refine CondP.ff ?_) | refine AWpA.condv (by simp (maxSteps := 9999999) (disch := omega) only [go_sem, g1, cI_ren, sg.ren, bA_ren, hq0, hz.symm, hz2, hvt, hvc, hvl]; rfl) ?_ | ((first | (apply AWpA.region; (focus (simp (maxSteps := 9999999) (disch := omega) only [go_sem, g1, cI_ren, sg.ren, bA_ren, hq0, hz.symm, hz2, hvt, hvc, hvl]; rfl))) | (apply AWpA.draw [] follows; (focus (simp (maxSteps := 9999999) (disch := omega) only [go_sem, g1, cI_ren, sg.ren, bA_ren, hq0, hz.symm, hz2, hvt, hvc, hvl]; rfl)); (focus (simp (maxSteps := 9999999) (disch := omega) only [go_sem, g1, cI_ren, sg.ren, bA_ren, hq0, hz.symm, hz2, hvt, hvc, hvl]; first | done | trivial)); (focus (simp (maxSteps := 9999999) (disch := omega) only [go_sem, g1, cI_ren, sg.ren, bA_ren, hq0, hz.symm, hz2, hvt, hvc, hvl]; rfl))) | (apply TailK.go; (focus (simp (maxSteps := 9999999) (disch := omega) only [go_sem, g1, cI_ren, sg.ren, bA_ren, hq0, hz.symm, hz2, hvt, hvc, hvl]; rfl))) | refine AWpA.skip ?_ | refine AWpA.exit ?_ | refine AWpA.ret ?_ | (with_reducible refine ARoundsA.succ ?_) | ((first | refine Runs.kt (by assumption) (fun h9 => ?_) | refine Runs.kf (by assumption) (fun h9 => ?_) | refine Runs.nt (by assumption) (fun h9 => ?_) | refine Runs.nf (by assumption) (fun h9 => ?_) | refine CondP.ht (by assumption) (fun h9 => ?_) | refine CondP.hf (by assumption) (fun h9 => ?_) | refine CondP.nt (by assumption) (fun h9 => ?_) | refine CondP.nf (by assumption) (fun h9 => ?_)); (try simp only [h9]); clear h9) | ((first | (with_reducible apply CallG.plain1 [0] (c1)) | (with_reducible apply CallG.plain1 [] (c3)) | (with_reducible apply CallG.draw1 [0] (c1)) | (with_reducible apply CallG.draw1 [] (c3))); (focus ((try refine And.intro (leAs_of_eq rfl) ?_); (try refine And.intro (leOL_of_eq rfl) ?_); simp (maxSteps := 9999999) (disch := omega) only [go_sem, g1, cI_ren, sg.ren, bA_ren, hq0, hz.symm, hz2, hvt, hvc, hvl]; first | done | (repeat' (first | rfl | (refine And.intro ?_ ?_))))); (focus (simp (maxSteps := 9999999) (disch := omega) only [go_sem, g1, cI_ren, sg.ren, bA_ren, hq0, hz.symm, hz2, hvt, hvc, hvl]; rfl)))); (try simp (maxSteps := 9999999) (disch := omega) only [go_sem, g1, cI_ren, sg.ren, bA_ren, hq0, hz.symm, hz2, hvt, hvc, hvl]); (try (refine And.intro ?_ ?_; (focus (first | omega | (simp only [go_sem]; done) | (simp; done) | (simp; omega) | assumption))))) | ((first | refine CondP.split (fun hif => ?_) (fun hif => ?_) | refine Runs.part (fun hif => ?_) (fun hif => ?_)) <;> ((try simp only [hif]); (try simp only [decide_eq_true_eq, decide_eq_false_iff_not, Bool.not_eq_true, Bool.not_eq_false, Bool.not_eq_true', Bool.not_eq_false', beq_iff_eq, bne_iff_ne, bne_eq_false_iff_eq, beq_eq_false_iff_ne, ne_eq, Bool.and_eq_true, Bool.or_eq_true, Bool.or_eq_false_iff] at hif); (try (have h9 : _ = true := hif; simp only [h9])); (try (have h9 : _ = false := hif; simp only [h9])); (try simp (maxSteps := 9999999) (disch := omega) only [go_sem, g1, cI_ren, sg.ren, bA_ren, hq0, hz.symm, hz2, hvt, hvc, hvl]); (try (refine And.intro ?_ ?_; (focus (first | omega | (simp only [go_sem]; done) | (simp; done) | (simp; omega) | assumption)))); (try (exfalso; omega; done))))))
        (apply Ret.det [0]; (focus (first | exact .inl rfl | exact .inr rfl)); (focus (simp (maxSteps := 9999999) (disch := omega) only [go_sem, cI_ren, sg.ren, hq0, hvc, hvl, hz2, hvt, hzt]; rfl)); (simp (maxSteps := 9999999) (disch := omega) only [go_sem, cI_ren, sg.ren, hq0, hvc, hvl, hz2, hvt, hzt]; (try (repeat' (first | done | trivial | rfl | exact leAs_rfl _ | decide | (refine And.intro ?_ ?_) | (simp; done) | omega | (simp; decide))))))
      · obtain ⟨e1, e2⟩ := dc_ok he hr
        rw [e1, e2]
        rw [hr] at c3
        (try simp (maxSteps := 9999999) (disch := omega) only [go_sem])
        (repeat' (first | refine AWpA.seq ?_ | refine AWpA.block ?_ | (with_reducible refine CondP.tt ?_) | (with_reducible refine CondP.ff ?_) | refine AWpA.condv (by simp (maxSteps := 9999999) (disch := omega) only [go_sem, g1, cI_ren, sg.ren, bA_ren, hq0, hz.symm, hz2, hvt, hvc, hvl]; rfl) ?_ | ((first | (apply AWpA.region; (focus (simp (maxSteps := 9999999) (disch := omega) only [go_sem, g1, cI_ren, sg.ren, bA_ren, hq0, hz.symm, hz2, hvt, hvc, hvl]; rfl))) | (apply AWpA.draw [] follows; (focus (simp (maxSteps := 9999999) (disch := omega) only [go_sem, g1, cI_ren, sg.ren, bA_ren, hq0, hz.symm, hz2, hvt, hvc, hvl]; rfl)); (focus (simp (maxSteps := 9999999) (disch := omega) only [go_sem, g1, cI_ren, sg.ren, bA_ren, hq0, hz.symm, hz2, hvt, hvc, hvl]; first | done | trivial)); (focus (simp (maxSteps := 9999999) (disch := omega) only [go_sem, g1, cI_ren, sg.ren, bA_ren, hq0, hz.symm, hz2, hvt, hvc, hvl]; rfl))) | (apply TailK.go; (focus (simp (maxSteps := 9999999) (disch := omega) only [go_sem, g1, cI_ren, sg.ren, bA_ren, hq0, hz.symm, hz2, hvt, hvc, hvl]; rfl))) | refine AWpA.skip ?_ | refine AWpA.exit ?_ | refine AWpA.ret ?_ | (with_reducible refine ARoundsA.succ ?_) | ((first | refine Runs.kt (by assumption) (fun h9 => ?_) | refine Runs.kf (by assumption) (fun h9 => ?_) | refine Runs.nt (by assumption) (fun h9 => ?_) | refine Runs.nf (by assumption) (fun h9 => ?_) | refine CondP.ht (by assumption) (fun h9 => ?_) | refine CondP.hf (by assumption) (fun h9 => ?_) | refine CondP.nt (by assumption) (fun h9 => ?_) | refine CondP.nf (by assumption) (fun h9 => ?_)); (try simp only [h9]); clear h9) | ((first | (with_reducible apply CallG.plain1 [0] (c1)) | (with_reducible apply CallG.plain1 [] (c3)) | (with_reducible apply CallG.draw1 [0] (c1)) | (with_reducible apply CallG.draw1 [] (c3))); (focus ((try refine And.intro (leAs_of_eq rfl) ?_); (try refine And.intro (leOL_of_eq rfl) ?_); simp (maxSteps := 9999999) (disch := omega) only [go_sem, g1, cI_ren, sg.ren, bA_ren, hq0, hz.symm, hz2, hvt, hvc, hvl]; first | done | (repeat' (first | rfl | (refine And.intro ?_ ?_))))); (focus (simp (maxSteps := 9999999) (disch := omega) only [go_sem, g1, cI_ren, sg.ren, bA_ren, hq0, hz.symm, hz2, hvt, hvc, hvl]; rfl)))); (try simp (maxSteps := 9999999) (disch := omega) only [go_sem, g1, cI_ren, sg.ren, bA_ren, hq0, hz.symm, hz2, hvt, hvc, hvl]); (try (refine And.intro ?_ ?_; (focus (first | omega | (simp only [go_sem]; done) | (simp; done) | (simp; omega) | assumption))))) | ((first | refine CondP.split (fun hif => ?_) (fun hif => ?_) | refine Runs.part (fun hif => ?_) (fun hif => ?_)) <;> ((try simp only [hif]); (try simp only [decide_eq_true_eq, decide_eq_false_iff_not, Bool.not_eq_true, Bool.not_eq_false, Bool.not_eq_true', Bool.not_eq_false', beq_iff_eq, bne_iff_ne, bne_eq_false_iff_eq, beq_eq_false_iff_ne, ne_eq, Bool.and_eq_true, Bool.or_eq_true, Bool.or_eq_false_iff] at hif); (try (have h9 : _ = true := hif; simp only [h9])); (try (have h9 : _ = false := hif; simp only [h9])); (try simp (maxSteps := 9999999) (disch := omega) only [go_sem, g1, cI_ren, sg.ren, bA_ren, hq0, hz.symm, hz2, hvt, hvc, hvl]); (try (refine And.intro ?_ ?_; (focus (first | omega | (simp only [go_sem]; done) | (simp; done) | (simp; omega) | assumption)))); (try (exfalso; omega; done))))))
        (apply Ret.det [0]; (focus (first | exact .inl rfl | exact .inr rfl)); (focus (simp (maxSteps := 9999999) (disch := omega) only [go_sem, cI_ren, sg.ren, hq0, hvc, hvl, hz2, hvt, hzt]; rfl)); (simp (maxSteps := 9999999) (disch := omega) only [go_sem, cI_ren, sg.ren, hq0, hvc, hvl, hz2, hvt, hzt]; (try (repeat' (first | done | trivial | rfl | exact leAs_rfl _ | decide | (refine And.intro ?_ ?_) | (simp; done) | omega | (simp; decide))))))
    · obtain ⟨e1, e2⟩ := dc_err he
      have g1 : (endE L != 0) = true := by rw [bne_iff_ne]; exact he
      rw [e1, e2]
      generalize endE L = en at *
      (try simp (maxSteps := 9999999) (disch := omega) only [go_sem])
      (repeat' (first | refine AWpA.seq ?_ | refine AWpA.block ?_ | (with_reducible refine CondP.tt ?_) | (with_reducible refine CondP.ff ?_) | refine AWpA.condv (by simp (maxSteps := 9999999) (disch := omega) only [go_sem, g1, cI_ren, sg.ren, bA_ren, hq0, hz.symm, hz2, hvt, hvc, hvl]; rfl) ?_ | ((first | (apply AWpA.region; (focus (simp (maxSteps := 9999999) (disch := omega) only [go_sem, g1, cI_ren, sg.ren, bA_ren, hq0, hz.symm, hz2, hvt, hvc, hvl]; rfl))) | (apply AWpA.draw [] follows; (focus (simp (maxSteps := 9999999) (disch := omega) only [go_sem, g1, cI_ren, sg.ren, bA_ren, hq0, hz.symm, hz2, hvt, hvc, hvl]; rfl)); (focus (simp (maxSteps := 9999999) (disch := omega) only [go_sem, g1, cI_ren, sg.ren, bA_ren, hq0, hz.symm, hz2, hvt, hvc, hvl]; first | done | trivial)); (focus (simp (maxSteps := 9999999) (disch := omega) only [go_sem, g1, cI_ren, sg.ren, bA_ren, hq0, hz.symm, hz2, hvt, hvc, hvl]; rfl))) | (apply TailK.go; (focus (simp (maxSteps := 9999999) (disch := omega) only [go_sem, g1, cI_ren, sg.ren, bA_ren, hq0, hz.symm, hz2, hvt, hvc, hvl]; rfl))) | refine AWpA.skip ?_ | refine AWpA.exit ?_ | refine AWpA.ret ?_ | (with_reducible refine ARoundsA.succ ?_) | ((first | refine Runs.kt (by assumption) (fun h9 => ?_) | refine Runs.kf (by assumption) (fun h9 => ?_) | refine Runs.nt (by assumption) (fun h9 => ?_) | refine Runs.nf (by assumption) (fun h9 => ?_) | refine CondP.ht (by assumption) (fun h9 => ?_) | refine CondP.hf (by assumption) (fun h9 => ?_) | refine CondP.nt (by assumption) (fun h9 => ?_) | refine CondP.nf (by assumption) (fun h9 => ?_)); (try simp only [h9]); clear h9) | ((first | (with_reducible apply CallG.plain1 [0] (c1)) | (with_reducible apply CallG.draw1 [0] (c1))); (focus ((try refine And.intro (leAs_of_eq rfl) ?_); (try refine And.intro (leOL_of_eq rfl) ?_); simp (maxSteps := 9999999) (disch := omega) only [go_sem, g1, cI_ren, sg.ren, bA_ren, hq0, hz.symm, hz2, hvt, hvc, hvl]; first | done | (repeat' (first | rfl | (refine And.intro ?_ ?_))))); (focus (simp (maxSteps := 9999999) (disch := omega) only [go_sem, g1, cI_ren, sg.ren, bA_ren, hq0, hz.symm, hz2, hvt, hvc, hvl]; rfl)))); (try simp (maxSteps := 9999999) (disch := omega) only [go_sem, g1, cI_ren, sg.ren, bA_ren, hq0, hz.symm, hz2, hvt, hvc, hvl]); (try (refine And.intro ?_ ?_; (focus (first | omega | (simp only [go_sem]; done) | (simp; done) | (simp; omega) | assumption))))) | ((first | refine CondP.split (fun hif => ?_) (fun hif => ?_) | refine Runs.part (fun hif => ?_) (fun hif => ?_)) <;> ((try simp only [hif]); (try simp only [decide_eq_true_eq, decide_eq_false_iff_not, Bool.not_eq_true, Bool.not_eq_false, Bool.not_eq_true', Bool.not_eq_false', beq_iff_eq, bne_iff_ne, bne_eq_false_iff_eq, beq_eq_false_iff_ne, ne_eq, Bool.and_eq_true, Bool.or_eq_true, Bool.or_eq_false_iff] at hif); (try (have h9 : _ = true := hif; simp only [h9])); (try (have h9 : _ = false := hif; simp only [h9])); (try simp (maxSteps := 9999999) (disch := omega) only [go_sem, g1, cI_ren, sg.ren, bA_ren, hq0, hz.symm, hz2, hvt, hvc, hvl]); (try (refine And.intro ?_ ?_; (focus (first | omega | (simp only [go_sem]; done) | (simp; done) | (simp; omega) | assumption)))); (try (exfalso; omega; done))))))
      (apply Ret.det [0]; (focus (first | exact .inl rfl | exact .inr rfl)); (focus (simp (maxSteps := 9999999) (disch := omega) only [go_sem, cI_ren, sg.ren, hq0, hvc, hvl, hz2, hvt, hzt]; rfl)); (simp (maxSteps := 9999999) (disch := omega) only [go_sem, cI_ren, sg.ren, hq0, hvc, hvl, hz2, hvt, hzt]; (try (repeat' (first | done | trivial | rfl | exact leAs_rfl _ | decide | (refine And.intro ?_ ?_) | (simp; done) | omega | (simp; decide))))))
end Go.Proofs.Ytkdikmfnchmphaa
