/- Contracts: a journal on a disk. -/
import Derived.Test.YthbpdmlbfnjoiaaJa6
import Derived.Test.YthbpdmlbfnjoiaaAd3
namespace Go.Crc
set_option linter.unusedSimpArgs false
set_option linter.unusedVariables false
set_option maxHeartbeats 4000000
open Go Go.Am Go.RowKit
end Go.Crc
namespace Go.Proofs.Ythbpdmlbfnjoiaa
open Go Go.Am Go.RowKit Go.Crc
set_option linter.unusedSimpArgs false
set_option maxHeartbeats 4000000
set_option maxRecDepth 100000
/- quidnunc/journal.Open -/
noncomputable def c35_1 : ACode := .region false [⟨some 2, .move, [.c (.val (.pointer none))], none⟩,
  ⟨some 3, .move, [.c (.val (.slice none 0 0))], none⟩,
  ⟨some 4, .move, [.c (.val (.int .i64 0))], none⟩] [] [] [0] false [] []
noncomputable def c35_3 : ACode := .region false [⟨some 11, .move, [.t 0], none⟩,
  ⟨some 12, .call 38, [.t 11], none⟩,
  ⟨some 10, .move, [.t 12], none⟩,
  ⟨some 13, .ext 0, [.t 10], none⟩,
  ⟨some 14, .ext 1, [.t 10], none⟩,
  ⟨some 5, .move, [.t 13], none⟩,
  ⟨some 6, .move, [.t 14], none⟩] [] [] [0, 5, 6] true [] []
noncomputable def c35_6 : ACode := .region false [⟨some 15, .move, [.t 6], none⟩,
  ⟨some 16, .bin .neq, [.t 15, .c (.val (.int .i64 0))], none⟩] [] [] [0, 5, 6, 16] false [] []
noncomputable def c35_9 : ACode := .region false [⟨some 17, .move, [.t 6], none⟩,
  ⟨some 2, .move, [.c (.val (.pointer none))], none⟩,
  ⟨some 3, .move, [.c (.val (.slice none 0 0))], none⟩,
  ⟨some 4, .move, [.t 17], none⟩] [] [] [2, 3, 4] false [] []
noncomputable def c35_8 : ACode := .seq c35_9 .ret
noncomputable def c35_7 : ACode := .cond (.t 16) c35_8 .skip
noncomputable def c35_5 : ACode := .seq c35_6 c35_7
noncomputable def c35_11 : ACode := .region false [⟨some 19, .move, [.t 5], none⟩,
  ⟨some 20, .call 28, [.t 19], none⟩,
  ⟨some 18, .move, [.t 20], none⟩,
  ⟨some 21, .ext 0, [.t 18], none⟩,
  ⟨some 22, .ext 1, [.t 18], none⟩,
  ⟨some 23, .ext 2, [.t 18], none⟩,
  ⟨some 7, .move, [.t 21], none⟩,
  ⟨some 8, .move, [.t 22], none⟩,
  ⟨some 6, .move, [.t 23], none⟩] [] [] [0, 5, 6, 7, 8] true [] []
noncomputable def c35_14 : ACode := .region false [⟨some 24, .move, [.t 6], none⟩,
  ⟨some 25, .bin .neq, [.t 24, .c (.val (.int .i64 0))], none⟩] [] [] [0, 5, 6, 7, 8, 25] false [] []
noncomputable def c35_17 : ACode := .region false [⟨some 26, .move, [.t 6], none⟩,
  ⟨some 2, .move, [.c (.val (.pointer none))], none⟩,
  ⟨some 3, .move, [.c (.val (.slice none 0 0))], none⟩,
  ⟨some 4, .move, [.t 26], none⟩] [] [] [2, 3, 4] false [] []
noncomputable def c35_16 : ACode := .seq c35_17 .ret
noncomputable def c35_15 : ACode := .cond (.t 25) c35_16 .skip
noncomputable def c35_13 : ACode := .seq c35_14 c35_15
noncomputable def c35_20 : ACode := .region false [⟨some 27, .move, [.t 8], none⟩,
  ⟨some 28, .move, [.t 5], none⟩,
  ⟨some 29, .len, [.t 28], none⟩,
  ⟨some 30, .bin .lss, [.t 27, .t 29], none⟩] [] [] [0, 7, 8, 30] false [] []
noncomputable def c35_23 : ACode := .region false [⟨some 31, .move, [.t 0], none⟩,
  ⟨some 32, .move, [.t 8], none⟩,
  ⟨some 33, .call 64, [.t 31, .t 32], none⟩,
  ⟨some 9, .move, [.t 33], none⟩] [] [] [0, 7, 9] true [] []
noncomputable def c35_25 : ACode := .region false [⟨some 34, .move, [.t 9], none⟩,
  ⟨some 35, .bin .neq, [.t 34, .c (.val (.int .i64 0))], none⟩] [] [] [0, 7, 9, 35] false [] []
noncomputable def c35_28 : ACode := .region false [⟨some 36, .move, [.t 9], none⟩,
  ⟨some 2, .move, [.c (.val (.pointer none))], none⟩,
  ⟨some 3, .move, [.c (.val (.slice none 0 0))], none⟩,
  ⟨some 4, .move, [.t 36], none⟩] [] [] [2, 3, 4] false [] []
noncomputable def c35_27 : ACode := .seq c35_28 .ret
noncomputable def c35_26 : ACode := .cond (.t 35) c35_27 .skip
noncomputable def c35_24 : ACode := .seq c35_25 c35_26
noncomputable def c35_22 : ACode := .seq c35_23 c35_24
noncomputable def c35_21 : ACode := .cond (.t 30) c35_22 .skip
noncomputable def c35_19 : ACode := .seq c35_20 c35_21
noncomputable def c35_30 : ACode := .region false [⟨some 37, .move, [.t 0], none⟩,
  ⟨some 38, .move, [.t 7], none⟩,
  ⟨some 39, .len, [.t 38], none⟩,
  ⟨some 40, .build [(.pointer none), (.int .i64 0)] [(0, 1), (1, 1)], [.t 37, .t 39], none⟩,
  ⟨some 41, .box 0, [.t 40], none⟩,
  ⟨some 42, .move, [.t 7], none⟩,
  ⟨some 2, .move, [.t 41], none⟩,
  ⟨some 3, .move, [.t 42], none⟩,
  ⟨some 4, .move, [.c (.val (.int .i64 0))], none⟩] [] [] [2, 3, 4] true [] []
noncomputable def c35_29 : ACode := .seq c35_30 .ret
noncomputable def c35_18 : ACode := .seq c35_19 c35_29
noncomputable def c35_12 : ACode := .seq c35_13 c35_18
noncomputable def c35_10 : ACode := .seq c35_11 c35_12
noncomputable def c35_4 : ACode := .seq c35_5 c35_10
noncomputable def c35_2 : ACode := .seq c35_3 c35_4
noncomputable def c35_0 : ACode := .seq c35_1 c35_2
noncomputable def code35 : Code := (Try.f35.body).getD .skip
theorem c35_ok : compC Try.prog 43 code35 = some (strip c35_0) := by kernel_rfl
theorem res35_ok : Try.f35.results.toList.mapM (resC Try.prog) = some [(2, none), (3, none), (4, none)] := by kernel_rfl
/- (*quidnunc/journal.Journal).Add -/
noncomputable def c40_1 : ACode := .region false [⟨some 4, .move, [.c (.val (.int .i64 0))], none⟩] [] [] [0, 1] false [] []
noncomputable def c40_3 : ACode := .region false [⟨some 10, .move, [.t 1], none⟩,
  ⟨some 11, .call 25, [.t 10], none⟩,
  ⟨some 9, .move, [.t 11], none⟩,
  ⟨some 12, .ext 0, [.t 9], none⟩,
  ⟨some 13, .ext 1, [.t 9], none⟩,
  ⟨some 5, .move, [.t 12], none⟩,
  ⟨some 6, .move, [.t 13], none⟩] [] [] [0, 5, 6] true [] []
noncomputable def c40_6 : ACode := .region false [⟨some 14, .move, [.t 6], none⟩,
  ⟨some 15, .bin .neq, [.t 14, .c (.val (.int .i64 0))], none⟩] [] [] [0, 5, 6, 15] false [] []
noncomputable def c40_9 : ACode := .region false [⟨some 16, .move, [.t 6], none⟩,
  ⟨some 4, .move, [.t 16], none⟩] [] [] [4] false [] []
noncomputable def c40_8 : ACode := .seq c40_9 .ret
noncomputable def c40_7 : ACode := .cond (.t 15) c40_8 .skip
noncomputable def c40_5 : ACode := .seq c40_6 c40_7
noncomputable def c40_12 : ACode := .region false [⟨some 17, .move, [.t 0], none⟩,
  ⟨some 18, .nilChk, [.t 17], none⟩,
  ⟨some 19, .addr 0, [.t 18], none⟩,
  ⟨some 20, .load false 1, [.t 19], none⟩,
  ⟨some 21, .move, [.t 5], none⟩,
  ⟨some 22, .call 33, [.t 20, .t 21], none⟩,
  ⟨some 7, .move, [.t 22], none⟩] [] [] [0, 7] true [] []
noncomputable def c40_14 : ACode := .region false [⟨some 23, .move, [.t 7], none⟩,
  ⟨some 24, .bin .neq, [.t 23, .c (.val (.int .i64 0))], none⟩] [] [] [0, 7, 24] false [] []
noncomputable def c40_17 : ACode := .region false [⟨some 25, .move, [.t 7], none⟩,
  ⟨some 4, .move, [.t 25], none⟩] [] [] [4] false [] []
noncomputable def c40_16 : ACode := .seq c40_17 .ret
noncomputable def c40_15 : ACode := .cond (.t 24) c40_16 .skip
noncomputable def c40_13 : ACode := .seq c40_14 c40_15
noncomputable def c40_11 : ACode := .seq c40_12 c40_13
noncomputable def c40_20 : ACode := .region false [⟨some 26, .move, [.t 0], none⟩,
  ⟨some 27, .nilChk, [.t 26], none⟩,
  ⟨some 28, .addr 0, [.t 27], none⟩,
  ⟨some 29, .load false 1, [.t 28], none⟩,
  ⟨some 30, .call 66, [.t 29], none⟩,
  ⟨some 8, .move, [.t 30], none⟩] [] [] [0, 8] true [] []
noncomputable def c40_22 : ACode := .region false [⟨some 31, .move, [.t 8], none⟩,
  ⟨some 32, .bin .neq, [.t 31, .c (.val (.int .i64 0))], none⟩] [] [] [0, 8, 32] false [] []
noncomputable def c40_25 : ACode := .region false [⟨some 33, .move, [.t 8], none⟩,
  ⟨some 4, .move, [.t 33], none⟩] [] [] [4] false [] []
noncomputable def c40_24 : ACode := .seq c40_25 .ret
noncomputable def c40_23 : ACode := .cond (.t 32) c40_24 .skip
noncomputable def c40_21 : ACode := .seq c40_22 c40_23
noncomputable def c40_19 : ACode := .seq c40_20 c40_21
noncomputable def c40_27 : ACode := .region false [⟨some 34, .move, [.t 0], none⟩,
  ⟨some 35, .nilChk, [.t 34], none⟩,
  ⟨some 36, .addr 1, [.t 35], none⟩,
  ⟨some 37, .load false 1, [.t 36], none⟩,
  ⟨some 38, .bin .add, [.t 37, .c (.val (.int .i64 1))], none⟩,
  ⟨some 39, .nilChk, [.t 34], none⟩,
  ⟨some 40, .addr 1, [.t 39], none⟩,
  ⟨none, .store 1, [.t 40, .t 38], none⟩] [] [] [] true [] []
noncomputable def c40_29 : ACode := .region false [⟨some 4, .move, [.c (.val (.int .i64 0))], none⟩] [] [] [4] false [] []
noncomputable def c40_28 : ACode := .seq c40_29 .ret
noncomputable def c40_26 : ACode := .seq c40_27 c40_28
noncomputable def c40_18 : ACode := .seq c40_19 c40_26
noncomputable def c40_10 : ACode := .seq c40_11 c40_18
noncomputable def c40_4 : ACode := .seq c40_5 c40_10
noncomputable def c40_2 : ACode := .seq c40_3 c40_4
noncomputable def c40_0 : ACode := .seq c40_1 c40_2
noncomputable def code40 : Code := (Try.f40.body).getD .skip
theorem c40_ok : compC Try.prog 41 code40 = some (strip c40_0) := by kernel_rfl
theorem res40_ok : Try.f40.results.toList.mapM (resC Try.prog) = some [(4, none)] := by kernel_rfl
/- (*quidnunc/journal.Journal).Len -/
noncomputable def c39_1 : ACode := .region false [⟨some 2, .move, [.c (.val (.int .i64 0))], none⟩] [] [] [0] false [] []
noncomputable def c39_3 : ACode := .region false [⟨some 3, .move, [.t 0], none⟩,
  ⟨some 4, .nilChk, [.t 3], none⟩,
  ⟨some 5, .addr 1, [.t 4], none⟩,
  ⟨some 6, .load false 1, [.t 5], none⟩,
  ⟨some 2, .move, [.t 6], none⟩] [] [] [2] false [] []
noncomputable def c39_2 : ACode := .seq c39_3 .ret
noncomputable def c39_0 : ACode := .seq c39_1 c39_2
noncomputable def code39 : Code := (Try.f39.body).getD .skip
theorem c39_ok : compC Try.prog 7 code39 = some (strip c39_0) := by kernel_rfl
theorem res39_ok : Try.f39.results.toList.mapM (resC Try.prog) = some [(2, none)] := by kernel_rfl
def opE (d : Dk) : Int := if (jread d.l).2.2 = true then 12 else if (jread d.l).2.1 < d.l.length then (if d.left = 0 then 11 else 0) else 0
def opD (d : Dk) : Dk := if (jread d.l).2.2 = true then d else if (jread d.l).2.1 < d.l.length then (if d.left = 0 then { d with off := true } else trimF (jread d.l).2.1 { d with left := leftU d.left }) else d
theorem jlen_any (n : Int) : ACall Try.prog 39 [.ptr 0 0] [.cells true [.any, I n]] (Det (I n) [.cells true [.any, I n]]) := by
  refine ACall.startA c39_ok Try.func39 rfl Try.ntmps39 (by kernel_rfl) res39_ok rfl rfl rfl ?_; simp (maxSteps := 9999999) (disch := omega) only [go_sem]
  (have k9 := k0; (repeat' (first | refine AWpA.seq ?_ | refine AWpA.block ?_ | (with_reducible refine CondP.tt ?_) | (with_reducible refine CondP.ff ?_) | refine AWpA.cg ?_ | ((first | refine AWpA.rg ?_ | refine AWpA.dg [] [] follows ?_ | refine TailK.tg ?_ | refine AWpA.skip ?_ | refine AWpA.exit ?_ | refine AWpA.ret ?_ | (with_reducible refine ARoundsA.succ ?_) | ((first | refine Runs.gkt (fun h9 => ?_) | refine Runs.gkf (fun h9 => ?_) | refine Runs.gnt (fun h9 => ?_) | refine Runs.gnf (fun h9 => ?_) | refine CondP.gt (fun h9 => ?_) | refine CondP.gf (fun h9 => ?_) | refine CondP.gnt (fun h9 => ?_) | refine CondP.gnf (fun h9 => ?_)); (try simp only [h9]); clear h9)); (try simp (maxSteps := 9999999) (disch := omega) only [go_sem, k9]); (try refine cnd ?_)) | ((first | refine CondP.split (fun hif => ?_) (fun hif => ?_) | refine Runs.part (fun hif => ?_) (fun hif => ?_)) <;> ((try simp only [hif]); (try simp only [BL] at hif); (try (have h9 : _ = true := hif; simp only [h9])); (try (have h9 : _ = false := hif; simp only [h9])); (try simp (maxSteps := 9999999) (disch := omega) only [go_sem, k9]); (try refine cnd ?_); (try (exfalso; omega; done)))))); (all_goals (try clear k9)))
  (apply Ret.det [0]; (focus (first | exact .inl rfl | exact .inr rfl)); (focus (simp (maxSteps := 9999999) (disch := omega) only [go_sem]; rfl)); (simp (maxSteps := 9999999) (disch := omega) only [go_sem]; (try (repeat' (first | done | trivial | rfl | exact leAs_rfl _ | decide | (refine And.intro ?_ ?_) | (simp; done) | omega | (simp; decide))))))
theorem opens_no (d : Dk) (hok : d.ok) (ho : d.off = false) (hby : ∀ x ∈ d.l, 0 ≤ x ∧ x ≤ 255) (he : opE d ≠ 0) :
    ACall Try.prog 35 [.ptr 0 0] [DkO 1 d, .cells false (bA d.l)] (Det (.tup [.val (.pointer none), FL [], I (opE d)]) [DkO 1 (opD d), .cells false (bA (opD d).l)]) := by
  have h1 := hok.l
  have c1 := dread_any d hok
  rw [show readL d = d.l by simp [readL, ho], show readE d = 0 by simp [readE, ho]] at c1
  have c2 := jread_any d.l (by omega) hby
  obtain ⟨i1, i2, i3⟩ := jread_inv d.l
  cases hz : (jread d.l).2.2
  · have hk : (jread d.l).2.1 < d.l.length ∧ d.left = 0 := by
      unfold opE at he
      rw [hz] at he
      simp only [Bool.false_eq_true, if_false] at he
      split at he
      · rename_i hlt
        split at he
        · rename_i h0; exact ⟨hlt, h0⟩
        · exact absurd rfl he
      · exact absurd rfl he
    have e1 : opE d = 11 := by unfold opE; rw [hz]; simp only [Bool.false_eq_true, if_false]; rw [if_pos hk.1, if_pos hk.2]
    have e2 : opD d = { d with off := true } := by unfold opD; rw [hz]; simp only [Bool.false_eq_true, if_false]; rw [if_pos hk.1, if_pos hk.2]
    have c3 := dtrim_any d hok (jread d.l).2.1
    have ew : trimW d (jread d.l).2.1 = 0 := by unfold trimW; rw [if_pos (by omega)]
    have ed : ∀ f, doD d 0 f = { d with off := true } := fun f => by unfold doD; simp [ho, hk.2]
    have ee : doE d 0 = 11 := by unfold doE; simp [ho, hk.2]
    rw [ew, ed, ee] at c3
    rw [hz] at c2
    rw [e1, e2]
    generalize (jread d.l).2.1 = K at *
    generalize (jread d.l).1 = R at *
    have g1 : ((K : Int) < (d.l.length : Int)) = True := eq_true (by omega)
    clear he e1 e2 ed ee ew hz
    refine ACall.startA c35_ok Try.func35 rfl Try.ntmps35 (by kernel_rfl) res35_ok rfl rfl rfl ?_; simp (maxSteps := 9999999) (disch := omega) only [go_sem]
    (have k9 := And.intro @bA_ren (And.intro @rowsB_ren (And.intro @ho (And.intro @g1 (k0)))); (repeat' (first | (refine AWpA.freeze0 66 5 rfl rfl ?_ ?_; (focus ((try simp (maxSteps := 9999999) (disch := omega) only [go_sem, k9]); first | done | omega))) | refine AWpA.seq ?_ | refine AWpA.block ?_ | (with_reducible refine CondP.tt ?_) | (with_reducible refine CondP.ff ?_) | refine AWpA.cg ?_ | ((first | refine AWpA.rg ?_ | refine AWpA.dg [] [] follows ?_ | refine TailK.tg ?_ | refine AWpA.skip ?_ | refine AWpA.exit ?_ | refine AWpA.ret ?_ | (with_reducible refine ARoundsA.succ ?_) | ((first | refine Runs.gkt (fun h9 => ?_) | refine Runs.gkf (fun h9 => ?_) | refine Runs.gnt (fun h9 => ?_) | refine Runs.gnf (fun h9 => ?_) | refine CondP.gt (fun h9 => ?_) | refine CondP.gf (fun h9 => ?_) | refine CondP.gnt (fun h9 => ?_) | refine CondP.gnf (fun h9 => ?_)); (try simp only [h9]); clear h9) | refine CallG.pg [0, 1] (c1) ?_ | refine CallG.pg [] (c2) ?_ | refine CallG.pg [0, 1] (c3) ?_ | refine CallG.dg [0, 1] (c1) ?_ | refine CallG.dg [] (c2) ?_ | refine CallG.dg [0, 1] (c3) ?_); (try simp (maxSteps := 9999999) (disch := omega) only [go_sem, k9]); (try refine cnd ?_)) | ((first | refine CondP.split (fun hif => ?_) (fun hif => ?_) | refine Runs.part (fun hif => ?_) (fun hif => ?_)) <;> ((try simp only [hif]); (try simp only [BL] at hif); (try (have h9 : _ = true := hif; simp only [h9])); (try (have h9 : _ = false := hif; simp only [h9])); (try simp (maxSteps := 9999999) (disch := omega) only [go_sem, k9]); (try refine cnd ?_); (try (exfalso; omega; done)))))); (all_goals (try clear k9)))
    (apply Ret.det [0, 1]; (focus (first | exact .inl rfl | exact .inr rfl)); (focus (simp (maxSteps := 9999999) (disch := omega) only [go_sem, bA_ren, rowsB_nil, ho]; rfl)); (simp (maxSteps := 9999999) (disch := omega) only [go_sem, bA_ren, rowsB_nil, ho]; (try (repeat' (first | done | trivial | rfl | exact leAs_rfl _ | decide | (refine And.intro ?_ ?_) | (simp; done) | omega | (simp; decide))))))
  · have e1 : opE d = 12 := by unfold opE; rw [hz]; rfl
    have e2 : opD d = d := by unfold opD; rw [hz]; rfl
    rw [hz] at c2
    rw [e1, e2]
    generalize (jread d.l).2.1 = K at *
    generalize (jread d.l).1 = R at *
    clear he e1 e2 hz
    refine ACall.startA c35_ok Try.func35 rfl Try.ntmps35 (by kernel_rfl) res35_ok rfl rfl rfl ?_; simp (maxSteps := 9999999) (disch := omega) only [go_sem]
    (have k9 := And.intro @bA_ren (And.intro @rowsB_ren (And.intro @ho (k0))); (repeat' (first | (refine AWpA.freeze0 66 5 rfl rfl ?_ ?_; (focus ((try simp (maxSteps := 9999999) (disch := omega) only [go_sem, k9]); first | done | omega))) | refine AWpA.seq ?_ | refine AWpA.block ?_ | (with_reducible refine CondP.tt ?_) | (with_reducible refine CondP.ff ?_) | refine AWpA.cg ?_ | ((first | refine AWpA.rg ?_ | refine AWpA.dg [] [] follows ?_ | refine TailK.tg ?_ | refine AWpA.skip ?_ | refine AWpA.exit ?_ | refine AWpA.ret ?_ | (with_reducible refine ARoundsA.succ ?_) | ((first | refine Runs.gkt (fun h9 => ?_) | refine Runs.gkf (fun h9 => ?_) | refine Runs.gnt (fun h9 => ?_) | refine Runs.gnf (fun h9 => ?_) | refine CondP.gt (fun h9 => ?_) | refine CondP.gf (fun h9 => ?_) | refine CondP.gnt (fun h9 => ?_) | refine CondP.gnf (fun h9 => ?_)); (try simp only [h9]); clear h9) | refine CallG.pg [0, 1] (c1) ?_ | refine CallG.pg [] (c2) ?_ | refine CallG.dg [0, 1] (c1) ?_ | refine CallG.dg [] (c2) ?_); (try simp (maxSteps := 9999999) (disch := omega) only [go_sem, k9]); (try refine cnd ?_)) | ((first | refine CondP.split (fun hif => ?_) (fun hif => ?_) | refine Runs.part (fun hif => ?_) (fun hif => ?_)) <;> ((try simp only [hif]); (try simp only [BL] at hif); (try (have h9 : _ = true := hif; simp only [h9])); (try (have h9 : _ = false := hif; simp only [h9])); (try simp (maxSteps := 9999999) (disch := omega) only [go_sem, k9]); (try refine cnd ?_); (try (exfalso; omega; done)))))); (all_goals (try clear k9)))
    (apply Ret.det [0, 1]; (focus (first | exact .inl rfl | exact .inr rfl)); (focus (simp (maxSteps := 9999999) (disch := omega) only [go_sem, bA_ren, rowsB_nil, ho]; rfl)); (simp (maxSteps := 9999999) (disch := omega) only [go_sem, bA_ren, rowsB_nil, ho]; (try (repeat' (first | done | trivial | rfl | exact leAs_rfl _ | decide | (refine And.intro ?_ ?_) | (simp; done) | omega | (simp; decide))))))
theorem opens_ok (d : Dk) (hok : d.ok) (ho : d.off = false) (hby : ∀ x ∈ d.l, 0 ≤ x ∧ x ≤ 255) (he : opE d = 0) :
    ACall Try.prog 35 [.ptr 0 0] [DkO 1 d, .cells false (bA d.l)] (Det (.tup [.ptr 2 0, FL (jread d.l).1, I 0]) [DkO 1 (opD d), .cells false (bA (opD d).l), .cells false [.ptr 0 0, I (jread d.l).1.length]]) := by
  have h1 := hok.l
  have c1 := dread_any d hok
  rw [show readL d = d.l by simp [readL, ho], show readE d = 0 by simp [readE, ho]] at c1
  have c2 := jread_any d.l (by omega) hby
  obtain ⟨i1, i2, i3⟩ := jread_inv d.l
  have hz : (jread d.l).2.2 = false := by
    cases hz : (jread d.l).2.2
    · rfl
    · unfold opE at he; rw [hz] at he; cases he
  by_cases hk : (jread d.l).2.1 < d.l.length
  · have h0 : d.left ≠ 0 := fun h0 => by
      unfold opE at he
      rw [hz] at he
      simp only [Bool.false_eq_true, if_false] at he
      rw [if_pos hk, if_pos h0] at he
      cases he
    have e2 : opD d = trimF (jread d.l).2.1 { d with left := leftU d.left } := by unfold opD; rw [hz]; simp only [Bool.false_eq_true, if_false]; rw [if_pos hk, if_neg h0]
    have c3 := dtrim_any d hok (jread d.l).2.1
    have ew : trimW d (jread d.l).2.1 = 0 := by unfold trimW; rw [if_pos (by omega)]
    have ed : ∀ f, doD d 0 f = f { d with left := leftU d.left } := fun f => by unfold doD; simp [ho, h0]
    have ee : doE d 0 = 0 := by unfold doE; simp [ho, h0]
    rw [ew, ed, ee, Int.toNat_natCast, ← e2] at c3
    have ho2 : (opD d).off = false := by rw [e2]; exact ho
    rw [hz] at c2
    generalize opD d = D at *
    generalize (jread d.l).2.1 = K at *
    generalize (jread d.l).1 = R at *
    have g1 : ((K : Int) < (d.l.length : Int)) = True := eq_true (by omega)
    clear he e2 ed ee ew hz
    refine ACall.startA c35_ok Try.func35 rfl Try.ntmps35 (by kernel_rfl) res35_ok rfl rfl rfl ?_; simp (maxSteps := 9999999) (disch := omega) only [go_sem]
    (have k9 := And.intro @bA_ren (And.intro @rowsB_ren (And.intro @ho (And.intro @g1 (k0)))); (repeat' (first | (refine AWpA.freeze0 66 5 rfl rfl ?_ ?_; (focus ((try simp (maxSteps := 9999999) (disch := omega) only [go_sem, k9]); first | done | omega))) | refine AWpA.seq ?_ | refine AWpA.block ?_ | (with_reducible refine CondP.tt ?_) | (with_reducible refine CondP.ff ?_) | refine AWpA.cg ?_ | ((first | refine AWpA.rg ?_ | refine AWpA.dg [] [] follows ?_ | refine TailK.tg ?_ | refine AWpA.skip ?_ | refine AWpA.exit ?_ | refine AWpA.ret ?_ | (with_reducible refine ARoundsA.succ ?_) | ((first | refine Runs.gkt (fun h9 => ?_) | refine Runs.gkf (fun h9 => ?_) | refine Runs.gnt (fun h9 => ?_) | refine Runs.gnf (fun h9 => ?_) | refine CondP.gt (fun h9 => ?_) | refine CondP.gf (fun h9 => ?_) | refine CondP.gnt (fun h9 => ?_) | refine CondP.gnf (fun h9 => ?_)); (try simp only [h9]); clear h9) | refine CallG.pg [0, 1] (c1) ?_ | refine CallG.pg [] (c2) ?_ | refine CallG.pg [0, 1] (c3) ?_ | refine CallG.dg [0, 1] (c1) ?_ | refine CallG.dg [] (c2) ?_ | refine CallG.dg [0, 1] (c3) ?_); (try simp (maxSteps := 9999999) (disch := omega) only [go_sem, k9]); (try refine cnd ?_)) | ((first | refine CondP.split (fun hif => ?_) (fun hif => ?_) | refine Runs.part (fun hif => ?_) (fun hif => ?_)) <;> ((try simp only [hif]); (try simp only [BL] at hif); (try (have h9 : _ = true := hif; simp only [h9])); (try (have h9 : _ = false := hif; simp only [h9])); (try simp (maxSteps := 9999999) (disch := omega) only [go_sem, k9]); (try refine cnd ?_); (try (exfalso; omega; done)))))); (all_goals (try clear k9)))
    (apply Ret.det [0, 1, _]; (focus (first | exact .inl rfl | exact .inr rfl)); (focus (simp (maxSteps := 9999999) (disch := omega) only [go_sem, bA_ren, rowsB_ren, ho]; rfl)); (simp (maxSteps := 9999999) (disch := omega) only [go_sem, bA_ren, rowsB_ren, ho]; (try (repeat' (first | done | trivial | rfl | exact leAs_rfl _ | decide | (refine And.intro ?_ ?_) | (simp; done) | omega | (simp; decide))))))
  · have e2 : opD d = d := by unfold opD; rw [hz]; simp only [Bool.false_eq_true, if_false]; rw [if_neg hk]
    rw [hz] at c2
    rw [e2]
    generalize (jread d.l).2.1 = K at *
    generalize (jread d.l).1 = R at *
    have g1 : ((K : Int) < (d.l.length : Int)) = False := eq_false (by omega)
    clear he e2 hz
    refine ACall.startA c35_ok Try.func35 rfl Try.ntmps35 (by kernel_rfl) res35_ok rfl rfl rfl ?_; simp (maxSteps := 9999999) (disch := omega) only [go_sem]
    (have k9 := And.intro @bA_ren (And.intro @rowsB_ren (And.intro @ho (And.intro @g1 (k0)))); (repeat' (first | (refine AWpA.freeze0 66 5 rfl rfl ?_ ?_; (focus ((try simp (maxSteps := 9999999) (disch := omega) only [go_sem, k9]); first | done | omega))) | refine AWpA.seq ?_ | refine AWpA.block ?_ | (with_reducible refine CondP.tt ?_) | (with_reducible refine CondP.ff ?_) | refine AWpA.cg ?_ | ((first | refine AWpA.rg ?_ | refine AWpA.dg [] [] follows ?_ | refine TailK.tg ?_ | refine AWpA.skip ?_ | refine AWpA.exit ?_ | refine AWpA.ret ?_ | (with_reducible refine ARoundsA.succ ?_) | ((first | refine Runs.gkt (fun h9 => ?_) | refine Runs.gkf (fun h9 => ?_) | refine Runs.gnt (fun h9 => ?_) | refine Runs.gnf (fun h9 => ?_) | refine CondP.gt (fun h9 => ?_) | refine CondP.gf (fun h9 => ?_) | refine CondP.gnt (fun h9 => ?_) | refine CondP.gnf (fun h9 => ?_)); (try simp only [h9]); clear h9) | refine CallG.pg [0, 1] (c1) ?_ | refine CallG.pg [] (c2) ?_ | refine CallG.dg [0, 1] (c1) ?_ | refine CallG.dg [] (c2) ?_); (try simp (maxSteps := 9999999) (disch := omega) only [go_sem, k9]); (try refine cnd ?_)) | ((first | refine CondP.split (fun hif => ?_) (fun hif => ?_) | refine Runs.part (fun hif => ?_) (fun hif => ?_)) <;> ((try simp only [hif]); (try simp only [BL] at hif); (try (have h9 : _ = true := hif; simp only [h9])); (try (have h9 : _ = false := hif; simp only [h9])); (try simp (maxSteps := 9999999) (disch := omega) only [go_sem, k9]); (try refine cnd ?_); (try (exfalso; omega; done)))))); (all_goals (try clear k9)))
    (apply Ret.det [0, 1, _]; (focus (first | exact .inl rfl | exact .inr rfl)); (focus (simp (maxSteps := 9999999) (disch := omega) only [go_sem, bA_ren, rowsB_ren, ho]; rfl)); (simp (maxSteps := 9999999) (disch := omega) only [go_sem, bA_ren, rowsB_ren, ho]; (try (repeat' (first | done | trivial | rfl | exact leAs_rfl _ | decide | (refine And.intro ?_ ?_) | (simp; done) | omega | (simp; decide))))))
theorem dapp_fz (d : Dk) (hok : d.ok) {b : List Int} {n : Nat} (hn : b.length = n) (hl : n ≤ 1099511627776) : ACall Try.prog 33 [.ptr 0 0, .fz 1 n (bA b)] [DkO 1 d, .cells false (bA d.l)] (Det (I (doE d (appW d n))) [DkO 2 (doD d (appW d n) (appF b)), .gone, .cells false (bA (doD d (appW d n) (appF b)).l), .gone]) := by
  subst hn
  refine ACall.fzD (v := I (doE d (appW d b.length))) (H1 := [DkO 3 (doD d (appW d b.length) (appF b)), .gone]) (H1' := [DkO 2 (doD d (appW d b.length) (appF b)), .gone]) (N := [.cells false (bA (doD d (appW d b.length) (appF b)).l)]) (N' := [.cells false (bA (doD d (appW d b.length) (appF b)).l)]) 2 1 (by kernel_rfl) rfl rfl (fun n _ o ho hw => ?_) (fun off => ?_) rfl rfl rfl ?_
  · simp only [List.mem_cons, List.not_mem_nil, or_false] at ho
    rcases ho with rfl | rfl <;> cases hw
  · exact dapp_any d hok (Seg.zz off hl)
  · simp only [List.map_cons, List.map_nil, renO, bA_ren]
def adE1 (d : Dk) (b : List Int) : Int := doE d (appW d (b.length + 10))
def adD1 (d : Dk) (b : List Int) : Dk := doD d (appW d (b.length + 10)) (appF (recB b))
def adE (d : Dk) (b : List Int) : Int := if recE b ≠ 0 then recE b else if adE1 d b ≠ 0 then adE1 d b else doE (adD1 d b) 0
def adD (d : Dk) (b : List Int) : Dk := if recE b ≠ 0 then d else if adE1 d b ≠ 0 then adD1 d b else doD (adD1 d b) 0 syncF
theorem adD1_ok {d : Dk} (hok : d.ok) (b : List Int) (_hb : recE b = 0) : (adD1 d b).ok := by
  unfold adD1
  obtain ⟨h1, h2, h3, h4⟩ := hok
  have hu := leftU_ok h3 h4
  have hr := recB_len b
  rcases doD_cases d (appW d (b.length + 10)) (appF (recB b)) with ⟨_, e, _⟩ | ⟨_, _, e, _⟩ | ⟨_, _, _, e, _⟩ | ⟨_, e0, _, e, _⟩
  · rw [e]; exact ⟨h1, h2, h3, h4⟩
  · rw [e]; exact ⟨h1, h2, h3, h4⟩
  · rw [e]; exact ⟨h1, h2, h3, h4⟩
  · rw [e]
    unfold appW at e0
    split at e0
    · exact ⟨by simp [appF]; omega, by simp [appF]; omega, hu.1, hu.2⟩
    · cases e0
theorem adD_ok {d : Dk} (hok : d.ok) (b : List Int) : (adD d b).ok := by
  unfold adD
  split
  · exact hok
  · rename_i hb
    have h1 := adD1_ok hok b (by simpa using hb)
    split
    · exact h1
    · obtain ⟨g1, g2, g3, g4⟩ := h1
      have hu := leftU_ok g3 g4
      rcases doD_cases (adD1 d b) 0 syncF with ⟨_, e, _⟩ | ⟨_, _, e, _⟩ | ⟨_, _, _, e, _⟩ | ⟨_, e0, _, e, _⟩
      · rw [e]; exact ⟨g1, g2, g3, g4⟩
      · rw [e]; exact ⟨g1, g2, g3, g4⟩
      · rw [e]; exact ⟨g1, g2, g3, g4⟩
      · rw [e]; exact ⟨Nat.le_refl _, g2, hu.1, hu.2⟩
theorem jadd_any (d : Dk) (hok : d.ok) (b : List Int) (n : Nat) (hn : n ≤ 1099511627776) (hl : b.length ≤ 1099511627776) (hby : ∀ x ∈ b, 0 ≤ x ∧ x ≤ 255) :
    ACall Try.prog 40 [.ptr 0 0, fzB b] [.cells false [.ptr 1 0, I n], DkO 2 d, .cells false (bA d.l)]
      (Det (I (adE d b)) [.cells false [.ptr 1 0, I (if adE d b = 0 then ((n + 1 : Nat) : Int) else (n : Int))], DkO 3 (adD d b), .gone, .cells false (bA (adD d b).l)]) := by
  have c1 := rec_any b hl hby
  by_cases hr : recE b = 0
  case neg =>
    have e1 : adE d b = recE b := by unfold adE; rw [if_pos hr]
    have e2 : adD d b = d := by unfold adD; rw [if_pos hr]
    have g1 : (recE b != 0) = true := by rw [bne_iff_ne]; exact hr
    have hn0 : (if recE b = 0 then ((n + 1 : Nat) : Int) else (n : Int)) = n := if_neg hr
    rw [e1, e2, hn0]
    generalize recE b = E at *
    generalize recR b = B at *
    clear e1 e2 hn0
    refine ACall.startA c40_ok Try.func40 rfl Try.ntmps40 (by kernel_rfl) res40_ok rfl rfl rfl ?_; simp (maxSteps := 9999999) (disch := omega) only [go_sem]
    (have k9 := And.intro @bA_ren (And.intro @g1 (k0)); (repeat' (first | refine AWpA.seq ?_ | refine AWpA.block ?_ | (with_reducible refine CondP.tt ?_) | (with_reducible refine CondP.ff ?_) | refine AWpA.cg ?_ | ((first | refine AWpA.rg ?_ | refine AWpA.dg [] [] follows ?_ | refine TailK.tg ?_ | refine AWpA.skip ?_ | refine AWpA.exit ?_ | refine AWpA.ret ?_ | (with_reducible refine ARoundsA.succ ?_) | ((first | refine Runs.gkt (fun h9 => ?_) | refine Runs.gkf (fun h9 => ?_) | refine Runs.gnt (fun h9 => ?_) | refine Runs.gnf (fun h9 => ?_) | refine CondP.gt (fun h9 => ?_) | refine CondP.gf (fun h9 => ?_) | refine CondP.gnt (fun h9 => ?_) | refine CondP.gnf (fun h9 => ?_)); (try simp only [h9]); clear h9) | refine CallG.pg [] (c1) ?_ | refine CallG.dg [] (c1) ?_); (try simp (maxSteps := 9999999) (disch := omega) only [go_sem, k9]); (try refine cnd ?_)) | ((first | refine CondP.split (fun hif => ?_) (fun hif => ?_) | refine Runs.part (fun hif => ?_) (fun hif => ?_)) <;> ((try simp only [hif]); (try simp only [BL] at hif); (try (have h9 : _ = true := hif; simp only [h9])); (try (have h9 : _ = false := hif; simp only [h9])); (try simp (maxSteps := 9999999) (disch := omega) only [go_sem, k9]); (try refine cnd ?_); (try (exfalso; omega; done)))))); (all_goals (try clear k9)))
    (apply Ret.det [0, 1, 2, 2]; (focus (first | exact .inl rfl | exact .inr rfl)); (focus (simp (maxSteps := 9999999) (disch := omega) only [go_sem, bA_ren]; rfl)); (simp (maxSteps := 9999999) (disch := omega) only [go_sem, bA_ren]; (try (repeat' (first | done | trivial | rfl | exact leAs_rfl _ | decide | (refine And.intro ?_ ?_) | (simp; done) | omega | (simp; decide))))))
  have er : recR b = recB b := by unfold recR; rw [if_pos hr]
  rw [hr, er] at c1
  have c2 := dapp_fz d hok (recB_len b) (by have := (recE_0 hr).2; omega)
  rw [show doE d (appW d (b.length + 10)) = adE1 d b from rfl, show doD d (appW d (b.length + 10)) (appF (recB b)) = adD1 d b from rfl] at c2
  have hlr := recB_len b
  by_cases h1 : adE1 d b = 0
  case neg =>
    have e1 : adE d b = adE1 d b := by unfold adE; rw [if_neg (by simpa using hr), if_pos h1]
    have e2 : adD d b = adD1 d b := by unfold adD; rw [if_neg (by simpa using hr), if_pos h1]
    have g1 : (adE1 d b != 0) = true := by rw [bne_iff_ne]; exact h1
    have hn0 : (if adE1 d b = 0 then ((n + 1 : Nat) : Int) else (n : Int)) = n := if_neg h1
    rw [e1, e2, hn0]
    generalize adE1 d b = E at *
    generalize adD1 d b = D at *
    generalize recB b = B at *
    clear e1 e2 hn0
    refine ACall.startA c40_ok Try.func40 rfl Try.ntmps40 (by kernel_rfl) res40_ok rfl rfl rfl ?_; simp (maxSteps := 9999999) (disch := omega) only [go_sem]
    (have k9 := And.intro @bA_ren (And.intro @g1 (And.intro @hlr (k0))); (repeat' (first | refine AWpA.seq ?_ | refine AWpA.block ?_ | (with_reducible refine CondP.tt ?_) | (with_reducible refine CondP.ff ?_) | refine AWpA.cg ?_ | ((first | refine AWpA.rg ?_ | refine AWpA.dg [] [] follows ?_ | refine TailK.tg ?_ | refine AWpA.skip ?_ | refine AWpA.exit ?_ | refine AWpA.ret ?_ | (with_reducible refine ARoundsA.succ ?_) | ((first | refine Runs.gkt (fun h9 => ?_) | refine Runs.gkf (fun h9 => ?_) | refine Runs.gnt (fun h9 => ?_) | refine Runs.gnf (fun h9 => ?_) | refine CondP.gt (fun h9 => ?_) | refine CondP.gf (fun h9 => ?_) | refine CondP.gnt (fun h9 => ?_) | refine CondP.gnf (fun h9 => ?_)); (try simp only [h9]); clear h9) | refine CallG.pg [] (c1) ?_ | refine CallG.pg [1, 2] (c2) ?_ | refine CallG.dg [] (c1) ?_ | refine CallG.dg [1, 2] (c2) ?_); (try simp (maxSteps := 9999999) (disch := omega) only [go_sem, k9]); (try refine cnd ?_)) | ((first | refine CondP.split (fun hif => ?_) (fun hif => ?_) | refine Runs.part (fun hif => ?_) (fun hif => ?_)) <;> ((try simp only [hif]); (try simp only [BL] at hif); (try (have h9 : _ = true := hif; simp only [h9])); (try (have h9 : _ = false := hif; simp only [h9])); (try simp (maxSteps := 9999999) (disch := omega) only [go_sem, k9]); (try refine cnd ?_); (try (exfalso; omega; done)))))); (all_goals (try clear k9)))
    (apply Ret.det [0, 1, 2, _]; (focus (first | exact .inl rfl | exact .inr rfl)); (focus (simp (maxSteps := 9999999) (disch := omega) only [go_sem, bA_ren]; rfl)); (simp (maxSteps := 9999999) (disch := omega) only [go_sem, bA_ren]; (try (repeat' (first | done | trivial | rfl | exact leAs_rfl _ | decide | (refine And.intro ?_ ?_) | (simp; done) | omega | (simp; decide))))))
  have e1 : adE d b = doE (adD1 d b) 0 := by unfold adE; rw [if_neg (by simpa using hr), if_neg (by simpa using h1)]
  have e2 : adD d b = doD (adD1 d b) 0 syncF := by unfold adD; rw [if_neg (by simpa using hr), if_neg (by simpa using h1)]
  have hok1 := adD1_ok hok b hr
  have c3 := dsync_any (adD1 d b) hok1
  rw [← e1, ← e2] at c3
  have hll : (adD d b).l = (adD1 d b).l := by
    rw [e2]
    rcases doD_cases (adD1 d b) 0 syncF with ⟨_, e, _⟩ | ⟨_, _, e, _⟩ | ⟨_, _, _, e, _⟩ | ⟨_, e0, _, e, _⟩ <;> rw [e] <;> rfl
  rw [h1] at c2
  generalize adE1 d b = E1 at *
  generalize adE d b = E at *
  generalize adD1 d b = D1 at *
  generalize adD d b = D at *
  generalize recB b = B at *
  clear e1 e2
  by_cases he : E = 0
  · subst he
    rw [if_pos rfl]
    refine ACall.startA c40_ok Try.func40 rfl Try.ntmps40 (by kernel_rfl) res40_ok rfl rfl rfl ?_; simp (maxSteps := 9999999) (disch := omega) only [go_sem]
    (have k9 := And.intro @bA_ren (And.intro @hlr (k0)); (repeat' (first | refine AWpA.seq ?_ | refine AWpA.block ?_ | (with_reducible refine CondP.tt ?_) | (with_reducible refine CondP.ff ?_) | refine AWpA.cg ?_ | ((first | refine AWpA.rg ?_ | refine AWpA.dg [] [] follows ?_ | refine TailK.tg ?_ | refine AWpA.skip ?_ | refine AWpA.exit ?_ | refine AWpA.ret ?_ | (with_reducible refine ARoundsA.succ ?_) | ((first | refine Runs.gkt (fun h9 => ?_) | refine Runs.gkf (fun h9 => ?_) | refine Runs.gnt (fun h9 => ?_) | refine Runs.gnf (fun h9 => ?_) | refine CondP.gt (fun h9 => ?_) | refine CondP.gf (fun h9 => ?_) | refine CondP.gnt (fun h9 => ?_) | refine CondP.gnf (fun h9 => ?_)); (try simp only [h9]); clear h9) | refine CallG.pg [] (c1) ?_ | refine CallG.pg [1, 2] (c2) ?_ | refine CallG.pg [1, 243] (c3) ?_ | refine CallG.dg [] (c1) ?_ | refine CallG.dg [1, 2] (c2) ?_ | refine CallG.dg [1, 243] (c3) ?_); (try simp (maxSteps := 9999999) (disch := omega) only [go_sem, k9]); (try refine cnd ?_)) | ((first | refine CondP.split (fun hif => ?_) (fun hif => ?_) | refine Runs.part (fun hif => ?_) (fun hif => ?_)) <;> ((try simp only [hif]); (try simp only [BL] at hif); (try (have h9 : _ = true := hif; simp only [h9])); (try (have h9 : _ = false := hif; simp only [h9])); (try simp (maxSteps := 9999999) (disch := omega) only [go_sem, k9]); (try refine cnd ?_); (try (exfalso; omega; done)))))); (all_goals (try clear k9)))
    (apply Ret.det [0, 1, 2, 243]; (focus (first | exact .inl rfl | exact .inr rfl)); (focus (simp (maxSteps := 9999999) (disch := omega) only [go_sem, bA_ren, hll]; rfl)); (simp (maxSteps := 9999999) (disch := omega) only [go_sem, bA_ren, hll]; (try (repeat' (first | done | trivial | rfl | exact leAs_rfl _ | decide | (refine And.intro ?_ ?_) | (simp; done) | omega | (simp; decide))))))
  · have g1 : (E != 0) = true := by rw [bne_iff_ne]; exact he
    rw [if_neg he]
    refine ACall.startA c40_ok Try.func40 rfl Try.ntmps40 (by kernel_rfl) res40_ok rfl rfl rfl ?_; simp (maxSteps := 9999999) (disch := omega) only [go_sem]
    (have k9 := And.intro @bA_ren (And.intro @g1 (And.intro @hlr (k0))); (repeat' (first | refine AWpA.seq ?_ | refine AWpA.block ?_ | (with_reducible refine CondP.tt ?_) | (with_reducible refine CondP.ff ?_) | refine AWpA.cg ?_ | ((first | refine AWpA.rg ?_ | refine AWpA.dg [] [] follows ?_ | refine TailK.tg ?_ | refine AWpA.skip ?_ | refine AWpA.exit ?_ | refine AWpA.ret ?_ | (with_reducible refine ARoundsA.succ ?_) | ((first | refine Runs.gkt (fun h9 => ?_) | refine Runs.gkf (fun h9 => ?_) | refine Runs.gnt (fun h9 => ?_) | refine Runs.gnf (fun h9 => ?_) | refine CondP.gt (fun h9 => ?_) | refine CondP.gf (fun h9 => ?_) | refine CondP.gnt (fun h9 => ?_) | refine CondP.gnf (fun h9 => ?_)); (try simp only [h9]); clear h9) | refine CallG.pg [] (c1) ?_ | refine CallG.pg [1, 2] (c2) ?_ | refine CallG.pg [1, 243] (c3) ?_ | refine CallG.dg [] (c1) ?_ | refine CallG.dg [1, 2] (c2) ?_ | refine CallG.dg [1, 243] (c3) ?_); (try simp (maxSteps := 9999999) (disch := omega) only [go_sem, k9]); (try refine cnd ?_)) | ((first | refine CondP.split (fun hif => ?_) (fun hif => ?_) | refine Runs.part (fun hif => ?_) (fun hif => ?_)) <;> ((try simp only [hif]); (try simp only [BL] at hif); (try (have h9 : _ = true := hif; simp only [h9])); (try (have h9 : _ = false := hif; simp only [h9])); (try simp (maxSteps := 9999999) (disch := omega) only [go_sem, k9]); (try refine cnd ?_); (try (exfalso; omega; done)))))); (all_goals (try clear k9)))
    (apply Ret.det [0, 1, 2, 243]; (focus (first | exact .inl rfl | exact .inr rfl)); (focus (simp (maxSteps := 9999999) (disch := omega) only [go_sem, bA_ren, hll]; rfl)); (simp (maxSteps := 9999999) (disch := omega) only [go_sem, bA_ren, hll]; (try (repeat' (first | done | trivial | rfl | exact leAs_rfl _ | decide | (refine And.intro ?_ ?_) | (simp; done) | omega | (simp; decide))))))
end Go.Proofs.Ythbpdmlbfnjoiaa
