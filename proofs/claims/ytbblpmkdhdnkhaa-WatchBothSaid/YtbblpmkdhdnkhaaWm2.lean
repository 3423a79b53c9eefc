/- Contracts: which tables are alike. -/
import Derived.Test.YtbblpmkdhdnkhaaBw4
namespace Go.Proofs.Ytbblpmkdhdnkhaa
set_option linter.unusedSimpArgs false
set_option linter.unusedVariables false
set_option maxHeartbeats 4000000
open Go Go.Am Go.RowKit
set_option maxRecDepth 100000
/-- The same entry, but for age and keepers? -/
def likeE (x y : En) : Bool := decide (bareE x = bareE y)
def alikeB (l m : List En) : Bool := decide (l.map bareE = m.map bareE)
theorem alike_len {l m : List En} (h : l.length ≠ m.length) : alikeB l m = false := decide_eq_false fun e => h (by have := congrArg List.length e; simpa using this)
theorem alike_no {l m : List En} {i : Nat} (hi : i < l.length) (hm : i < m.length) (h : likeE l[i] m[i] = false) : alikeB l m = false := decide_eq_false fun e => by
  have h2 : bareE l[i] = bareE m[i] := by
    have h3 : (l.map bareE)[i]? = (m.map bareE)[i]? := by rw [e]
    simpa [List.getElem?_eq_getElem hi, List.getElem?_eq_getElem hm] using h3
  rw [likeE, decide_eq_true h2] at h
  cases h
theorem alike_yes {l m : List En} (hl : l.length = m.length) (h : ∀ i (h1 : i < l.length) (h2 : i < m.length), likeE l[i] m[i] = true) : alikeB l m = true := decide_eq_true (by
  apply List.ext_getElem
  · simpa using hl
  · intro i h1 h2
    simp only [List.length_map] at h1 h2
    have := of_decide_eq_true (h i h1 h2)
    simpa using this)
/- quidnunc/watch.Alike$1 -/
noncomputable def c51_1 : ACode := .region false [⟨some 2, .box 0, [.t 0], none⟩,
  ⟨some 3, .box 0, [.t 1], none⟩,
  ⟨some 4, .move, [.c (.val (.bool false))], none⟩] [] [] [2, 3] true [] []
noncomputable def c51_3 : ACode := .region true [⟨some 5, .load true 9, [.t 2], none⟩,
  ⟨some 6, .call 52, [.t 5], none⟩,
  ⟨some 7, .load true 9, [.t 3], none⟩,
  ⟨some 8, .call 52, [.t 7], none⟩,
  ⟨some 9, .eqA false [(0, 1), (1, 1), (2, 2), (3, 0), (4, 0), (5, 0), (6, 0), (7, 0), (8, 0)], [.t 6, .t 8], none⟩,
  ⟨some 4, .move, [.t 9], none⟩] [] [] [4] true [] []
noncomputable def c51_2 : ACode := .seq c51_3 .ret
noncomputable def c51_0 : ACode := .seq c51_1 c51_2
noncomputable def code51 : Code := (Try.f51.body).getD .skip
theorem c51_ok : compC Try.prog 10 code51 = some (strip c51_0) := by kernel_rfl
theorem res51_ok : Try.f51.results.toList.mapM (resC Try.prog) = some [(4, none)] := by kernel_rfl
/- slices.EqualFunc[[]quidnunc/api.Entry,[]quidnunc/api.Entry,quidnunc/api.Entry,quidnunc/api.Entry] -/
noncomputable def c50_1 : ACode := .region false [⟨some 6, .move, [.c (.val (.bool false))], none⟩] [] [] [0, 1, 2] false [] []
noncomputable def c50_4 : ACode := .region false [⟨some 10, .move, [.t 0], none⟩,
  ⟨some 11, .len, [.t 10], none⟩,
  ⟨some 12, .move, [.t 1], none⟩,
  ⟨some 13, .len, [.t 12], none⟩,
  ⟨some 14, .bin .neq, [.t 11, .t 13], none⟩] [] [] [0, 1, 2, 14] false [] []
noncomputable def c50_7 : ACode := .region false [⟨some 6, .move, [.c (.val (.bool false))], none⟩] [] [] [6] false [] []
noncomputable def c50_6 : ACode := .seq c50_7 .ret
noncomputable def c50_5 : ACode := .cond (.t 14) c50_6 .skip
noncomputable def c50_3 : ACode := .seq c50_4 c50_5
noncomputable def c50_10 : ACode := .region false [⟨some 15, .move, [.t 0], none⟩,
  ⟨some 16, .len, [.t 15], none⟩,
  ⟨some 17, .move, [.c (.val (.int .i64 0))], none⟩] [] [] [1, 2, 15, 16, 17] false [] []
noncomputable def c50_14 : ACode := .region false [⟨some 18, .bin .lss, [.t 17, .t 16], none⟩] [] [] [1, 2, 15, 16, 17, 18] false [] []
noncomputable def c50_16 : ACode := .cond (.t 18) .skip (.exit 0)
noncomputable def c50_20 : ACode := .region false [⟨some 19, .move, [.t 17], none⟩,
  ⟨some 20, .ixS 9, [.t 15, .t 17], none⟩,
  ⟨some 21, .load true 9, [.t 20], none⟩,
  ⟨some 8, .alloc [(.string ⟨#[]⟩), (.string ⟨#[]⟩), (.bool false), (.int .i64 0), (.int .i64 0), (.int .i64 0), (.int .i64 0), (.int .i64 0), (.int .i64 0)], [], none⟩,
  ⟨some 7, .move, [.t 19], none⟩,
  ⟨none, .store 9, [.t 8, .t 21], none⟩] [] [] [1, 2, 7, 8, 15, 16, 17] true [] []
noncomputable def c50_22 : ACode := .region false [⟨some 22, .move, [.t 1], none⟩,
  ⟨some 23, .move, [.t 7], none⟩,
  ⟨some 24, .ixS 9, [.t 22, .t 23], none⟩,
  ⟨some 25, .load true 9, [.t 24], none⟩,
  ⟨some 9, .alloc [(.string ⟨#[]⟩), (.string ⟨#[]⟩), (.bool false), (.int .i64 0), (.int .i64 0), (.int .i64 0), (.int .i64 0), (.int .i64 0), (.int .i64 0)], [], none⟩,
  ⟨none, .store 9, [.t 9, .t 25], none⟩] [] [] [1, 2, 8, 9, 15, 16, 17] true [] []
noncomputable def c50_24 : ACode := .region false [⟨some 26, .move, [.t 2], none⟩,
  ⟨some 27, .load true 9, [.t 8], none⟩,
  ⟨some 28, .load true 9, [.t 9], none⟩,
  ⟨some 29, .callv, [.t 26, .t 27, .t 28], none⟩,
  ⟨some 30, .un .not, [.t 29], none⟩] [] [] [1, 2, 15, 16, 17, 30] true [] []
noncomputable def c50_27 : ACode := .region false [⟨some 6, .move, [.c (.val (.bool false))], none⟩] [] [] [6] false [] []
noncomputable def c50_26 : ACode := .seq c50_27 .ret
noncomputable def c50_25 : ACode := .cond (.t 30) c50_26 .skip
noncomputable def c50_23 : ACode := .seq c50_24 c50_25
noncomputable def c50_21 : ACode := .seq c50_22 c50_23
noncomputable def c50_19 : ACode := .seq c50_20 c50_21
noncomputable def c50_18 : ACode := .block 1 c50_19
noncomputable def c50_28 : ACode := .region false [⟨some 31, .bin .add, [.t 17, .c (.val (.int .i64 1))], none⟩,
  ⟨some 17, .move, [.t 31], none⟩] [] [] [1, 2, 15, 16, 17] false [] []
noncomputable def c50_17 : ACode := .seq c50_18 c50_28
noncomputable def c50_15 : ACode := .seq c50_16 c50_17
noncomputable def c50_13 : ACode := .seq c50_14 c50_15
noncomputable def c50_12 : ACode := .loop c50_13
noncomputable def c50_11 : ACode := .block 0 c50_12
noncomputable def c50_9 : ACode := .seq c50_10 c50_11
noncomputable def c50_30 : ACode := .region false [⟨some 6, .move, [.c (.val (.bool true))], none⟩] [] [] [6] false [] []
noncomputable def c50_29 : ACode := .seq c50_30 .ret
noncomputable def c50_8 : ACode := .seq c50_9 c50_29
noncomputable def c50_2 : ACode := .seq c50_3 c50_8
noncomputable def c50_0 : ACode := .seq c50_1 c50_2
noncomputable def code50 : Code := (Try.f50.body).getD .skip
theorem c50_ok : compC Try.prog 32 code50 = some (strip c50_0) := by kernel_rfl
theorem res50_ok : Try.f50.results.toList.mapM (resC Try.prog) = some [(6, none)] := by kernel_rfl
/- quidnunc/watch.Alike -/
noncomputable def c24_1 : ACode := .region false [⟨some 4, .move, [.c (.val (.bool false))], none⟩] [] [] [0, 1] false [] []
noncomputable def c24_3 : ACode := .region false [⟨some 5, .move, [.t 0], none⟩,
  ⟨some 6, .move, [.t 1], none⟩,
  ⟨some 7, .call 50, [.t 5, .t 6, .c (.fn 51 [] [])], none⟩,
  ⟨some 4, .move, [.t 7], none⟩] [] [] [4] true [] []
noncomputable def c24_2 : ACode := .seq c24_3 .ret
noncomputable def c24_0 : ACode := .seq c24_1 c24_2
noncomputable def code24 : Code := (Try.f24.body).getD .skip
theorem c24_ok : compC Try.prog 8 code24 = some (strip c24_0) := by kernel_rfl
theorem res24_ok : Try.f24.results.toList.mapM (resC Try.prog) = some [(4, none)] := by kernel_rfl
/- quidnunc/quidnuncref25.Bare -/
noncomputable def c27_1 : ACode := .region false [⟨some 4, .move, [.c (.val (.bool false))], none⟩] [] [] [0, 1] false [] []
noncomputable def c27_4 : ACode := .region false [⟨some 7, .move, [.t 0], none⟩,
  ⟨some 8, .len, [.t 7], none⟩,
  ⟨some 9, .move, [.t 1], none⟩,
  ⟨some 10, .len, [.t 9], none⟩,
  ⟨some 11, .bin .neq, [.t 8, .t 10], none⟩] [] [] [0, 1, 11] false [] []
noncomputable def c27_7 : ACode := .region false [⟨some 4, .move, [.c (.val (.bool false))], none⟩] [] [] [4] false [] []
noncomputable def c27_6 : ACode := .seq c27_7 .ret
noncomputable def c27_5 : ACode := .cond (.t 11) c27_6 .skip
noncomputable def c27_3 : ACode := .seq c27_4 c27_5
noncomputable def c27_10 : ACode := .region false [⟨some 5, .move, [.c (.val (.int .i64 0))], none⟩] [] [] [0, 1, 5] false [] []
noncomputable def c27_15 : ACode := .region false [⟨some 12, .move, [.t 5], none⟩,
  ⟨some 13, .move, [.t 0], none⟩,
  ⟨some 14, .len, [.t 13], none⟩,
  ⟨some 15, .bin .lss, [.t 12, .t 14], none⟩] [] [] [0, 1, 5, 15] false [] []
noncomputable def c27_16 : ACode := .cond (.t 15) .skip (.exit 0)
noncomputable def c27_14 : ACode := .seq c27_15 c27_16
noncomputable def c27_20 : ACode := .region false [⟨some 18, .move, [.t 0], none⟩,
  ⟨some 19, .move, [.t 5], none⟩,
  ⟨some 20, .ixS 9, [.t 18, .t 19], none⟩,
  ⟨some 21, .load true 9, [.t 20], none⟩,
  ⟨some 6, .alloc [(.string ⟨#[]⟩), (.string ⟨#[]⟩), (.bool false), (.int .i64 0), (.int .i64 0), (.int .i64 0), (.int .i64 0), (.int .i64 0), (.int .i64 0)], [], none⟩,
  ⟨none, .store 9, [.t 6, .t 21], none⟩] [] [] [0, 1, 5, 6] true [] []
noncomputable def c27_22 : ACode := .region false [⟨some 22, .move, [.t 1], none⟩,
  ⟨some 23, .move, [.t 5], none⟩,
  ⟨some 24, .ixS 9, [.t 22, .t 23], none⟩,
  ⟨some 25, .addr 8, [.t 24], none⟩,
  ⟨some 26, .load false 1, [.t 25], none⟩,
  ⟨some 27, .addr 8, [.t 6], none⟩,
  ⟨none, .store 1, [.t 27, .t 26], none⟩] [] [] [0, 1, 5, 6] true [] []
noncomputable def c27_24 : ACode := .region false [⟨some 28, .move, [.t 1], none⟩,
  ⟨some 29, .move, [.t 5], none⟩,
  ⟨some 30, .ixS 9, [.t 28, .t 29], none⟩,
  ⟨some 31, .addr 7, [.t 30], none⟩,
  ⟨some 32, .load false 1, [.t 31], none⟩,
  ⟨some 33, .addr 7, [.t 6], none⟩,
  ⟨none, .store 1, [.t 33, .t 32], none⟩] [] [] [0, 1, 5, 6] true [] []
noncomputable def c27_26 : ACode := .region true [⟨some 34, .load true 9, [.t 6], none⟩,
  ⟨some 35, .move, [.t 1], none⟩,
  ⟨some 36, .move, [.t 5], none⟩,
  ⟨some 37, .ixS 9, [.t 35, .t 36], none⟩,
  ⟨some 38, .load true 9, [.t 37], none⟩,
  ⟨some 39, .eqA true [(0, 1), (1, 1), (2, 2), (3, 0), (4, 0), (5, 0), (6, 0), (7, 0), (8, 0)], [.t 34, .t 38], none⟩] [] [] [0, 1, 5, 39] false [] []
noncomputable def c27_29 : ACode := .region false [⟨some 4, .move, [.c (.val (.bool false))], none⟩] [] [] [4] false [] []
noncomputable def c27_28 : ACode := .seq c27_29 .ret
noncomputable def c27_27 : ACode := .cond (.t 39) c27_28 .skip
noncomputable def c27_25 : ACode := .seq c27_26 c27_27
noncomputable def c27_23 : ACode := .seq c27_24 c27_25
noncomputable def c27_21 : ACode := .seq c27_22 c27_23
noncomputable def c27_19 : ACode := .seq c27_20 c27_21
noncomputable def c27_18 : ACode := .block 1 c27_19
noncomputable def c27_30 : ACode := .region false [⟨some 16, .move, [.t 5], none⟩,
  ⟨some 17, .bin .add, [.t 16, .c (.val (.int .i64 1))], none⟩,
  ⟨some 5, .move, [.t 17], none⟩] [] [] [0, 1, 5] false [] []
noncomputable def c27_17 : ACode := .seq c27_18 c27_30
noncomputable def c27_13 : ACode := .seq c27_14 c27_17
noncomputable def c27_12 : ACode := .loop c27_13
noncomputable def c27_11 : ACode := .block 0 c27_12
noncomputable def c27_9 : ACode := .seq c27_10 c27_11
noncomputable def c27_32 : ACode := .region false [⟨some 4, .move, [.c (.val (.bool true))], none⟩] [] [] [4] false [] []
noncomputable def c27_31 : ACode := .seq c27_32 .ret
noncomputable def c27_8 : ACode := .seq c27_9 c27_31
noncomputable def c27_2 : ACode := .seq c27_3 c27_8
noncomputable def c27_0 : ACode := .seq c27_1 c27_2
noncomputable def code27 : Code := (Try.f27.body).getD .skip
theorem c27_ok : compC Try.prog 40 code27 = some (strip c27_0) := by kernel_rfl
theorem res27_ok : Try.f27.results.toList.mapM (resC Try.prog) = some [(4, none)] := by kernel_rfl
theorem alike1_any (x y : En) : ACall Try.prog 51 [EnA x, EnA y] [] (Det (Bo (likeE x y)) []) := by
  have c1 := bare_any x
  have c2 := bare_any y
  unfold likeE
  rw [← eqE_dec]
  refine ACall.startA c51_ok Try.func51 rfl Try.ntmps51 (by kernel_rfl) res51_ok rfl rfl rfl ?_; simp (maxSteps := 9999999) (disch := omega) only [go_sem]
  (have k9 := k0; (repeat' (first | refine AWpA.seq ?_ | refine AWpA.block ?_ | (with_reducible refine CondP.tt ?_) | (with_reducible refine CondP.ff ?_) | refine AWpA.cg ?_ | ((first | refine AWpA.rg ?_ | refine AWpA.dg [] [] follows ?_ | refine TailK.tg ?_ | refine AWpA.skip ?_ | refine AWpA.exit ?_ | refine AWpA.ret ?_ | (with_reducible refine ARoundsA.succ ?_) | ((first | refine Runs.gkt (fun h9 => ?_) | refine Runs.gkf (fun h9 => ?_) | refine Runs.gnt (fun h9 => ?_) | refine Runs.gnf (fun h9 => ?_) | refine CondP.gt (fun h9 => ?_) | refine CondP.gf (fun h9 => ?_) | refine CondP.gnt (fun h9 => ?_) | refine CondP.gnf (fun h9 => ?_)); (try simp only [h9]); clear h9) | refine CallG.pg [] (c1) ?_ | refine CallG.pg [] (c2) ?_ | refine CallG.dg [] (c1) ?_ | refine CallG.dg [] (c2) ?_); (try simp (maxSteps := 9999999) (disch := omega) only [go_sem, k9]); (try refine cnd ?_)) | ((first | refine CondP.split (fun hif => ?_) (fun hif => ?_) | refine Runs.part (fun hif => ?_) (fun hif => ?_)) <;> ((try simp only [hif]); (try simp only [BL] at hif); (try (have h9 : _ = true := hif; simp only [h9])); (try (have h9 : _ = false := hif; simp only [h9])); (try simp (maxSteps := 9999999) (disch := omega) only [go_sem, k9]); (try refine cnd ?_); (try (exfalso; omega; done)))))); (all_goals (try clear k9)))
  (apply Ret.det []; (focus (first | exact .inl rfl | exact .inr rfl)); (focus (simp (maxSteps := 9999999) (disch := omega) only [go_sem]; rfl)); (simp (maxSteps := 9999999) (disch := omega) only [go_sem]; (try (repeat' (first | done | trivial | rfl | exact leAs_rfl _ | decide | (refine And.intro ?_ ?_) | (simp; done) | omega | (simp; decide))))))
theorem equalf_any (o o' : Nat) (l m : List En) (hl : l.length ≤ 1099511627776) (hm : m.length ≤ 1099511627776) : ACall Try.prog 50 [.sl 0 o l.length 9 none, .sl 1 o' m.length 9 none, .fn 51 [] []] [.cells true (Re o l), .cells true (Re o' m)] (Det (Bo (alikeB l m)) [.cells true (Re o l), .cells true (Re o' m)]) := by
  have hr := re_ren
  have hL := re_len o l
  have hL2 := re_len o' m
  refine ACall.startA c50_ok Try.func50 rfl Try.ntmps50 (by kernel_rfl) res50_ok rfl rfl rfl ?_; simp (maxSteps := 9999999) (disch := omega) only [go_sem]
  by_cases hlen : l.length ≠ m.length
  · have g1 : ((l.length : Int) != (m.length : Int)) = true := by rw [bne_iff_ne]; omega
    rw [alike_len hlen]
    (have k9 := And.intro @hr (And.intro @g1 (k0)); (repeat' (first | refine AWpA.seq ?_ | refine AWpA.block ?_ | (with_reducible refine CondP.tt ?_) | (with_reducible refine CondP.ff ?_) | refine AWpA.cg ?_ | ((first | refine AWpA.rg ?_ | refine AWpA.dg [] [] follows ?_ | refine TailK.tg ?_ | refine AWpA.skip ?_ | refine AWpA.exit ?_ | refine AWpA.ret ?_ | (with_reducible refine ARoundsA.succ ?_) | ((first | refine Runs.gkt (fun h9 => ?_) | refine Runs.gkf (fun h9 => ?_) | refine Runs.gnt (fun h9 => ?_) | refine Runs.gnf (fun h9 => ?_) | refine CondP.gt (fun h9 => ?_) | refine CondP.gf (fun h9 => ?_) | refine CondP.gnt (fun h9 => ?_) | refine CondP.gnf (fun h9 => ?_)); (try simp only [h9]); clear h9)); (try simp (maxSteps := 9999999) (disch := omega) only [go_sem, k9]); (try refine cnd ?_)) | ((first | refine CondP.split (fun hif => ?_) (fun hif => ?_) | refine Runs.part (fun hif => ?_) (fun hif => ?_)) <;> ((try simp only [hif]); (try simp only [BL] at hif); (try (have h9 : _ = true := hif; simp only [h9])); (try (have h9 : _ = false := hif; simp only [h9])); (try simp (maxSteps := 9999999) (disch := omega) only [go_sem, k9]); (try refine cnd ?_); (try (exfalso; omega; done)))))); (all_goals (try clear k9)))
    (apply Ret.det [0, 1]; (focus (first | exact .inl rfl | exact .inr rfl)); (focus (simp (maxSteps := 9999999) (disch := omega) only [go_sem, hr]; rfl)); (simp (maxSteps := 9999999) (disch := omega) only [go_sem, hr]; (try (repeat' (first | done | trivial | rfl | exact leAs_rfl _ | decide | (refine And.intro ?_ ?_) | (simp; done) | omega | (simp; decide))))))
  have hlen := Classical.not_not.1 hlen
  have g0 : ((l.length : Int) != (m.length : Int)) = false := by rw [hlen]; exact bne_self_eq_false _
  (have k9 := And.intro @hr (And.intro @g0 (k0)); (repeat' (first | refine AWpA.seq ?_ | refine AWpA.block ?_ | (with_reducible refine CondP.tt ?_) | (with_reducible refine CondP.ff ?_) | refine AWpA.cg ?_ | ((first | refine AWpA.rg ?_ | refine AWpA.dg [] [] follows ?_ | refine TailK.tg ?_ | refine AWpA.skip ?_ | refine AWpA.exit ?_ | refine AWpA.ret ?_ | (with_reducible refine ARoundsA.succ ?_) | ((first | refine Runs.gkt (fun h9 => ?_) | refine Runs.gkf (fun h9 => ?_) | refine Runs.gnt (fun h9 => ?_) | refine Runs.gnf (fun h9 => ?_) | refine CondP.gt (fun h9 => ?_) | refine CondP.gf (fun h9 => ?_) | refine CondP.gnt (fun h9 => ?_) | refine CondP.gnf (fun h9 => ?_)); (try simp only [h9]); clear h9)); (try simp (maxSteps := 9999999) (disch := omega) only [go_sem, k9]); (try refine cnd ?_)) | ((first | refine CondP.split (fun hif => ?_) (fun hif => ?_) | refine Runs.part (fun hif => ?_) (fun hif => ?_)) <;> ((try simp only [hif]); (try simp only [BL] at hif); (try (have h9 : _ = true := hif; simp only [h9])); (try (have h9 : _ = false := hif; simp only [h9])); (try simp (maxSteps := 9999999) (disch := omega) only [go_sem, k9]); (try refine cnd ?_); (try (exfalso; omega; done)))))); (all_goals (try clear k9)))
  (apply AWpA.loopL (fun i : Nat => [(1, .sl 1 o' m.length 9 none), (2, .fn 51 [] []), (15, .sl 0 o l.length 9 none), (16, I l.length), (17, I i)]) (fun i => [.cells true (Re o l), .cells true (Re o' m)]) (fun i => l.length - i) (fun i => i ≤ l.length ∧ ∀ q (h : q < l.length) (h2 : q < m.length), q < i → likeE l[q] m[q] = true) (0) [0, 1]; rotate_left; (focus (simp (maxSteps := 9999999) (disch := omega) only [go_sem, hr]; (try (repeat' (first | done | trivial | rfl | exact leAs_rfl _ | decide | (refine And.intro ?_ ?_) | (simp; done) | omega | (simp; decide)))))); rotate_right)
  · exact ⟨Nat.zero_le _, fun q h h2 hq => by omega⟩
  rintro i ⟨hi, hq⟩
  (try simp only at hi hq)
  by_cases hin : i < l.length
  · have him : i < m.length := by omega
    have g1 : ((i : Int) < (l.length : Int)) = True := eq_true (by omega)
    have hat := re_at o l i hin
    have hat2 := re_at o' m i him
    have c := alike1_any l[i] m[i]
    have hfe : likeE l[i] m[i] = false → alikeB l m = false := fun h => alike_no hin him h
    have hn : likeE l[i] m[i] = true → ∀ q (h : q < l.length) (h2 : q < m.length), q < i + 1 → likeE l[q] m[q] = true := fun h q h1 h2 hq' => by
      rcases Nat.lt_or_eq_of_le (Nat.le_of_lt_succ hq') with h' | rfl
      · exact hq q h1 h2 h'
      · exact h
    clear hq
    generalize l[i] = x at *
    generalize m[i] = y at *
    cases hb : likeE x y with
    | false =>
      rw [hb] at c
      rw [hfe hb]
      clear hfe hn hb
      (try simp (maxSteps := 9999999) (disch := omega) only [go_sem])
      (have k9 := And.intro @hr (And.intro @hL (And.intro @hL2 (And.intro @g1 (And.intro @hat (And.intro @hat2 (k0)))))); (repeat' (first | refine AWpA.seq ?_ | refine AWpA.block ?_ | (with_reducible refine CondP.tt ?_) | (with_reducible refine CondP.ff ?_) | refine AWpA.cg ?_ | ((first | refine AWpA.rg ?_ | refine AWpA.dg [] [] follows ?_ | refine TailK.tg ?_ | refine AWpA.skip ?_ | refine AWpA.exit ?_ | refine AWpA.ret ?_ | (with_reducible refine ARoundsA.succ ?_) | ((first | refine Runs.gkt (fun h9 => ?_) | refine Runs.gkf (fun h9 => ?_) | refine Runs.gnt (fun h9 => ?_) | refine Runs.gnf (fun h9 => ?_) | refine CondP.gt (fun h9 => ?_) | refine CondP.gf (fun h9 => ?_) | refine CondP.gnt (fun h9 => ?_) | refine CondP.gnf (fun h9 => ?_)); (try simp only [h9]); clear h9) | refine CallG.pg [] (c) ?_ | refine CallG.dg [] (c) ?_); (try simp (maxSteps := 9999999) (disch := omega) only [go_sem, k9]); (try refine cnd ?_)) | ((first | refine CondP.split (fun hif => ?_) (fun hif => ?_) | refine Runs.part (fun hif => ?_) (fun hif => ?_)) <;> ((try simp only [hif]); (try simp only [BL] at hif); (try (have h9 : _ = true := hif; simp only [h9])); (try (have h9 : _ = false := hif; simp only [h9])); (try simp (maxSteps := 9999999) (disch := omega) only [go_sem, k9]); (try refine cnd ?_); (try (exfalso; omega; done)))))); (all_goals (try clear k9)))
      (apply Ret.det [0, 1]; (focus (first | exact .inl rfl | exact .inr rfl)); (focus (simp (maxSteps := 9999999) (disch := omega) only [go_sem, hr]; rfl)); (simp (maxSteps := 9999999) (disch := omega) only [go_sem, hr]; (try (repeat' (first | done | trivial | rfl | exact leAs_rfl _ | decide | (refine And.intro ?_ ?_) | (simp; done) | omega | (simp; decide))))))
    | true =>
      rw [hb] at c
      have hn := hn hb
      clear hfe hb
      (try simp (maxSteps := 9999999) (disch := omega) only [go_sem])
      (have k9 := And.intro @hr (And.intro @hL (And.intro @hL2 (And.intro @g1 (And.intro @hat (And.intro @hat2 (k0)))))); (repeat' (first | refine AWpA.seq ?_ | refine AWpA.block ?_ | (with_reducible refine CondP.tt ?_) | (with_reducible refine CondP.ff ?_) | refine AWpA.cg ?_ | ((first | refine AWpA.rg ?_ | refine AWpA.dg [] [] follows ?_ | refine TailK.tg ?_ | refine AWpA.skip ?_ | refine AWpA.exit ?_ | refine AWpA.ret ?_ | (with_reducible refine ARoundsA.succ ?_) | ((first | refine Runs.gkt (fun h9 => ?_) | refine Runs.gkf (fun h9 => ?_) | refine Runs.gnt (fun h9 => ?_) | refine Runs.gnf (fun h9 => ?_) | refine CondP.gt (fun h9 => ?_) | refine CondP.gf (fun h9 => ?_) | refine CondP.gnt (fun h9 => ?_) | refine CondP.gnf (fun h9 => ?_)); (try simp only [h9]); clear h9) | refine CallG.pg [] (c) ?_ | refine CallG.dg [] (c) ?_); (try simp (maxSteps := 9999999) (disch := omega) only [go_sem, k9]); (try refine cnd ?_)) | ((first | refine CondP.split (fun hif => ?_) (fun hif => ?_) | refine Runs.part (fun hif => ?_) (fun hif => ?_)) <;> ((try simp only [hif]); (try simp only [BL] at hif); (try (have h9 : _ = true := hif; simp only [h9])); (try (have h9 : _ = false := hif; simp only [h9])); (try simp (maxSteps := 9999999) (disch := omega) only [go_sem, k9]); (try refine cnd ?_); (try (exfalso; omega; done)))))); (all_goals (try clear k9)))
      (apply Back.to (i + 1) [0, 1]; (focus ((try simp (maxSteps := 9999999) (disch := omega) only [go_sem, hr]); first | done | omega)); rotate_left; (focus (simp (maxSteps := 9999999) (disch := omega) only [go_sem, hr]; (try (repeat' (first | done | trivial | rfl | exact leAs_rfl _ | decide | (refine And.intro ?_ ?_) | (simp; done) | omega | (simp; decide)))))))
      exact ⟨by omega, hn⟩
  · obtain rfl : i = l.length := by omega
    have g1 : ((l.length : Int) < (l.length : Int)) = False := eq_false (by omega)
    rw [alike_yes hlen fun q h h2 => hq q h h2 h]
    clear hq
    (try simp (maxSteps := 9999999) (disch := omega) only [go_sem])
    (have k9 := And.intro @hr (And.intro @g1 (k0)); (repeat' (first | refine AWpA.seq ?_ | refine AWpA.block ?_ | (with_reducible refine CondP.tt ?_) | (with_reducible refine CondP.ff ?_) | refine AWpA.cg ?_ | ((first | refine AWpA.rg ?_ | refine AWpA.dg [] [] follows ?_ | refine TailK.tg ?_ | refine AWpA.skip ?_ | refine AWpA.exit ?_ | refine AWpA.ret ?_ | (with_reducible refine ARoundsA.succ ?_) | ((first | refine Runs.gkt (fun h9 => ?_) | refine Runs.gkf (fun h9 => ?_) | refine Runs.gnt (fun h9 => ?_) | refine Runs.gnf (fun h9 => ?_) | refine CondP.gt (fun h9 => ?_) | refine CondP.gf (fun h9 => ?_) | refine CondP.gnt (fun h9 => ?_) | refine CondP.gnf (fun h9 => ?_)); (try simp only [h9]); clear h9)); (try simp (maxSteps := 9999999) (disch := omega) only [go_sem, k9]); (try refine cnd ?_)) | ((first | refine CondP.split (fun hif => ?_) (fun hif => ?_) | refine Runs.part (fun hif => ?_) (fun hif => ?_)) <;> ((try simp only [hif]); (try simp only [BL] at hif); (try (have h9 : _ = true := hif; simp only [h9])); (try (have h9 : _ = false := hif; simp only [h9])); (try simp (maxSteps := 9999999) (disch := omega) only [go_sem, k9]); (try refine cnd ?_); (try (exfalso; omega; done)))))); (all_goals (try clear k9)))
    (apply Ret.det [0, 1]; (focus (first | exact .inl rfl | exact .inr rfl)); (focus (simp (maxSteps := 9999999) (disch := omega) only [go_sem, hr]; rfl)); (simp (maxSteps := 9999999) (disch := omega) only [go_sem, hr]; (try (repeat' (first | done | trivial | rfl | exact leAs_rfl _ | decide | (refine And.intro ?_ ?_) | (simp; done) | omega | (simp; decide))))))
theorem alike_any (o o' : Nat) (l m : List En) (hl : l.length ≤ 1099511627776) (hm : m.length ≤ 1099511627776) : ACall Try.prog 24 [.sl 0 o l.length 9 none, .sl 1 o' m.length 9 none] [.cells true (Re o l), .cells true (Re o' m)] (Det (Bo (alikeB l m)) [.cells true (Re o l), .cells true (Re o' m)]) := by
  have hr := re_ren
  have c := equalf_any o o' l m hl hm
  refine ACall.startA c24_ok Try.func24 rfl Try.ntmps24 (by kernel_rfl) res24_ok rfl rfl rfl ?_; simp (maxSteps := 9999999) (disch := omega) only [go_sem]
  (have k9 := And.intro @hr (k0); (repeat' (first | refine AWpA.seq ?_ | refine AWpA.block ?_ | (with_reducible refine CondP.tt ?_) | (with_reducible refine CondP.ff ?_) | refine AWpA.cg ?_ | ((first | refine AWpA.rg ?_ | refine AWpA.dg [] [] follows ?_ | refine TailK.tg ?_ | refine AWpA.skip ?_ | refine AWpA.exit ?_ | refine AWpA.ret ?_ | (with_reducible refine ARoundsA.succ ?_) | ((first | refine Runs.gkt (fun h9 => ?_) | refine Runs.gkf (fun h9 => ?_) | refine Runs.gnt (fun h9 => ?_) | refine Runs.gnf (fun h9 => ?_) | refine CondP.gt (fun h9 => ?_) | refine CondP.gf (fun h9 => ?_) | refine CondP.gnt (fun h9 => ?_) | refine CondP.gnf (fun h9 => ?_)); (try simp only [h9]); clear h9) | refine CallG.pg [0, 1] (c) ?_ | refine CallG.dg [0, 1] (c) ?_); (try simp (maxSteps := 9999999) (disch := omega) only [go_sem, k9]); (try refine cnd ?_)) | ((first | refine CondP.split (fun hif => ?_) (fun hif => ?_) | refine Runs.part (fun hif => ?_) (fun hif => ?_)) <;> ((try simp only [hif]); (try simp only [BL] at hif); (try (have h9 : _ = true := hif; simp only [h9])); (try (have h9 : _ = false := hif; simp only [h9])); (try simp (maxSteps := 9999999) (disch := omega) only [go_sem, k9]); (try refine cnd ?_); (try (exfalso; omega; done)))))); (all_goals (try clear k9)))
  (apply Ret.det [0, 1]; (focus (first | exact .inl rfl | exact .inr rfl)); (focus (simp (maxSteps := 9999999) (disch := omega) only [go_sem, hr]; rfl)); (simp (maxSteps := 9999999) (disch := omega) only [go_sem, hr]; (try (repeat' (first | done | trivial | rfl | exact leAs_rfl _ | decide | (refine And.intro ?_ ?_) | (simp; done) | omega | (simp; decide))))))
end Go.Proofs.Ytbblpmkdhdnkhaa
