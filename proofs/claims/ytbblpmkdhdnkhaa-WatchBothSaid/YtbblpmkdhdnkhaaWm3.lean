/- Contracts: the document's Bare, Same; Tos; what lives. -/
import Derived.Test.YtbblpmkdhdnkhaaWm2
import Derived.Test.YtbblpmkdhdnkhaaBw6
namespace Go.Proofs.Ytbblpmkdhdnkhaa
set_option linter.unusedSimpArgs false
set_option linter.unusedVariables false
set_option maxHeartbeats 4000000
open Go Go.Am Go.RowKit
set_option maxRecDepth 100000
set_option maxHeartbeats 1000000
/- quidnunc/quidnuncref11.Same -/
noncomputable def c29_1 : ACode := .region false [⟨some 4, .move, [.c (.val (.bool false))], none⟩] [] [] [0, 1] false [] []
noncomputable def c29_4 : ACode := .region false [⟨some 6, .move, [.t 0], none⟩,
  ⟨some 7, .len, [.t 6], none⟩,
  ⟨some 8, .move, [.t 1], none⟩,
  ⟨some 9, .len, [.t 8], none⟩,
  ⟨some 10, .bin .neq, [.t 7, .t 9], none⟩] [] [] [0, 1, 10] false [] []
noncomputable def c29_7 : ACode := .region false [⟨some 4, .move, [.c (.val (.bool false))], none⟩] [] [] [4] false [] []
noncomputable def c29_6 : ACode := .seq c29_7 .ret
noncomputable def c29_5 : ACode := .cond (.t 10) c29_6 .skip
noncomputable def c29_3 : ACode := .seq c29_4 c29_5
noncomputable def c29_10 : ACode := .region false [⟨some 5, .move, [.c (.val (.int .i64 0))], none⟩] [] [] [0, 1, 5] false [] []
noncomputable def c29_15 : ACode := .region false [⟨some 11, .move, [.t 5], none⟩,
  ⟨some 12, .move, [.t 0], none⟩,
  ⟨some 13, .len, [.t 12], none⟩,
  ⟨some 14, .bin .lss, [.t 11, .t 13], none⟩] [] [] [0, 1, 5, 14] false [] []
noncomputable def c29_16 : ACode := .cond (.t 14) .skip (.exit 0)
noncomputable def c29_14 : ACode := .seq c29_15 c29_16
noncomputable def c29_20 : ACode := .region true [⟨some 17, .move, [.t 0], none⟩,
  ⟨some 18, .move, [.t 5], none⟩,
  ⟨some 19, .ixS 9, [.t 17, .t 18], none⟩,
  ⟨some 20, .load true 9, [.t 19], none⟩,
  ⟨some 21, .move, [.t 1], none⟩,
  ⟨some 22, .move, [.t 5], none⟩,
  ⟨some 23, .ixS 9, [.t 21, .t 22], none⟩,
  ⟨some 24, .load true 9, [.t 23], none⟩,
  ⟨some 25, .eqA true [(0, 1), (1, 1), (2, 2), (3, 0), (4, 0), (5, 0), (6, 0), (7, 0), (8, 0)], [.t 20, .t 24], none⟩] [] [] [0, 1, 5, 25] false [] []
noncomputable def c29_23 : ACode := .region false [⟨some 4, .move, [.c (.val (.bool false))], none⟩] [] [] [4] false [] []
noncomputable def c29_22 : ACode := .seq c29_23 .ret
noncomputable def c29_21 : ACode := .cond (.t 25) c29_22 .skip
noncomputable def c29_19 : ACode := .seq c29_20 c29_21
noncomputable def c29_18 : ACode := .block 1 c29_19
noncomputable def c29_24 : ACode := .region false [⟨some 15, .move, [.t 5], none⟩,
  ⟨some 16, .bin .add, [.t 15, .c (.val (.int .i64 1))], none⟩,
  ⟨some 5, .move, [.t 16], none⟩] [] [] [0, 1, 5] false [] []
noncomputable def c29_17 : ACode := .seq c29_18 c29_24
noncomputable def c29_13 : ACode := .seq c29_14 c29_17
noncomputable def c29_12 : ACode := .loop c29_13
noncomputable def c29_11 : ACode := .block 0 c29_12
noncomputable def c29_9 : ACode := .seq c29_10 c29_11
noncomputable def c29_26 : ACode := .region false [⟨some 4, .move, [.c (.val (.bool true))], none⟩] [] [] [4] false [] []
noncomputable def c29_25 : ACode := .seq c29_26 .ret
noncomputable def c29_8 : ACode := .seq c29_9 c29_25
noncomputable def c29_2 : ACode := .seq c29_3 c29_8
noncomputable def c29_0 : ACode := .seq c29_1 c29_2
noncomputable def code29 : Code := (Try.f29.body).getD .skip
theorem c29_ok : compC Try.prog 26 code29 = some (strip c29_0) := by kernel_rfl
theorem res29_ok : Try.f29.results.toList.mapM (resC Try.prog) = some [(4, none)] := by kernel_rfl
/- quidnunc/watch.Live -/
noncomputable def c28_1 : ACode := .region false [⟨some 2, .move, [.c (.val (.slice none 0 0))], none⟩] [] [] [0] false [] []
noncomputable def c28_3 : ACode := .region false [⟨some 3, .move, [.c (.val (.slice none 0 0))], none⟩] [] [] [0, 3] false [] []
noncomputable def c28_6 : ACode := .region false [⟨some 6, .move, [.t 0], none⟩,
  ⟨some 7, .len, [.t 6], none⟩,
  ⟨some 8, .move, [.c (.val (.int .i64 0))], none⟩] [] [] [3, 6, 7, 8] false [] []
noncomputable def c28_10 : ACode := .region false [⟨some 9, .bin .lss, [.t 8, .t 7], none⟩] [] [] [3, 6, 7, 8, 9] false [] []
noncomputable def c28_12 : ACode := .cond (.t 9) .skip (.exit 0)
noncomputable def c28_16 : ACode := .region false [⟨some 10, .ixS 9, [.t 6, .t 8], none⟩,
  ⟨some 11, .load true 9, [.t 10], none⟩,
  ⟨some 5, .alloc [(.string ⟨#[]⟩), (.string ⟨#[]⟩), (.bool false), (.int .i64 0), (.int .i64 0), (.int .i64 0), (.int .i64 0), (.int .i64 0), (.int .i64 0)], [], none⟩,
  ⟨none, .store 9, [.t 5, .t 11], none⟩] [] [] [3, 5, 6, 7, 8] true [] []
noncomputable def c28_18 : ACode := .region false [⟨some 12, .addr 2, [.t 5], none⟩,
  ⟨some 13, .load false 1, [.t 12], none⟩,
  ⟨some 14, .un .not, [.t 13], none⟩] [] [] [3, 5, 6, 7, 8, 14] false [] []
noncomputable def c28_20 : ACode := .region false [⟨some 15, .move, [.t 3], none⟩,
  ⟨some 16, .addr 0, [.t 5], none⟩,
  ⟨some 17, .load false 1, [.t 16], none⟩,
  ⟨some 18, .addr 1, [.t 5], none⟩,
  ⟨some 19, .load false 1, [.t 18], none⟩,
  ⟨some 20, .build [(.string ⟨#[]⟩), (.string ⟨#[]⟩)] [(0, 1), (1, 1)], [.t 17, .t 19], none⟩,
  ⟨some 21, .buildSl 2 1 [(.string ⟨#[]⟩), (.string ⟨#[]⟩)] [(0, 2)], [.t 20], none⟩,
  ⟨some 22, .append 2 32 false, [.t 15, .t 21], none⟩,
  ⟨some 3, .move, [.t 22], none⟩] [] [] [3, 6, 7, 8] true [] []
noncomputable def c28_19 : ACode := .cond (.t 14) c28_20 .skip
noncomputable def c28_17 : ACode := .seq c28_18 c28_19
noncomputable def c28_15 : ACode := .seq c28_16 c28_17
noncomputable def c28_14 : ACode := .block 1 c28_15
noncomputable def c28_21 : ACode := .region false [⟨some 23, .bin .add, [.t 8, .c (.val (.int .i64 1))], none⟩,
  ⟨some 8, .move, [.t 23], none⟩] [] [] [3, 6, 7, 8] false [] []
noncomputable def c28_13 : ACode := .seq c28_14 c28_21
noncomputable def c28_11 : ACode := .seq c28_12 c28_13
noncomputable def c28_9 : ACode := .seq c28_10 c28_11
noncomputable def c28_8 : ACode := .loop c28_9
noncomputable def c28_7 : ACode := .block 0 c28_8
noncomputable def c28_5 : ACode := .seq c28_6 c28_7
noncomputable def c28_23 : ACode := .region false [⟨some 24, .move, [.t 3], none⟩,
  ⟨some 2, .move, [.t 24], none⟩] [] [] [2] false [] []
noncomputable def c28_22 : ACode := .seq c28_23 .ret
noncomputable def c28_4 : ACode := .seq c28_5 c28_22
noncomputable def c28_2 : ACode := .seq c28_3 c28_4
noncomputable def c28_0 : ACode := .seq c28_1 c28_2
noncomputable def code28 : Code := (Try.f28.body).getD .skip
theorem c28_ok : compC Try.prog 25 code28 = some (strip c28_0) := by kernel_rfl
theorem res28_ok : Try.f28.results.toList.mapM (resC Try.prog) = some [(2, none)] := by kernel_rfl
theorem like_set (x y : En) : eqE { x with age := y.age, keep := y.keep } y = likeE x y := by
  have h1 := eqE_dec (bareE x) (bareE y)
  unfold likeE
  rw [← h1]
  simp only [eqE, bareE, beq_self_eq_true, Bool.and_true]
theorem rbare_any (o o' : Nat) (l m : List En) (hl : l.length ≤ 1099511627776) (hm : m.length ≤ 1099511627776) : ACall Try.prog 27 [.sl 0 o l.length 9 none, .sl 1 o' m.length 9 none] [.cells true (Re o l), .cells true (Re o' m)] (Det (Bo (alikeB l m)) [.cells true (Re o l), .cells true (Re o' m)]) := by
  have hr := re_ren
  have hL := re_len o l
  have hL2 := re_len o' m
  refine ACall.startA c27_ok Try.func27 rfl Try.ntmps27 (by kernel_rfl) res27_ok rfl rfl rfl ?_; simp (maxSteps := 9999999) (disch := omega) only [go_sem]
  by_cases hlen : l.length ≠ m.length
  · have g1 : ((l.length : Int) != (m.length : Int)) = true := by rw [bne_iff_ne]; omega
    rw [alike_len hlen]
    (have k9 := And.intro @hr (And.intro @g1 (k0)); (repeat' (first | refine AWpA.seq ?_ | refine AWpA.block ?_ | (with_reducible refine CondP.tt ?_) | (with_reducible refine CondP.ff ?_) | refine AWpA.cg ?_ | ((first | refine AWpA.rg ?_ | refine AWpA.dg [] [] follows ?_ | refine TailK.tg ?_ | refine AWpA.skip ?_ | refine AWpA.exit ?_ | refine AWpA.ret ?_ | (with_reducible refine ARoundsA.succ ?_) | ((first | refine Runs.gkt (fun h9 => ?_) | refine Runs.gkf (fun h9 => ?_) | refine Runs.gnt (fun h9 => ?_) | refine Runs.gnf (fun h9 => ?_) | refine CondP.gt (fun h9 => ?_) | refine CondP.gf (fun h9 => ?_) | refine CondP.gnt (fun h9 => ?_) | refine CondP.gnf (fun h9 => ?_)); (try simp only [h9]); clear h9)); (try simp (maxSteps := 9999999) (disch := omega) only [go_sem, k9]); (try refine cnd ?_)) | ((first | refine CondP.split (fun hif => ?_) (fun hif => ?_) | refine Runs.part (fun hif => ?_) (fun hif => ?_)) <;> ((try simp only [hif]); (try simp only [BL] at hif); (try (have h9 : _ = true := hif; simp only [h9])); (try (have h9 : _ = false := hif; simp only [h9])); (try simp (maxSteps := 9999999) (disch := omega) only [go_sem, k9]); (try refine cnd ?_); (try (exfalso; omega; done)))))); (all_goals (try clear k9)))
    (apply Ret.det [0, 1]; (focus (first | exact .inl rfl | exact .inr rfl)); (focus (simp (maxSteps := 9999999) (disch := omega) only [go_sem, hr]; rfl)); (simp (maxSteps := 9999999) (disch := omega) only [go_sem, hr]; (try (repeat' (first | done | trivial | rfl | exact leAs_rfl _ | decide | (refine And.intro ?_ ?_) | (simp; done) | omega | (simp; decide))))))
  have hlen := Classical.not_not.1 hlen
  have g0 : ((l.length : Int) != (m.length : Int)) = false := by rw [hlen]; exact bne_self_eq_false _
  (have k9 := And.intro @hr (And.intro @g0 (k0)); (repeat' (first | refine AWpA.seq ?_ | refine AWpA.block ?_ | (with_reducible refine CondP.tt ?_) | (with_reducible refine CondP.ff ?_) | refine AWpA.cg ?_ | ((first | refine AWpA.rg ?_ | refine AWpA.dg [] [] follows ?_ | refine TailK.tg ?_ | refine AWpA.skip ?_ | refine AWpA.exit ?_ | refine AWpA.ret ?_ | (with_reducible refine ARoundsA.succ ?_) | ((first | refine Runs.gkt (fun h9 => ?_) | refine Runs.gkf (fun h9 => ?_) | refine Runs.gnt (fun h9 => ?_) | refine Runs.gnf (fun h9 => ?_) | refine CondP.gt (fun h9 => ?_) | refine CondP.gf (fun h9 => ?_) | refine CondP.gnt (fun h9 => ?_) | refine CondP.gnf (fun h9 => ?_)); (try simp only [h9]); clear h9)); (try simp (maxSteps := 9999999) (disch := omega) only [go_sem, k9]); (try refine cnd ?_)) | ((first | refine CondP.split (fun hif => ?_) (fun hif => ?_) | refine Runs.part (fun hif => ?_) (fun hif => ?_)) <;> ((try simp only [hif]); (try simp only [BL] at hif); (try (have h9 : _ = true := hif; simp only [h9])); (try (have h9 : _ = false := hif; simp only [h9])); (try simp (maxSteps := 9999999) (disch := omega) only [go_sem, k9]); (try refine cnd ?_); (try (exfalso; omega; done)))))); (all_goals (try clear k9)))
  (apply AWpA.loopL (fun i : Nat => [(0, .sl 0 o l.length 9 none), (1, .sl 1 o' m.length 9 none), (5, I i)]) (fun i => [.cells true (Re o l), .cells true (Re o' m)]) (fun i => l.length - i) (fun i => i ≤ l.length ∧ ∀ q (h : q < l.length) (h2 : q < m.length), q < i → likeE l[q] m[q] = true) (0) [0, 1]; rotate_left; (focus (simp (maxSteps := 9999999) (disch := omega) only [go_sem, hr]; (try (repeat' (first | done | trivial | rfl | exact leAs_rfl _ | decide | (refine And.intro ?_ ?_) | (simp; done) | omega | (simp; decide)))))); rotate_right)
  · exact ⟨Nat.zero_le _, fun q h h2 hq => by omega⟩
  rintro i ⟨hi, hq⟩
  (try simp only at hi hq)
  by_cases hin : i < l.length
  · have him : i < m.length := by omega
    have g1 : ((i : Int) < (l.length : Int)) = True := eq_true (by omega)
    have hat := re_at o l i hin
    have hat2 := re_at o' m i him
    have ha8 : (Re o' m).getD (o' + i * 9 + 8) AV.bad = I m[i].age := cell_at (q := 8) hat2 (by decide)
    have ha7 : (Re o' m).getD (o' + i * 9 + 7) AV.bad = I m[i].keep := cell_at (q := 7) hat2 (by decide)
    have hfe : likeE l[i] m[i] = false → alikeB l m = false := fun h => alike_no hin him h
    have hn : likeE l[i] m[i] = true → ∀ q (h : q < l.length) (h2 : q < m.length), q < i + 1 → likeE l[q] m[q] = true := fun h q h1 h2 hq' => by
      rcases Nat.lt_or_eq_of_le (Nat.le_of_lt_succ hq') with h' | rfl
      · exact hq q h1 h2 h'
      · exact h
    clear hq
    generalize l[i] = x at *
    generalize m[i] = y at *
    have he := like_set x y
    unfold eqE at he
    cases hb : likeE x y with
    | false =>
      rw [hb] at he
      simp only at he
      have he2 := he
      simp only [beq_self_eq_true, Bool.and_true, Bool.and_self] at he2
      rw [hfe hb]
      clear hfe hn hb
      (try simp (maxSteps := 9999999) (disch := omega) only [go_sem])
      (have k9 := And.intro @hr (And.intro @hL (And.intro @hL2 (And.intro @g1 (And.intro @hat (And.intro @hat2 (And.intro @ha7 (And.intro @ha8 (And.intro @he (And.intro @he2 (k0)))))))))); (repeat' (first | refine AWpA.seq ?_ | refine AWpA.block ?_ | (with_reducible refine CondP.tt ?_) | (with_reducible refine CondP.ff ?_) | refine AWpA.cg ?_ | ((first | refine AWpA.rg ?_ | refine AWpA.dg [] [] follows ?_ | refine TailK.tg ?_ | refine AWpA.skip ?_ | refine AWpA.exit ?_ | refine AWpA.ret ?_ | (with_reducible refine ARoundsA.succ ?_) | ((first | refine Runs.gkt (fun h9 => ?_) | refine Runs.gkf (fun h9 => ?_) | refine Runs.gnt (fun h9 => ?_) | refine Runs.gnf (fun h9 => ?_) | refine CondP.gt (fun h9 => ?_) | refine CondP.gf (fun h9 => ?_) | refine CondP.gnt (fun h9 => ?_) | refine CondP.gnf (fun h9 => ?_)); (try simp only [h9]); clear h9)); (try simp (maxSteps := 9999999) (disch := omega) only [go_sem, k9]); (try refine cnd ?_)) | ((first | refine CondP.split (fun hif => ?_) (fun hif => ?_) | refine Runs.part (fun hif => ?_) (fun hif => ?_)) <;> ((try simp only [hif]); (try simp only [BL] at hif); (try (have h9 : _ = true := hif; simp only [h9])); (try (have h9 : _ = false := hif; simp only [h9])); (try simp (maxSteps := 9999999) (disch := omega) only [go_sem, k9]); (try refine cnd ?_); (try (exfalso; omega; done)))))); (all_goals (try clear k9)))
      (apply Ret.det [0, 1]; (focus (first | exact .inl rfl | exact .inr rfl)); (focus (simp (maxSteps := 9999999) (disch := omega) only [go_sem, hr]; rfl)); (simp (maxSteps := 9999999) (disch := omega) only [go_sem, hr]; (try (repeat' (first | done | trivial | rfl | exact leAs_rfl _ | decide | (refine And.intro ?_ ?_) | (simp; done) | omega | (simp; decide))))))
    | true =>
      rw [hb] at he
      simp only at he
      have he2 := he
      simp only [beq_self_eq_true, Bool.and_true, Bool.and_self] at he2
      have hn := hn hb
      clear hfe hb
      (try simp (maxSteps := 9999999) (disch := omega) only [go_sem])
      (have k9 := And.intro @hr (And.intro @hL (And.intro @hL2 (And.intro @g1 (And.intro @hat (And.intro @hat2 (And.intro @ha7 (And.intro @ha8 (And.intro @he (And.intro @he2 (k0)))))))))); (repeat' (first | refine AWpA.seq ?_ | refine AWpA.block ?_ | (with_reducible refine CondP.tt ?_) | (with_reducible refine CondP.ff ?_) | refine AWpA.cg ?_ | ((first | refine AWpA.rg ?_ | refine AWpA.dg [] [] follows ?_ | refine TailK.tg ?_ | refine AWpA.skip ?_ | refine AWpA.exit ?_ | refine AWpA.ret ?_ | (with_reducible refine ARoundsA.succ ?_) | ((first | refine Runs.gkt (fun h9 => ?_) | refine Runs.gkf (fun h9 => ?_) | refine Runs.gnt (fun h9 => ?_) | refine Runs.gnf (fun h9 => ?_) | refine CondP.gt (fun h9 => ?_) | refine CondP.gf (fun h9 => ?_) | refine CondP.gnt (fun h9 => ?_) | refine CondP.gnf (fun h9 => ?_)); (try simp only [h9]); clear h9)); (try simp (maxSteps := 9999999) (disch := omega) only [go_sem, k9]); (try refine cnd ?_)) | ((first | refine CondP.split (fun hif => ?_) (fun hif => ?_) | refine Runs.part (fun hif => ?_) (fun hif => ?_)) <;> ((try simp only [hif]); (try simp only [BL] at hif); (try (have h9 : _ = true := hif; simp only [h9])); (try (have h9 : _ = false := hif; simp only [h9])); (try simp (maxSteps := 9999999) (disch := omega) only [go_sem, k9]); (try refine cnd ?_); (try (exfalso; omega; done)))))); (all_goals (try clear k9)))
      (apply Back.to (i + 1) [0, 1]; (focus ((try simp (maxSteps := 9999999) (disch := omega) only [go_sem, hr]); first | done | omega)); rotate_left; (focus (simp (maxSteps := 9999999) (disch := omega) only [go_sem, hr]; (try (repeat' (first | done | trivial | rfl | exact leAs_rfl _ | decide | (refine And.intro ?_ ?_) | (simp; done) | omega | (simp; decide)))))))
      exact ⟨by omega, hn⟩
  · obtain rfl : i = l.length := by omega
    have g1 : ((l.length : Int) < (l.length : Int)) = False := eq_false (by omega)
    rw [alike_yes hlen fun q h h2 => hq q h h2 h]
    clear hq
    (try simp (maxSteps := 9999999) (disch := omega) only [go_sem])
    (have k9 := And.intro @hr (And.intro @g1 (k0)); (repeat' (first | refine AWpA.seq ?_ | refine AWpA.block ?_ | (with_reducible refine CondP.tt ?_) | (with_reducible refine CondP.ff ?_) | refine AWpA.cg ?_ | ((first | refine AWpA.rg ?_ | refine AWpA.dg [] [] follows ?_ | refine TailK.tg ?_ | refine AWpA.skip ?_ | refine AWpA.exit ?_ | refine AWpA.ret ?_ | (with_reducible refine ARoundsA.succ ?_) | ((first | refine Runs.gkt (fun h9 => ?_) | refine Runs.gkf (fun h9 => ?_) | refine Runs.gnt (fun h9 => ?_) | refine Runs.gnf (fun h9 => ?_) | refine CondP.gt (fun h9 => ?_) | refine CondP.gf (fun h9 => ?_) | refine CondP.gnt (fun h9 => ?_) | refine CondP.gnf (fun h9 => ?_)); (try simp only [h9]); clear h9)); (try simp (maxSteps := 9999999) (disch := omega) only [go_sem, k9]); (try refine cnd ?_)) | ((first | refine CondP.split (fun hif => ?_) (fun hif => ?_) | refine Runs.part (fun hif => ?_) (fun hif => ?_)) <;> ((try simp only [hif]); (try simp only [BL] at hif); (try (have h9 : _ = true := hif; simp only [h9])); (try (have h9 : _ = false := hif; simp only [h9])); (try simp (maxSteps := 9999999) (disch := omega) only [go_sem, k9]); (try refine cnd ?_); (try (exfalso; omega; done)))))); (all_goals (try clear k9)))
    (apply Ret.det [0, 1]; (focus (first | exact .inl rfl | exact .inr rfl)); (focus (simp (maxSteps := 9999999) (disch := omega) only [go_sem, hr]; rfl)); (simp (maxSteps := 9999999) (disch := omega) only [go_sem, hr]; (try (repeat' (first | done | trivial | rfl | exact leAs_rfl _ | decide | (refine And.intro ?_ ?_) | (simp; done) | omega | (simp; decide))))))
theorem wsame_any (o o' : Nat) (l : List En) (hl : l.length ≤ 1099511627776) : ACall Try.prog 29 [.sl 0 o l.length 9 none, .sl 1 o' l.length 9 none] [.cells true (Re o l), .cells true (Re o' l)] (Det (Bo true) [.cells true (Re o l), .cells true (Re o' l)]) := by
  have hr := re_ren
  have hL := re_len o l
  have hL2 := re_len o' l
  refine ACall.startA c29_ok Try.func29 rfl Try.ntmps29 (by kernel_rfl) res29_ok rfl rfl rfl ?_; simp (maxSteps := 9999999) (disch := omega) only [go_sem]
  (have k9 := And.intro @hr (k0); (repeat' (first | refine AWpA.seq ?_ | refine AWpA.block ?_ | (with_reducible refine CondP.tt ?_) | (with_reducible refine CondP.ff ?_) | refine AWpA.cg ?_ | ((first | refine AWpA.rg ?_ | refine AWpA.dg [] [] follows ?_ | refine TailK.tg ?_ | refine AWpA.skip ?_ | refine AWpA.exit ?_ | refine AWpA.ret ?_ | (with_reducible refine ARoundsA.succ ?_) | ((first | refine Runs.gkt (fun h9 => ?_) | refine Runs.gkf (fun h9 => ?_) | refine Runs.gnt (fun h9 => ?_) | refine Runs.gnf (fun h9 => ?_) | refine CondP.gt (fun h9 => ?_) | refine CondP.gf (fun h9 => ?_) | refine CondP.gnt (fun h9 => ?_) | refine CondP.gnf (fun h9 => ?_)); (try simp only [h9]); clear h9)); (try simp (maxSteps := 9999999) (disch := omega) only [go_sem, k9]); (try refine cnd ?_)) | ((first | refine CondP.split (fun hif => ?_) (fun hif => ?_) | refine Runs.part (fun hif => ?_) (fun hif => ?_)) <;> ((try simp only [hif]); (try simp only [BL] at hif); (try (have h9 : _ = true := hif; simp only [h9])); (try (have h9 : _ = false := hif; simp only [h9])); (try simp (maxSteps := 9999999) (disch := omega) only [go_sem, k9]); (try refine cnd ?_); (try (exfalso; omega; done)))))); (all_goals (try clear k9)))
  (apply AWpA.loopL (fun i : Nat => [(0, .sl 0 o l.length 9 none), (1, .sl 1 o' l.length 9 none), (5, I i)]) (fun i => [.cells true (Re o l), .cells true (Re o' l)]) (fun i => l.length - i) (fun i => i ≤ l.length) (0) [0, 1]; rotate_left; (focus (simp (maxSteps := 9999999) (disch := omega) only [go_sem, hr]; (try (repeat' (first | done | trivial | rfl | exact leAs_rfl _ | decide | (refine And.intro ?_ ?_) | (simp; done) | omega | (simp; decide)))))); rotate_right)
  · exact Nat.zero_le _
  rintro i hi
  (try simp only at hi)
  by_cases hin : i < l.length
  · have g1 : ((i : Int) < (l.length : Int)) = True := eq_true (by omega)
    have hbe : ∀ x : ByteArray, (x == x) = true := fun x => (_root_.Go.MapKept.bytes_beq _ _).2 rfl
    have hat := re_at o l i hin
    have hat2 := re_at o' l i hin
    generalize l[i] = x at *
    (try simp (maxSteps := 9999999) (disch := omega) only [go_sem])
    (have k9 := And.intro @hr (And.intro @hL (And.intro @hL2 (And.intro @hat (And.intro @hat2 (And.intro @hbe (And.intro @g1 (k0))))))); (repeat' (first | refine AWpA.seq ?_ | refine AWpA.block ?_ | (with_reducible refine CondP.tt ?_) | (with_reducible refine CondP.ff ?_) | refine AWpA.cg ?_ | ((first | refine AWpA.rg ?_ | refine AWpA.dg [] [] follows ?_ | refine TailK.tg ?_ | refine AWpA.skip ?_ | refine AWpA.exit ?_ | refine AWpA.ret ?_ | (with_reducible refine ARoundsA.succ ?_) | ((first | refine Runs.gkt (fun h9 => ?_) | refine Runs.gkf (fun h9 => ?_) | refine Runs.gnt (fun h9 => ?_) | refine Runs.gnf (fun h9 => ?_) | refine CondP.gt (fun h9 => ?_) | refine CondP.gf (fun h9 => ?_) | refine CondP.gnt (fun h9 => ?_) | refine CondP.gnf (fun h9 => ?_)); (try simp only [h9]); clear h9)); (try simp (maxSteps := 9999999) (disch := omega) only [go_sem, k9]); (try refine cnd ?_)) | ((first | refine CondP.split (fun hif => ?_) (fun hif => ?_) | refine Runs.part (fun hif => ?_) (fun hif => ?_)) <;> ((try simp only [hif]); (try simp only [BL] at hif); (try (have h9 : _ = true := hif; simp only [h9])); (try (have h9 : _ = false := hif; simp only [h9])); (try simp (maxSteps := 9999999) (disch := omega) only [go_sem, k9]); (try refine cnd ?_); (try (exfalso; omega; done)))))); (all_goals (try clear k9)))
    (apply Back.to (i + 1) [0, 1]; (focus ((try simp (maxSteps := 9999999) (disch := omega) only [go_sem, hr]); first | done | omega)); rotate_left; (focus (simp (maxSteps := 9999999) (disch := omega) only [go_sem, hr]; (try (repeat' (first | done | trivial | rfl | exact leAs_rfl _ | decide | (refine And.intro ?_ ?_) | (simp; done) | omega | (simp; decide)))))))
    omega
  · obtain rfl : i = l.length := by omega
    have g1 : ((l.length : Int) < (l.length : Int)) = False := eq_false (by omega)
    (try simp (maxSteps := 9999999) (disch := omega) only [go_sem])
    (have k9 := And.intro @hr (And.intro @g1 (k0)); (repeat' (first | refine AWpA.seq ?_ | refine AWpA.block ?_ | (with_reducible refine CondP.tt ?_) | (with_reducible refine CondP.ff ?_) | refine AWpA.cg ?_ | ((first | refine AWpA.rg ?_ | refine AWpA.dg [] [] follows ?_ | refine TailK.tg ?_ | refine AWpA.skip ?_ | refine AWpA.exit ?_ | refine AWpA.ret ?_ | (with_reducible refine ARoundsA.succ ?_) | ((first | refine Runs.gkt (fun h9 => ?_) | refine Runs.gkf (fun h9 => ?_) | refine Runs.gnt (fun h9 => ?_) | refine Runs.gnf (fun h9 => ?_) | refine CondP.gt (fun h9 => ?_) | refine CondP.gf (fun h9 => ?_) | refine CondP.gnt (fun h9 => ?_) | refine CondP.gnf (fun h9 => ?_)); (try simp only [h9]); clear h9)); (try simp (maxSteps := 9999999) (disch := omega) only [go_sem, k9]); (try refine cnd ?_)) | ((first | refine CondP.split (fun hif => ?_) (fun hif => ?_) | refine Runs.part (fun hif => ?_) (fun hif => ?_)) <;> ((try simp only [hif]); (try simp only [BL] at hif); (try (have h9 : _ = true := hif; simp only [h9])); (try (have h9 : _ = false := hif; simp only [h9])); (try simp (maxSteps := 9999999) (disch := omega) only [go_sem, k9]); (try refine cnd ?_); (try (exfalso; omega; done)))))); (all_goals (try clear k9)))
    (apply Ret.det [0, 1]; (focus (first | exact .inl rfl | exact .inr rfl)); (focus (simp (maxSteps := 9999999) (disch := omega) only [go_sem, hr]; rfl)); (simp (maxSteps := 9999999) (disch := omega) only [go_sem, hr]; (try (repeat' (first | done | trivial | rfl | exact leAs_rfl _ | decide | (refine And.intro ?_ ?_) | (simp; done) | omega | (simp; decide))))))
end Go.Proofs.Ytbblpmkdhdnkhaa
