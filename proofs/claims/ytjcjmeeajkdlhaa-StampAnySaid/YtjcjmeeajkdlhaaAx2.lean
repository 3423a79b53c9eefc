/- Contracts: the latest of stamps. -/
import Derived.Test.YtjcjmeeajkdlhaaAx1
namespace Go.Proofs.Ytjcjmeeajkdlhaa
set_option linter.unusedSimpArgs false
set_option linter.unusedVariables false
set_option maxHeartbeats 4000000
open Go Go.Am Go.RowKit
set_option maxRecDepth 100000
abbrev Rs (off : Nat) (l : List St) : List AV := rowsC off (fun s : St => [I s.c, I s.s]) l
theorem rs_ren (off : Nat) (l : List St) (ρ : List Nat) : renL ρ (Rs off l) = Rs off l := rowsC_ren (fun ρ x => by simp [renL, ren]) ρ l
theorem rs_len (off : Nat) (l : List St) : (Rs off l).length = off + l.length * 2 := rowsC_len (f := fun s : St => [I s.c, I s.s]) (k := 2) (fun _ => rfl) l
theorem rs_at (off : Nat) (l : List St) (i : Nat) (h : i < l.length) : ((Rs off l).drop (off + i * 2)).take 2 = [I l[i].c, I l[i].s] := rowsC_at (f := fun s : St => [I s.c, I s.s]) (k := 2) (fun _ => rfl) l i h
theorem mxS_take (m : St) (l : List St) (i : Nat) (h : i < l.length) : mxS m (l.take (i + 1)) = if laterB l[i] (mxS m (l.take i)) = true then l[i] else mxS m (l.take i) := by
  unfold mxS
  rw [List.take_add_one, List.getElem?_eq_getElem h, Option.toList, List.foldl_append]; rfl
/- slices.MaxFunc[[]quidnunc/api.Stamp,quidnunc/api.Stamp] -/
noncomputable def c67_1 : ACode := .region false [⟨some 4, .alloc [(.int .i64 0), (.int .i64 0)], [], none⟩] [] [] [0, 1, 4] true [] []
noncomputable def c67_4 : ACode := .region false [⟨some 7, .move, [.t 0], none⟩,
  ⟨some 8, .len, [.t 7], none⟩,
  ⟨some 9, .bin .lss, [.t 8, .c (.val (.int .i64 1))], none⟩] [] [] [0, 1, 4, 9] false [] []
noncomputable def c67_6 : ACode := .region false [⟨some 10, .other, [], none⟩,
  ⟨none, .other, [], none⟩] [] [] [0, 1, 4] false [] []
noncomputable def c67_5 : ACode := .cond (.t 9) c67_6 .skip
noncomputable def c67_3 : ACode := .seq c67_4 c67_5
noncomputable def c67_8 : ACode := .region false [⟨some 11, .move, [.t 0], none⟩,
  ⟨some 12, .ixS 2, [.t 11, .c (.val (.int .i64 0))], none⟩,
  ⟨some 13, .load true 2, [.t 12], none⟩,
  ⟨some 5, .alloc [(.int .i64 0), (.int .i64 0)], [], none⟩,
  ⟨none, .store 2, [.t 5, .t 13], none⟩] [] [] [0, 1, 4, 5] true [] []
noncomputable def c67_11 : ACode := .region false [⟨some 6, .move, [.c (.val (.int .i64 1))], none⟩] [] [] [0, 1, 4, 5, 6] false [] []
noncomputable def c67_16 : ACode := .region false [⟨some 14, .move, [.t 6], none⟩,
  ⟨some 15, .move, [.t 0], none⟩,
  ⟨some 16, .len, [.t 15], none⟩,
  ⟨some 17, .bin .lss, [.t 14, .t 16], none⟩] [] [] [0, 1, 4, 5, 6, 17] false [] []
noncomputable def c67_17 : ACode := .cond (.t 17) .skip (.exit 0)
noncomputable def c67_15 : ACode := .seq c67_16 c67_17
noncomputable def c67_21 : ACode := .region true [⟨some 20, .move, [.t 1], none⟩,
  ⟨some 21, .move, [.t 0], none⟩,
  ⟨some 22, .move, [.t 6], none⟩,
  ⟨some 23, .ixS 2, [.t 21, .t 22], none⟩,
  ⟨some 24, .load true 2, [.t 23], none⟩,
  ⟨some 25, .load true 2, [.t 5], none⟩,
  ⟨some 26, .callv, [.t 20, .t 24, .t 25], none⟩,
  ⟨some 27, .bin .gtr, [.t 26, .c (.val (.int .i64 0))], none⟩] [] [] [0, 1, 4, 5, 6, 27] true [] []
noncomputable def c67_23 : ACode := .region false [⟨some 28, .move, [.t 0], none⟩,
  ⟨some 29, .move, [.t 6], none⟩,
  ⟨some 30, .ixS 2, [.t 28, .t 29], none⟩,
  ⟨some 31, .load true 2, [.t 30], none⟩,
  ⟨none, .store 2, [.t 5, .t 31], none⟩] [] [] [0, 1, 4, 5, 6] true [] []
noncomputable def c67_22 : ACode := .cond (.t 27) c67_23 .skip
noncomputable def c67_20 : ACode := .seq c67_21 c67_22
noncomputable def c67_19 : ACode := .block 1 c67_20
noncomputable def c67_24 : ACode := .region false [⟨some 18, .move, [.t 6], none⟩,
  ⟨some 19, .bin .add, [.t 18, .c (.val (.int .i64 1))], none⟩,
  ⟨some 6, .move, [.t 19], none⟩] [] [] [0, 1, 4, 5, 6] false [] []
noncomputable def c67_18 : ACode := .seq c67_19 c67_24
noncomputable def c67_14 : ACode := .seq c67_15 c67_18
noncomputable def c67_13 : ACode := .loop c67_14
noncomputable def c67_12 : ACode := .block 0 c67_13
noncomputable def c67_10 : ACode := .seq c67_11 c67_12
noncomputable def c67_26 : ACode := .region false [⟨some 32, .load true 2, [.t 5], none⟩,
  ⟨none, .store 2, [.t 4, .t 32], none⟩] [] [] [4] true [] []
noncomputable def c67_25 : ACode := .seq c67_26 .ret
noncomputable def c67_9 : ACode := .seq c67_10 c67_25
noncomputable def c67_7 : ACode := .seq c67_8 c67_9
noncomputable def c67_2 : ACode := .seq c67_3 c67_7
noncomputable def c67_0 : ACode := .seq c67_1 c67_2
noncomputable def code67 : Code := (Try.f67.body).getD .skip
theorem c67_ok : compC Try.prog 33 code67 = some (strip c67_0) := by kernel_rfl
theorem res67_ok : Try.f67.results.toList.mapM (resC Try.prog) = some [(4, some (true, 2))] := by kernel_rfl
/- quidnunc/stamp.Latest -/
noncomputable def c52_1 : ACode := .region false [⟨some 2, .alloc [(.int .i64 0), (.int .i64 0)], [], none⟩] [] [] [0, 2] true [] []
noncomputable def c52_4 : ACode := .region false [⟨some 3, .move, [.t 0], none⟩,
  ⟨some 4, .len, [.t 3], none⟩,
  ⟨some 5, .bin .eql, [.t 4, .c (.val (.int .i64 0))], none⟩] [] [] [0, 2, 5] false [] []
noncomputable def c52_7 : ACode := .region false [⟨some 6, .build [(.int .i64 0), (.int .i64 0)] [], [], none⟩,
  ⟨none, .store 2, [.t 2, .t 6], none⟩] [] [] [2] true [] []
noncomputable def c52_6 : ACode := .seq c52_7 .ret
noncomputable def c52_5 : ACode := .cond (.t 5) c52_6 .skip
noncomputable def c52_3 : ACode := .seq c52_4 c52_5
noncomputable def c52_9 : ACode := .region false [⟨some 7, .move, [.t 0], none⟩,
  ⟨some 8, .call 67, [.t 7, .c (.fn 50 [] [])], none⟩,
  ⟨none, .store 2, [.t 2, .t 8], none⟩] [] [] [2] true [] []
noncomputable def c52_8 : ACode := .seq c52_9 .ret
noncomputable def c52_2 : ACode := .seq c52_3 c52_8
noncomputable def c52_0 : ACode := .seq c52_1 c52_2
noncomputable def code52 : Code := (Try.f52.body).getD .skip
theorem c52_ok : compC Try.prog 9 code52 = some (strip c52_0) := by kernel_rfl
theorem res52_ok : Try.f52.results.toList.mapM (resC Try.prog) = some [(2, some (true, 2))] := by kernel_rfl
theorem maxf_any (off : Nat) (m : St) (l : List St) (hl : (m :: l).length ≤ 9223372036854775807) : ACall Try.prog 67 [.sl 0 off (m :: l).length 2 none, .fn 50 [] []] [.cells true (Rs off (m :: l))] (Det (StA (mxS m l)) [.cells true (Rs off (m :: l))]) := by
  have hr := rs_ren off (m :: l)
  have hlen := rs_len off (m :: l)
  have h0 := rs_at off (m :: l) 0 (by simp)
  simp only [Nat.zero_mul, Nat.add_zero, List.getElem_cons_zero] at h0
  have hn : (m :: l).length = l.length + 1 := rfl
  have g0 : (((l.length + 1 : Nat) : Int) < 1) = False := eq_false (by omega)
  have hm0 : mxS m (l.take 0) = m := rfl
  rw [hn] at hlen hl ⊢
  refine ACall.startA c67_ok Try.func67 rfl Try.ntmps67 (by kernel_rfl) res67_ok rfl rfl rfl ?_; simp (maxSteps := 9999999) (disch := omega) only [go_sem]
  (repeat' (first | refine AWpA.seq ?_ | refine AWpA.block ?_ | (with_reducible refine CondP.tt ?_) | (with_reducible refine CondP.ff ?_) | refine AWpA.condv (by simp (maxSteps := 9999999) (disch := omega) only [go_sem, hr, hlen, h0, g0]; rfl) ?_ | ((first | (apply AWpA.region; (focus (simp (maxSteps := 9999999) (disch := omega) only [go_sem, hr, hlen, h0, g0]; rfl))) | (apply AWpA.draw [] [] follows; (focus (first | rfl | decide)); (focus (simp (maxSteps := 9999999) (disch := omega) only [go_sem, hr, hlen, h0, g0]; rfl)); (focus (simp (maxSteps := 9999999) (disch := omega) only [go_sem, hr, hlen, h0, g0]; first | done | trivial)); (focus (simp (maxSteps := 9999999) (disch := omega) only [go_sem, hr, hlen, h0, g0]; rfl))) | (apply TailK.go; (focus (simp (maxSteps := 9999999) (disch := omega) only [go_sem, hr, hlen, h0, g0]; rfl))) | refine AWpA.skip ?_ | refine AWpA.exit ?_ | refine AWpA.ret ?_ | (with_reducible refine ARoundsA.succ ?_) | ((first | refine Runs.kt (by assumption) (fun h9 => ?_) | refine Runs.kf (by assumption) (fun h9 => ?_) | refine Runs.nt (by assumption) (fun h9 => ?_) | refine Runs.nf (by assumption) (fun h9 => ?_) | refine CondP.ht (by assumption) (fun h9 => ?_) | refine CondP.hf (by assumption) (fun h9 => ?_) | refine CondP.nt (by assumption) (fun h9 => ?_) | refine CondP.nf (by assumption) (fun h9 => ?_)); (try simp only [h9]); clear h9)); (try simp (maxSteps := 9999999) (disch := omega) only [go_sem, hr, hlen, h0, g0]); (try (refine And.intro ?_ ?_; (focus (first | omega | (simp only [go_sem]; done) | (simp; done) | (simp; omega) | assumption))))) | ((first | refine CondP.split (fun hif => ?_) (fun hif => ?_) | refine Runs.part (fun hif => ?_) (fun hif => ?_)) <;> ((try simp only [hif]); (try simp only [decide_eq_true_eq, decide_eq_false_iff_not, Bool.not_eq_true, Bool.not_eq_false, Bool.not_eq_true', Bool.not_eq_false', beq_iff_eq, bne_iff_ne, bne_eq_false_iff_eq, beq_eq_false_iff_ne, ne_eq, Bool.and_eq_true, Bool.or_eq_true, Bool.or_eq_false_iff] at hif); (try (have h9 : _ = true := hif; simp only [h9])); (try (have h9 : _ = false := hif; simp only [h9])); (try simp (maxSteps := 9999999) (disch := omega) only [go_sem, hr, hlen, h0, g0]); (try (refine And.intro ?_ ?_; (focus (first | omega | (simp only [go_sem]; done) | (simp; done) | (simp; omega) | assumption)))); (try (exfalso; omega; done))))))
  (apply AWpA.loopL (fun i : Nat => [(0, .sl 0 off (l.length + 1) 2 none), (1, .fn 50 [] []), (4, .ptr 1 0), (5, .ptr 2 0), (6, I i)]) (fun i => [.cells true (Rs off (m :: l)), .cells false [I 0, I 0], .cells false [I (mxS m (l.take (i - 1))).c, I (mxS m (l.take (i - 1))).s]]) (fun i => l.length + 1 - i) (fun i => 1 ≤ i ∧ i ≤ l.length + 1) (1) [0, 1, 113]; rotate_left; (focus (simp (maxSteps := 9999999) (disch := omega) only [go_sem, hr, hm0, Nat.sub_self]; (try (repeat' (first | done | trivial | rfl | exact leAs_rfl _ | decide | (refine And.intro ?_ ?_) | (simp; done) | omega | (simp; decide)))))); rotate_right)
  · exact ⟨Nat.le_refl _, by omega⟩
  rintro i ⟨h1, hi⟩
  (try simp only at h1 hi)
  by_cases hin : i < l.length + 1
  · have g1 : ((i : Int) < (l.length : Int) + 1) = True := eq_true (by omega)
    obtain ⟨x, hx⟩ : ∃ x, x = (m :: l)[i]'(by rw [hn]; omega) := ⟨_, rfl⟩
    have hat := rs_at off (m :: l) i (by rw [hn]; omega)
    rw [← hx] at hat
    have hst := mxS_take m l (i - 1) (by omega)
    have hxl : l[i - 1]'(by omega) = x := by rw [hx, List.getElem_cons]; rw [dif_neg (by omega)]
    rw [hxl, show i - 1 + 1 = i by omega] at hst
    have e1 : i + 1 - 1 = i := by omega
    generalize mxS m (l.take (i - 1)) = M at *
    have c1 := compare_any x M
    have hcl := cmp_later x M
    cases hb : laterB x M
    · rw [hb] at hst hcl
      simp only [Bool.false_eq_true, if_false] at hst
      have g2 : (0 < cmpS x M) = False := eq_false (of_decide_eq_false hcl)
      generalize cmpS x M = cc at *
      clear hx hxl hcl
      (try simp (maxSteps := 9999999) (disch := omega) only [go_sem])
      (repeat' (first | refine AWpA.seq ?_ | refine AWpA.block ?_ | (with_reducible refine CondP.tt ?_) | (with_reducible refine CondP.ff ?_) | refine AWpA.condv (by simp (maxSteps := 9999999) (disch := omega) only [go_sem, hr, hlen, hat, g1, g2]; rfl) ?_ | ((first | (apply AWpA.region; (focus (simp (maxSteps := 9999999) (disch := omega) only [go_sem, hr, hlen, hat, g1, g2]; rfl))) | (apply AWpA.draw [] [] follows; (focus (first | rfl | decide)); (focus (simp (maxSteps := 9999999) (disch := omega) only [go_sem, hr, hlen, hat, g1, g2]; rfl)); (focus (simp (maxSteps := 9999999) (disch := omega) only [go_sem, hr, hlen, hat, g1, g2]; first | done | trivial)); (focus (simp (maxSteps := 9999999) (disch := omega) only [go_sem, hr, hlen, hat, g1, g2]; rfl))) | (apply TailK.go; (focus (simp (maxSteps := 9999999) (disch := omega) only [go_sem, hr, hlen, hat, g1, g2]; rfl))) | refine AWpA.skip ?_ | refine AWpA.exit ?_ | refine AWpA.ret ?_ | (with_reducible refine ARoundsA.succ ?_) | ((first | refine Runs.kt (by assumption) (fun h9 => ?_) | refine Runs.kf (by assumption) (fun h9 => ?_) | refine Runs.nt (by assumption) (fun h9 => ?_) | refine Runs.nf (by assumption) (fun h9 => ?_) | refine CondP.ht (by assumption) (fun h9 => ?_) | refine CondP.hf (by assumption) (fun h9 => ?_) | refine CondP.nt (by assumption) (fun h9 => ?_) | refine CondP.nf (by assumption) (fun h9 => ?_)); (try simp only [h9]); clear h9) | ((first | (with_reducible apply CallG.plain1 [] (c1)) | (with_reducible apply CallG.draw1 [] (c1))); (focus ((try refine And.intro (leAs_of_eq rfl) ?_); (try refine And.intro (leOL_of_eq rfl) ?_); simp (maxSteps := 9999999) (disch := omega) only [go_sem, hr, hlen, hat, g1, g2]; first | done | (repeat' (first | rfl | (refine And.intro ?_ ?_))))); (focus (simp (maxSteps := 9999999) (disch := omega) only [go_sem, hr, hlen, hat, g1, g2]; rfl)))); (try simp (maxSteps := 9999999) (disch := omega) only [go_sem, hr, hlen, hat, g1, g2]); (try (refine And.intro ?_ ?_; (focus (first | omega | (simp only [go_sem]; done) | (simp; done) | (simp; omega) | assumption))))) | ((first | refine CondP.split (fun hif => ?_) (fun hif => ?_) | refine Runs.part (fun hif => ?_) (fun hif => ?_)) <;> ((try simp only [hif]); (try simp only [decide_eq_true_eq, decide_eq_false_iff_not, Bool.not_eq_true, Bool.not_eq_false, Bool.not_eq_true', Bool.not_eq_false', beq_iff_eq, bne_iff_ne, bne_eq_false_iff_eq, beq_eq_false_iff_ne, ne_eq, Bool.and_eq_true, Bool.or_eq_true, Bool.or_eq_false_iff] at hif); (try (have h9 : _ = true := hif; simp only [h9])); (try (have h9 : _ = false := hif; simp only [h9])); (try simp (maxSteps := 9999999) (disch := omega) only [go_sem, hr, hlen, hat, g1, g2]); (try (refine And.intro ?_ ?_; (focus (first | omega | (simp only [go_sem]; done) | (simp; done) | (simp; omega) | assumption)))); (try (exfalso; omega; done))))))
      (apply Back.to (i + 1) [0, 1, 2]; (focus ((try simp (maxSteps := 9999999) (disch := omega) only [go_sem, e1, hst, hr]); first | done | omega)); rotate_left; (focus (simp (maxSteps := 9999999) (disch := omega) only [go_sem, e1, hst, hr]; (try (repeat' (first | done | trivial | rfl | exact leAs_rfl _ | decide | (refine And.intro ?_ ?_) | (simp; done) | omega | (simp; decide)))))))
      exact ⟨by omega, by omega⟩
    · rw [hb] at hst hcl
      simp only [if_true] at hst
      have g2 : (0 < cmpS x M) = True := eq_true (of_decide_eq_true hcl)
      generalize cmpS x M = cc at *
      clear hx hxl hcl
      (try simp (maxSteps := 9999999) (disch := omega) only [go_sem])
      (repeat' (first | refine AWpA.seq ?_ | refine AWpA.block ?_ | (with_reducible refine CondP.tt ?_) | (with_reducible refine CondP.ff ?_) | refine AWpA.condv (by simp (maxSteps := 9999999) (disch := omega) only [go_sem, hr, hlen, hat, g1, g2]; rfl) ?_ | ((first | (apply AWpA.region; (focus (simp (maxSteps := 9999999) (disch := omega) only [go_sem, hr, hlen, hat, g1, g2]; rfl))) | (apply AWpA.draw [] [] follows; (focus (first | rfl | decide)); (focus (simp (maxSteps := 9999999) (disch := omega) only [go_sem, hr, hlen, hat, g1, g2]; rfl)); (focus (simp (maxSteps := 9999999) (disch := omega) only [go_sem, hr, hlen, hat, g1, g2]; first | done | trivial)); (focus (simp (maxSteps := 9999999) (disch := omega) only [go_sem, hr, hlen, hat, g1, g2]; rfl))) | (apply TailK.go; (focus (simp (maxSteps := 9999999) (disch := omega) only [go_sem, hr, hlen, hat, g1, g2]; rfl))) | refine AWpA.skip ?_ | refine AWpA.exit ?_ | refine AWpA.ret ?_ | (with_reducible refine ARoundsA.succ ?_) | ((first | refine Runs.kt (by assumption) (fun h9 => ?_) | refine Runs.kf (by assumption) (fun h9 => ?_) | refine Runs.nt (by assumption) (fun h9 => ?_) | refine Runs.nf (by assumption) (fun h9 => ?_) | refine CondP.ht (by assumption) (fun h9 => ?_) | refine CondP.hf (by assumption) (fun h9 => ?_) | refine CondP.nt (by assumption) (fun h9 => ?_) | refine CondP.nf (by assumption) (fun h9 => ?_)); (try simp only [h9]); clear h9) | ((first | (with_reducible apply CallG.plain1 [] (c1)) | (with_reducible apply CallG.draw1 [] (c1))); (focus ((try refine And.intro (leAs_of_eq rfl) ?_); (try refine And.intro (leOL_of_eq rfl) ?_); simp (maxSteps := 9999999) (disch := omega) only [go_sem, hr, hlen, hat, g1, g2]; first | done | (repeat' (first | rfl | (refine And.intro ?_ ?_))))); (focus (simp (maxSteps := 9999999) (disch := omega) only [go_sem, hr, hlen, hat, g1, g2]; rfl)))); (try simp (maxSteps := 9999999) (disch := omega) only [go_sem, hr, hlen, hat, g1, g2]); (try (refine And.intro ?_ ?_; (focus (first | omega | (simp only [go_sem]; done) | (simp; done) | (simp; omega) | assumption))))) | ((first | refine CondP.split (fun hif => ?_) (fun hif => ?_) | refine Runs.part (fun hif => ?_) (fun hif => ?_)) <;> ((try simp only [hif]); (try simp only [decide_eq_true_eq, decide_eq_false_iff_not, Bool.not_eq_true, Bool.not_eq_false, Bool.not_eq_true', Bool.not_eq_false', beq_iff_eq, bne_iff_ne, bne_eq_false_iff_eq, beq_eq_false_iff_ne, ne_eq, Bool.and_eq_true, Bool.or_eq_true, Bool.or_eq_false_iff] at hif); (try (have h9 : _ = true := hif; simp only [h9])); (try (have h9 : _ = false := hif; simp only [h9])); (try simp (maxSteps := 9999999) (disch := omega) only [go_sem, hr, hlen, hat, g1, g2]); (try (refine And.intro ?_ ?_; (focus (first | omega | (simp only [go_sem]; done) | (simp; done) | (simp; omega) | assumption)))); (try (exfalso; omega; done))))))
      (apply Back.to (i + 1) [0, 1, 2]; (focus ((try simp (maxSteps := 9999999) (disch := omega) only [go_sem, e1, hst, hr]); first | done | omega)); rotate_left; (focus (simp (maxSteps := 9999999) (disch := omega) only [go_sem, e1, hst, hr]; (try (repeat' (first | done | trivial | rfl | exact leAs_rfl _ | decide | (refine And.intro ?_ ?_) | (simp; done) | omega | (simp; decide)))))))
      exact ⟨by omega, by omega⟩
  · obtain rfl : i = l.length + 1 := by omega
    have g1 : ((l.length : Int) + 1 < (l.length : Int) + 1) = False := eq_false (by omega)
    rw [Nat.add_sub_cancel, List.take_length]
    (try simp (maxSteps := 9999999) (disch := omega) only [go_sem])
    (repeat' (first | refine AWpA.seq ?_ | refine AWpA.block ?_ | (with_reducible refine CondP.tt ?_) | (with_reducible refine CondP.ff ?_) | refine AWpA.condv (by simp (maxSteps := 9999999) (disch := omega) only [go_sem, hr, g1]; rfl) ?_ | ((first | (apply AWpA.region; (focus (simp (maxSteps := 9999999) (disch := omega) only [go_sem, hr, g1]; rfl))) | (apply AWpA.draw [] [] follows; (focus (first | rfl | decide)); (focus (simp (maxSteps := 9999999) (disch := omega) only [go_sem, hr, g1]; rfl)); (focus (simp (maxSteps := 9999999) (disch := omega) only [go_sem, hr, g1]; first | done | trivial)); (focus (simp (maxSteps := 9999999) (disch := omega) only [go_sem, hr, g1]; rfl))) | (apply TailK.go; (focus (simp (maxSteps := 9999999) (disch := omega) only [go_sem, hr, g1]; rfl))) | refine AWpA.skip ?_ | refine AWpA.exit ?_ | refine AWpA.ret ?_ | (with_reducible refine ARoundsA.succ ?_) | ((first | refine Runs.kt (by assumption) (fun h9 => ?_) | refine Runs.kf (by assumption) (fun h9 => ?_) | refine Runs.nt (by assumption) (fun h9 => ?_) | refine Runs.nf (by assumption) (fun h9 => ?_) | refine CondP.ht (by assumption) (fun h9 => ?_) | refine CondP.hf (by assumption) (fun h9 => ?_) | refine CondP.nt (by assumption) (fun h9 => ?_) | refine CondP.nf (by assumption) (fun h9 => ?_)); (try simp only [h9]); clear h9)); (try simp (maxSteps := 9999999) (disch := omega) only [go_sem, hr, g1]); (try (refine And.intro ?_ ?_; (focus (first | omega | (simp only [go_sem]; done) | (simp; done) | (simp; omega) | assumption))))) | ((first | refine CondP.split (fun hif => ?_) (fun hif => ?_) | refine Runs.part (fun hif => ?_) (fun hif => ?_)) <;> ((try simp only [hif]); (try simp only [decide_eq_true_eq, decide_eq_false_iff_not, Bool.not_eq_true, Bool.not_eq_false, Bool.not_eq_true', Bool.not_eq_false', beq_iff_eq, bne_iff_ne, bne_eq_false_iff_eq, beq_eq_false_iff_ne, ne_eq, Bool.and_eq_true, Bool.or_eq_true, Bool.or_eq_false_iff] at hif); (try (have h9 : _ = true := hif; simp only [h9])); (try (have h9 : _ = false := hif; simp only [h9])); (try simp (maxSteps := 9999999) (disch := omega) only [go_sem, hr, g1]); (try (refine And.intro ?_ ?_; (focus (first | omega | (simp only [go_sem]; done) | (simp; done) | (simp; omega) | assumption)))); (try (exfalso; omega; done))))))
    (apply Ret.det [0]; (focus (first | exact .inl rfl | exact .inr rfl)); (focus (simp (maxSteps := 9999999) (disch := omega) only [go_sem, hr]; rfl)); (simp (maxSteps := 9999999) (disch := omega) only [go_sem, hr]; (try (repeat' (first | done | trivial | rfl | exact leAs_rfl _ | decide | (refine And.intro ?_ ?_) | (simp; done) | omega | (simp; decide))))))
end Go.Proofs.Ytjcjmeeajkdlhaa
