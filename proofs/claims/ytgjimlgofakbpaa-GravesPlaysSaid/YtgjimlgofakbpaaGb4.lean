/- Contracts: the example of chapter 11; are acts few? -/
import Derived.Test.YtgjimlgofakbpaaGb3
namespace Go.Proofs.Ytgjimlgofakbpaa
set_option linter.unusedSimpArgs false
set_option linter.unusedVariables false
set_option maxHeartbeats 4000000
open Go Go.Am Go.RowKit
set_option maxRecDepth 100000
/- quidnunc/quidnunclaw11.speaks -/
noncomputable def c30_1 : ACode := .region false [⟨some 0, .move, [.c (.val (.bool false))], none⟩] [] [] [] false [] []
noncomputable def c30_3 : ACode := .region false [⟨some 7, .call 32, [.c (.val (.int .i64 1)), .c (.val (.int .i64 2))], none⟩,
  ⟨some 6, .move, [.t 7], none⟩,
  ⟨some 8, .ext 0, [.t 6], none⟩,
  ⟨some 9, .ext 1, [.t 6], none⟩,
  ⟨some 1, .move, [.t 8], none⟩,
  ⟨some 2, .move, [.t 9], none⟩] [] [] [1, 2] true [] []
noncomputable def c30_6 : ACode := .region false [⟨some 10, .move, [.t 2], none⟩,
  ⟨some 11, .bin .neq, [.t 10, .c (.val (.int .i64 0))], none⟩,
  ⟨some 12, .move, [.t 11], none⟩,
  ⟨some 13, .move, [.t 1], some (some 12, false)⟩,
  ⟨some 14, .eqP false, [.t 13, .c (.val (.pointer none))], some (some 12, false)⟩,
  ⟨some 15, .pick, [.t 12, .c (.val (.bool true)), .t 14], none⟩] [] [] [1, 15] false [] []
noncomputable def c30_9 : ACode := .region false [⟨some 0, .move, [.c (.val (.bool false))], none⟩] [] [] [0] false [] []
noncomputable def c30_8 : ACode := .seq c30_9 .ret
noncomputable def c30_7 : ACode := .cond (.t 15) c30_8 .skip
noncomputable def c30_5 : ACode := .seq c30_6 c30_7
noncomputable def c30_11 : ACode := .region false [⟨some 16, .build [(.int .i64 0), (.int .i64 0)] [(0, 1)], [.c (.val (.int .i64 3))], none⟩,
  ⟨some 3, .alloc [(.int .i64 0), (.int .i64 0)], [], none⟩,
  ⟨none, .store 2, [.t 3, .t 16], none⟩] [] [] [1, 3] true [] []
noncomputable def c30_14 : ACode := .region false [⟨some 17, .move, [.t 1], none⟩,
  ⟨some 18, .load true 2, [.t 3], none⟩,
  ⟨some 19, .load true 2, [.t 3], none⟩,
  ⟨some 20, .build [(.string ⟨#[]⟩), (.string ⟨#[]⟩), (.bool false), (.int .i64 0), (.int .i64 0), (.int .i64 0), (.int .i64 0), (.int .i64 0), (.int .i64 0)] [(0, 1), (2, 1), (3, 2), (5, 2), (7, 1)], [.c (.val (.string ⟨#[107]⟩)), .c (.val (.bool true)), .t 18, .t 19, .c (.val (.int .i64 2))], none⟩,
  ⟨some 21, .call 34, [.t 17, .t 20], none⟩,
  ⟨some 22, .un .not, [.t 21], none⟩,
  ⟨some 23, .move, [.t 22], none⟩,
  ⟨some 24, .move, [.t 1], some (some 23, false)⟩,
  ⟨some 25, .nilChk, [.t 24], some (some 23, false)⟩,
  ⟨some 26, .addr 0, [.t 25], some (some 23, false)⟩,
  ⟨some 27, .load false 1, [.t 26], some (some 23, false)⟩,
  ⟨some 28, .call 41, [.t 27], some (some 23, false)⟩,
  ⟨some 29, .bin .neq, [.t 28, .c (.val (.int .i64 1))], some (some 23, false)⟩,
  ⟨some 30, .pick, [.t 23, .c (.val (.bool true)), .t 29], none⟩] [] [] [1, 30] true [] []
noncomputable def c30_17 : ACode := .region false [⟨some 0, .move, [.c (.val (.bool false))], none⟩] [] [] [0] false [] []
noncomputable def c30_16 : ACode := .seq c30_17 .ret
noncomputable def c30_15 : ACode := .cond (.t 30) c30_16 .skip
noncomputable def c30_13 : ACode := .seq c30_14 c30_15
noncomputable def c30_19 : ACode := .region false [⟨some 31, .move, [.t 1], none⟩,
  ⟨some 32, .call 33, [.t 31], none⟩,
  ⟨some 4, .move, [.t 32], none⟩] [] [] [1, 4] true [] []
noncomputable def c30_21 : ACode := .region false [⟨some 33, .move, [.t 1], none⟩,
  ⟨some 34, .call 33, [.t 33], none⟩,
  ⟨some 5, .move, [.t 34], none⟩] [] [] [1, 4, 5] true [] []
noncomputable def c30_23 : ACode := .region false [⟨some 35, .move, [.t 4], none⟩,
  ⟨some 36, .len, [.t 35], none⟩,
  ⟨some 37, .bin .eql, [.t 36, .c (.val (.int .i64 0))], none⟩,
  ⟨some 38, .move, [.t 37], none⟩,
  ⟨some 39, .move, [.t 5], some (some 38, true)⟩,
  ⟨some 40, .len, [.t 39], some (some 38, true)⟩,
  ⟨some 41, .bin .eql, [.t 40, .c (.val (.int .i64 1))], some (some 38, true)⟩,
  ⟨some 42, .pick, [.t 38, .t 41, .c (.val (.bool false))], none⟩,
  ⟨some 43, .move, [.t 42], none⟩,
  ⟨some 44, .move, [.t 5], some (some 43, true)⟩,
  ⟨some 45, .ixS 1, [.t 44, .c (.val (.int .i64 0))], some (some 43, true)⟩,
  ⟨some 46, .load false 1, [.t 45], some (some 43, true)⟩,
  ⟨some 47, .bin .eql, [.t 46, .c (.val (.string ⟨#[107]⟩))], some (some 43, true)⟩,
  ⟨some 48, .pick, [.t 43, .t 47, .c (.val (.bool false))], none⟩,
  ⟨some 49, .move, [.t 48], none⟩,
  ⟨some 50, .move, [.t 1], some (some 49, true)⟩,
  ⟨some 51, .nilChk, [.t 50], some (some 49, true)⟩,
  ⟨some 52, .addr 0, [.t 51], some (some 49, true)⟩,
  ⟨some 53, .load false 1, [.t 52], some (some 49, true)⟩,
  ⟨some 54, .call 41, [.t 53], some (some 49, true)⟩,
  ⟨some 55, .bin .eql, [.t 54, .c (.val (.int .i64 0))], some (some 49, true)⟩,
  ⟨some 56, .pick, [.t 49, .t 55, .c (.val (.bool false))], none⟩,
  ⟨some 0, .move, [.t 56], none⟩] [] [] [0] true [] []
noncomputable def c30_22 : ACode := .seq c30_23 .ret
noncomputable def c30_20 : ACode := .seq c30_21 c30_22
noncomputable def c30_18 : ACode := .seq c30_19 c30_20
noncomputable def c30_12 : ACode := .seq c30_13 c30_18
noncomputable def c30_10 : ACode := .seq c30_11 c30_12
noncomputable def c30_4 : ACode := .seq c30_5 c30_10
noncomputable def c30_2 : ACode := .seq c30_3 c30_4
noncomputable def c30_0 : ACode := .seq c30_1 c30_2
noncomputable def code30 : Code := (Try.f30.body).getD .skip
theorem c30_ok : compC Try.prog 57 code30 = some (strip c30_0) := by kernel_rfl
theorem res30_ok : Try.f30.results.toList.mapM (resC Try.prog) = some [(0, none)] := by kernel_rfl
/- quidnunc/quidnunclaw11.few -/
noncomputable def c31_1 : ACode := .region false [⟨some 2, .move, [.c (.val (.bool false))], none⟩] [] [] [0] false [] []
noncomputable def c31_4 : ACode := .region false [⟨some 5, .move, [.t 0], none⟩,
  ⟨some 6, .len, [.t 5], none⟩,
  ⟨some 7, .move, [.c (.val (.int .i64 0))], none⟩] [] [] [0, 5, 6, 7] false [] []
noncomputable def c31_8 : ACode := .region false [⟨some 8, .bin .lss, [.t 7, .t 6], none⟩] [] [] [0, 5, 6, 7, 8] false [] []
noncomputable def c31_10 : ACode := .cond (.t 8) .skip (.exit 0)
noncomputable def c31_14 : ACode := .region false [⟨some 9, .ixS 10, [.t 5, .t 7], none⟩,
  ⟨some 10, .load true 10, [.t 9], none⟩,
  ⟨some 4, .alloc [(.bool false), (.string ⟨#[]⟩), (.string ⟨#[]⟩), (.bool false), (.int .i64 0), (.int .i64 0), (.int .i64 0), (.int .i64 0), (.int .i64 0), (.int .i64 0)], [], none⟩,
  ⟨none, .store 10, [.t 4, .t 10], none⟩] [] [] [0, 4, 5, 6, 7] true [] []
noncomputable def c31_16 : ACode := .region false [⟨some 11, .addr 1, [.t 4], none⟩,
  ⟨some 12, .load true 9, [.t 11], none⟩,
  ⟨some 13, .call 42, [.t 12], none⟩,
  ⟨some 14, .un .not, [.t 13], none⟩] [] [] [0, 5, 6, 7, 14] true [] []
noncomputable def c31_19 : ACode := .region false [⟨some 2, .move, [.c (.val (.bool false))], none⟩] [] [] [2] false [] []
noncomputable def c31_18 : ACode := .seq c31_19 .ret
noncomputable def c31_17 : ACode := .cond (.t 14) c31_18 .skip
noncomputable def c31_15 : ACode := .seq c31_16 c31_17
noncomputable def c31_13 : ACode := .seq c31_14 c31_15
noncomputable def c31_12 : ACode := .block 1 c31_13
noncomputable def c31_20 : ACode := .region false [⟨some 15, .bin .add, [.t 7, .c (.val (.int .i64 1))], none⟩,
  ⟨some 7, .move, [.t 15], none⟩] [] [] [0, 5, 6, 7] false [] []
noncomputable def c31_11 : ACode := .seq c31_12 c31_20
noncomputable def c31_9 : ACode := .seq c31_10 c31_11
noncomputable def c31_7 : ACode := .seq c31_8 c31_9
noncomputable def c31_6 : ACode := .loop c31_7
noncomputable def c31_5 : ACode := .block 0 c31_6
noncomputable def c31_3 : ACode := .seq c31_4 c31_5
noncomputable def c31_22 : ACode := .region false [⟨some 16, .move, [.t 0], none⟩,
  ⟨some 17, .len, [.t 16], none⟩,
  ⟨some 18, .bin .leq, [.t 17, .c (.val (.int .i64 50))], none⟩,
  ⟨some 2, .move, [.t 18], none⟩] [] [] [2] false [] []
noncomputable def c31_21 : ACode := .seq c31_22 .ret
noncomputable def c31_2 : ACode := .seq c31_3 c31_21
noncomputable def c31_0 : ACode := .seq c31_1 c31_2
noncomputable def code31 : Code := (Try.f31.body).getD .skip
theorem c31_ok : compC Try.prog 19 code31 = some (strip c31_0) := by kernel_rfl
theorem res31_ok : Try.f31.results.toList.mapM (resC Try.prog) = some [(2, none)] := by kernel_rfl
/-- What is done with graves. -/
structure AcG where
  tick : Bool
  e : En
abbrev AgL (x : AcG) : List AV := [Bo x.tick, Str x.e.key, Str x.e.val, Bo x.e.dead, I x.e.st.c, I x.e.st.s, I x.e.act.c, I x.e.act.s, I x.e.keep, I x.e.age]
abbrev Rg (off : Nat) (l : List AcG) : List AV := rowsC off AgL l
theorem rg_ren (off : Nat) (l : List AcG) (ρ : List Nat) : renL ρ (Rg off l) = Rg off l := rowsC_ren (fun ρ x => by simp [renL, ren]) ρ l
theorem rg_len (off : Nat) (l : List AcG) : (Rg off l).length = off + l.length * 10 := rowsC_len (f := AgL) (k := 10) (fun _ => rfl) l
theorem rg_at (off : Nat) (l : List AcG) (i : Nat) (h : i < l.length) : ((Rg off l).drop (off + i * 10)).take 10 = AgL l[i] := rowsC_at (f := AgL) (k := 10) (fun _ => rfl) l i h
def fewG (l : List AcG) : Bool := (l.all fun a => shortB a.e) && decide (l.length ≤ 50)
theorem fewG_no {l : List AcG} {i : Nat} (h : i < l.length) (hs : shortB l[i].e = false) : fewG l = false := by
  have : (l.all fun a => shortB a.e) = false := by
    rw [List.all_eq_false]
    exact ⟨l[i], List.getElem_mem h, by simp [hs]⟩
  unfold fewG
  rw [this]; rfl
theorem few11_any (off : Nat) (l : List AcG) (hl : l.length ≤ 9223372036854775807) : ACall Try.prog 31 [.sl 0 off l.length 10 none] [.cells true (Rg off l)] (Det (Bo (fewG l)) [.cells true (Rg off l)]) := by
  have hr := rg_ren off l
  have hlen := rg_len off l
  refine ACall.startA c31_ok Try.func31 rfl Try.ntmps31 (by kernel_rfl) res31_ok rfl rfl rfl ?_; simp (maxSteps := 9999999) (disch := omega) only [go_sem]
  (repeat' (first | refine AWpA.seq ?_ | refine AWpA.block ?_ | (with_reducible refine CondP.tt ?_) | (with_reducible refine CondP.ff ?_) | refine AWpA.condv (by simp (maxSteps := 9999999) (disch := omega) only [go_sem, hr]; rfl) ?_ | ((first | (apply AWpA.region; (focus (simp (maxSteps := 9999999) (disch := omega) only [go_sem, hr]; rfl))) | (apply AWpA.draw [] [] follows; (focus (first | rfl | decide)); (focus (simp (maxSteps := 9999999) (disch := omega) only [go_sem, hr]; rfl)); (focus (simp (maxSteps := 9999999) (disch := omega) only [go_sem, hr]; first | done | trivial)); (focus (simp (maxSteps := 9999999) (disch := omega) only [go_sem, hr]; rfl))) | (apply TailK.go; (focus (simp (maxSteps := 9999999) (disch := omega) only [go_sem, hr]; rfl))) | refine AWpA.skip ?_ | refine AWpA.exit ?_ | refine AWpA.ret ?_ | (with_reducible refine ARoundsA.succ ?_) | ((first | refine Runs.kt (by assumption) (fun h9 => ?_) | refine Runs.kf (by assumption) (fun h9 => ?_) | refine Runs.nt (by assumption) (fun h9 => ?_) | refine Runs.nf (by assumption) (fun h9 => ?_) | refine CondP.ht (by assumption) (fun h9 => ?_) | refine CondP.hf (by assumption) (fun h9 => ?_) | refine CondP.nt (by assumption) (fun h9 => ?_) | refine CondP.nf (by assumption) (fun h9 => ?_)); (try simp only [h9]); clear h9)); (try simp (maxSteps := 9999999) (disch := omega) only [go_sem, hr]); (try (refine And.intro ?_ ?_; (focus (first | omega | (simp only [go_sem]; done) | (simp; done) | (simp; omega) | assumption))))) | ((first | refine CondP.split (fun hif => ?_) (fun hif => ?_) | refine Runs.part (fun hif => ?_) (fun hif => ?_)) <;> ((try simp only [hif]); (try simp only [decide_eq_true_eq, decide_eq_false_iff_not, Bool.not_eq_true, Bool.not_eq_false, Bool.not_eq_true', Bool.not_eq_false', beq_iff_eq, bne_iff_ne, bne_eq_false_iff_eq, beq_eq_false_iff_ne, ne_eq, Bool.and_eq_true, Bool.or_eq_true, Bool.or_eq_false_iff] at hif); (try (have h9 : _ = true := hif; simp only [h9])); (try (have h9 : _ = false := hif; simp only [h9])); (try simp (maxSteps := 9999999) (disch := omega) only [go_sem, hr]); (try (refine And.intro ?_ ?_; (focus (first | omega | (simp only [go_sem]; done) | (simp; done) | (simp; omega) | assumption)))); (try (exfalso; omega; done))))))
  (apply AWpA.loopL (fun i : Nat => [(0, .sl 0 off l.length 10 none), (5, .sl 0 off l.length 10 none), (6, I l.length), (7, I i)]) (fun i => [.cells true (Rg off l)]) (fun i => l.length - i) (fun i => i ≤ l.length ∧ ((l.take i).all fun a => shortB a.e) = true) (0) [0]; rotate_left; (focus (simp (maxSteps := 9999999) (disch := omega) only [go_sem, hr]; (try (repeat' (first | done | trivial | rfl | exact leAs_rfl _ | decide | (refine And.intro ?_ ?_) | (simp; done) | omega | (simp; decide)))))); rotate_right)
  · exact ⟨Nat.zero_le _, rfl⟩
  rintro i ⟨hi, ha⟩
  (try simp only at hi ha)
  by_cases hin : i < l.length
  · have g1 : ((i : Int) < (l.length : Int)) = True := eq_true (by omega)
    have hat := rg_at off l i hin
    have s1 := short_any l[i].e
    cases hs : shortB l[i].e
    · have e : fewG l = false := fewG_no hin hs
      rw [hs] at s1
      rw [e]
      generalize l[i] = x at *
      (try simp (maxSteps := 9999999) (disch := omega) only [go_sem])
      (repeat' (first | refine AWpA.seq ?_ | refine AWpA.block ?_ | (with_reducible refine CondP.tt ?_) | (with_reducible refine CondP.ff ?_) | refine AWpA.condv (by simp (maxSteps := 9999999) (disch := omega) only [go_sem, hr, hlen, hat, g1]; rfl) ?_ | ((first | (apply AWpA.region; (focus (simp (maxSteps := 9999999) (disch := omega) only [go_sem, hr, hlen, hat, g1]; rfl))) | (apply AWpA.draw [] [] follows; (focus (first | rfl | decide)); (focus (simp (maxSteps := 9999999) (disch := omega) only [go_sem, hr, hlen, hat, g1]; rfl)); (focus (simp (maxSteps := 9999999) (disch := omega) only [go_sem, hr, hlen, hat, g1]; first | done | trivial)); (focus (simp (maxSteps := 9999999) (disch := omega) only [go_sem, hr, hlen, hat, g1]; rfl))) | (apply TailK.go; (focus (simp (maxSteps := 9999999) (disch := omega) only [go_sem, hr, hlen, hat, g1]; rfl))) | refine AWpA.skip ?_ | refine AWpA.exit ?_ | refine AWpA.ret ?_ | (with_reducible refine ARoundsA.succ ?_) | ((first | refine Runs.kt (by assumption) (fun h9 => ?_) | refine Runs.kf (by assumption) (fun h9 => ?_) | refine Runs.nt (by assumption) (fun h9 => ?_) | refine Runs.nf (by assumption) (fun h9 => ?_) | refine CondP.ht (by assumption) (fun h9 => ?_) | refine CondP.hf (by assumption) (fun h9 => ?_) | refine CondP.nt (by assumption) (fun h9 => ?_) | refine CondP.nf (by assumption) (fun h9 => ?_)); (try simp only [h9]); clear h9) | ((first | (with_reducible apply CallG.plain1 [] (s1)) | (with_reducible apply CallG.draw1 [] (s1))); (focus ((try refine And.intro (leAs_of_eq rfl) ?_); (try refine And.intro (leOL_of_eq rfl) ?_); simp (maxSteps := 9999999) (disch := omega) only [go_sem, hr, hlen, hat, g1]; first | done | (repeat' (first | rfl | (refine And.intro ?_ ?_))))); (focus (simp (maxSteps := 9999999) (disch := omega) only [go_sem, hr, hlen, hat, g1]; rfl)))); (try simp (maxSteps := 9999999) (disch := omega) only [go_sem, hr, hlen, hat, g1]); (try (refine And.intro ?_ ?_; (focus (first | omega | (simp only [go_sem]; done) | (simp; done) | (simp; omega) | assumption))))) | ((first | refine CondP.split (fun hif => ?_) (fun hif => ?_) | refine Runs.part (fun hif => ?_) (fun hif => ?_)) <;> ((try simp only [hif]); (try simp only [decide_eq_true_eq, decide_eq_false_iff_not, Bool.not_eq_true, Bool.not_eq_false, Bool.not_eq_true', Bool.not_eq_false', beq_iff_eq, bne_iff_ne, bne_eq_false_iff_eq, beq_eq_false_iff_ne, ne_eq, Bool.and_eq_true, Bool.or_eq_true, Bool.or_eq_false_iff] at hif); (try (have h9 : _ = true := hif; simp only [h9])); (try (have h9 : _ = false := hif; simp only [h9])); (try simp (maxSteps := 9999999) (disch := omega) only [go_sem, hr, hlen, hat, g1]); (try (refine And.intro ?_ ?_; (focus (first | omega | (simp only [go_sem]; done) | (simp; done) | (simp; omega) | assumption)))); (try (exfalso; omega; done))))))
      (apply Ret.det [0]; (focus (first | exact .inl rfl | exact .inr rfl)); (focus (simp (maxSteps := 9999999) (disch := omega) only [go_sem, hr]; rfl)); (simp (maxSteps := 9999999) (disch := omega) only [go_sem, hr]; (try (repeat' (first | done | trivial | rfl | exact leAs_rfl _ | decide | (refine And.intro ?_ ?_) | (simp; done) | omega | (simp; decide))))))
    · have ha2 : ((l.take (i + 1)).all fun a => shortB a.e) = true := by
        rw [List.take_add_one, List.getElem?_eq_getElem hin, List.all_append, ha]; simp [hs]
      rw [hs] at s1
      generalize l[i] = x at *
      (try simp (maxSteps := 9999999) (disch := omega) only [go_sem])
      (repeat' (first | refine AWpA.seq ?_ | refine AWpA.block ?_ | (with_reducible refine CondP.tt ?_) | (with_reducible refine CondP.ff ?_) | refine AWpA.condv (by simp (maxSteps := 9999999) (disch := omega) only [go_sem, hr, hlen, hat, g1]; rfl) ?_ | ((first | (apply AWpA.region; (focus (simp (maxSteps := 9999999) (disch := omega) only [go_sem, hr, hlen, hat, g1]; rfl))) | (apply AWpA.draw [] [] follows; (focus (first | rfl | decide)); (focus (simp (maxSteps := 9999999) (disch := omega) only [go_sem, hr, hlen, hat, g1]; rfl)); (focus (simp (maxSteps := 9999999) (disch := omega) only [go_sem, hr, hlen, hat, g1]; first | done | trivial)); (focus (simp (maxSteps := 9999999) (disch := omega) only [go_sem, hr, hlen, hat, g1]; rfl))) | (apply TailK.go; (focus (simp (maxSteps := 9999999) (disch := omega) only [go_sem, hr, hlen, hat, g1]; rfl))) | refine AWpA.skip ?_ | refine AWpA.exit ?_ | refine AWpA.ret ?_ | (with_reducible refine ARoundsA.succ ?_) | ((first | refine Runs.kt (by assumption) (fun h9 => ?_) | refine Runs.kf (by assumption) (fun h9 => ?_) | refine Runs.nt (by assumption) (fun h9 => ?_) | refine Runs.nf (by assumption) (fun h9 => ?_) | refine CondP.ht (by assumption) (fun h9 => ?_) | refine CondP.hf (by assumption) (fun h9 => ?_) | refine CondP.nt (by assumption) (fun h9 => ?_) | refine CondP.nf (by assumption) (fun h9 => ?_)); (try simp only [h9]); clear h9) | ((first | (with_reducible apply CallG.plain1 [] (s1)) | (with_reducible apply CallG.draw1 [] (s1))); (focus ((try refine And.intro (leAs_of_eq rfl) ?_); (try refine And.intro (leOL_of_eq rfl) ?_); simp (maxSteps := 9999999) (disch := omega) only [go_sem, hr, hlen, hat, g1]; first | done | (repeat' (first | rfl | (refine And.intro ?_ ?_))))); (focus (simp (maxSteps := 9999999) (disch := omega) only [go_sem, hr, hlen, hat, g1]; rfl)))); (try simp (maxSteps := 9999999) (disch := omega) only [go_sem, hr, hlen, hat, g1]); (try (refine And.intro ?_ ?_; (focus (first | omega | (simp only [go_sem]; done) | (simp; done) | (simp; omega) | assumption))))) | ((first | refine CondP.split (fun hif => ?_) (fun hif => ?_) | refine Runs.part (fun hif => ?_) (fun hif => ?_)) <;> ((try simp only [hif]); (try simp only [decide_eq_true_eq, decide_eq_false_iff_not, Bool.not_eq_true, Bool.not_eq_false, Bool.not_eq_true', Bool.not_eq_false', beq_iff_eq, bne_iff_ne, bne_eq_false_iff_eq, beq_eq_false_iff_ne, ne_eq, Bool.and_eq_true, Bool.or_eq_true, Bool.or_eq_false_iff] at hif); (try (have h9 : _ = true := hif; simp only [h9])); (try (have h9 : _ = false := hif; simp only [h9])); (try simp (maxSteps := 9999999) (disch := omega) only [go_sem, hr, hlen, hat, g1]); (try (refine And.intro ?_ ?_; (focus (first | omega | (simp only [go_sem]; done) | (simp; done) | (simp; omega) | assumption)))); (try (exfalso; omega; done))))))
      (apply Back.to (i + 1) [0]; (focus ((try simp (maxSteps := 9999999) (disch := omega) only [go_sem, hr]); first | done | omega)); rotate_left; (focus (simp (maxSteps := 9999999) (disch := omega) only [go_sem, hr]; (try (repeat' (first | done | trivial | rfl | exact leAs_rfl _ | decide | (refine And.intro ?_ ?_) | (simp; done) | omega | (simp; decide)))))))
      exact ⟨by omega, ha2⟩
  · obtain rfl : i = l.length := by omega
    rw [List.take_length] at ha
    have g1 : ((l.length : Int) < (l.length : Int)) = False := eq_false (by omega)
    by_cases h40 : l.length ≤ 50
    · have e : fewG l = true := by unfold fewG; rw [ha, decide_eq_true h40]; rfl
      have g2 : ((l.length : Int) ≤ 50) = True := eq_true (by omega)
      rw [e]
      (try simp (maxSteps := 9999999) (disch := omega) only [go_sem])
      (repeat' (first | refine AWpA.seq ?_ | refine AWpA.block ?_ | (with_reducible refine CondP.tt ?_) | (with_reducible refine CondP.ff ?_) | refine AWpA.condv (by simp (maxSteps := 9999999) (disch := omega) only [go_sem, hr, g1, g2]; rfl) ?_ | ((first | (apply AWpA.region; (focus (simp (maxSteps := 9999999) (disch := omega) only [go_sem, hr, g1, g2]; rfl))) | (apply AWpA.draw [] [] follows; (focus (first | rfl | decide)); (focus (simp (maxSteps := 9999999) (disch := omega) only [go_sem, hr, g1, g2]; rfl)); (focus (simp (maxSteps := 9999999) (disch := omega) only [go_sem, hr, g1, g2]; first | done | trivial)); (focus (simp (maxSteps := 9999999) (disch := omega) only [go_sem, hr, g1, g2]; rfl))) | (apply TailK.go; (focus (simp (maxSteps := 9999999) (disch := omega) only [go_sem, hr, g1, g2]; rfl))) | refine AWpA.skip ?_ | refine AWpA.exit ?_ | refine AWpA.ret ?_ | (with_reducible refine ARoundsA.succ ?_) | ((first | refine Runs.kt (by assumption) (fun h9 => ?_) | refine Runs.kf (by assumption) (fun h9 => ?_) | refine Runs.nt (by assumption) (fun h9 => ?_) | refine Runs.nf (by assumption) (fun h9 => ?_) | refine CondP.ht (by assumption) (fun h9 => ?_) | refine CondP.hf (by assumption) (fun h9 => ?_) | refine CondP.nt (by assumption) (fun h9 => ?_) | refine CondP.nf (by assumption) (fun h9 => ?_)); (try simp only [h9]); clear h9)); (try simp (maxSteps := 9999999) (disch := omega) only [go_sem, hr, g1, g2]); (try (refine And.intro ?_ ?_; (focus (first | omega | (simp only [go_sem]; done) | (simp; done) | (simp; omega) | assumption))))) | ((first | refine CondP.split (fun hif => ?_) (fun hif => ?_) | refine Runs.part (fun hif => ?_) (fun hif => ?_)) <;> ((try simp only [hif]); (try simp only [decide_eq_true_eq, decide_eq_false_iff_not, Bool.not_eq_true, Bool.not_eq_false, Bool.not_eq_true', Bool.not_eq_false', beq_iff_eq, bne_iff_ne, bne_eq_false_iff_eq, beq_eq_false_iff_ne, ne_eq, Bool.and_eq_true, Bool.or_eq_true, Bool.or_eq_false_iff] at hif); (try (have h9 : _ = true := hif; simp only [h9])); (try (have h9 : _ = false := hif; simp only [h9])); (try simp (maxSteps := 9999999) (disch := omega) only [go_sem, hr, g1, g2]); (try (refine And.intro ?_ ?_; (focus (first | omega | (simp only [go_sem]; done) | (simp; done) | (simp; omega) | assumption)))); (try (exfalso; omega; done))))))
      (apply Ret.det [0]; (focus (first | exact .inl rfl | exact .inr rfl)); (focus (simp (maxSteps := 9999999) (disch := omega) only [go_sem, hr]; rfl)); (simp (maxSteps := 9999999) (disch := omega) only [go_sem, hr]; (try (repeat' (first | done | trivial | rfl | exact leAs_rfl _ | decide | (refine And.intro ?_ ?_) | (simp; done) | omega | (simp; decide))))))
    · have e : fewG l = false := by unfold fewG; rw [ha, decide_eq_false h40]; rfl
      have g2 : ((l.length : Int) ≤ 50) = False := eq_false (by omega)
      rw [e]
      (try simp (maxSteps := 9999999) (disch := omega) only [go_sem])
      (repeat' (first | refine AWpA.seq ?_ | refine AWpA.block ?_ | (with_reducible refine CondP.tt ?_) | (with_reducible refine CondP.ff ?_) | refine AWpA.condv (by simp (maxSteps := 9999999) (disch := omega) only [go_sem, hr, g1, g2]; rfl) ?_ | ((first | (apply AWpA.region; (focus (simp (maxSteps := 9999999) (disch := omega) only [go_sem, hr, g1, g2]; rfl))) | (apply AWpA.draw [] [] follows; (focus (first | rfl | decide)); (focus (simp (maxSteps := 9999999) (disch := omega) only [go_sem, hr, g1, g2]; rfl)); (focus (simp (maxSteps := 9999999) (disch := omega) only [go_sem, hr, g1, g2]; first | done | trivial)); (focus (simp (maxSteps := 9999999) (disch := omega) only [go_sem, hr, g1, g2]; rfl))) | (apply TailK.go; (focus (simp (maxSteps := 9999999) (disch := omega) only [go_sem, hr, g1, g2]; rfl))) | refine AWpA.skip ?_ | refine AWpA.exit ?_ | refine AWpA.ret ?_ | (with_reducible refine ARoundsA.succ ?_) | ((first | refine Runs.kt (by assumption) (fun h9 => ?_) | refine Runs.kf (by assumption) (fun h9 => ?_) | refine Runs.nt (by assumption) (fun h9 => ?_) | refine Runs.nf (by assumption) (fun h9 => ?_) | refine CondP.ht (by assumption) (fun h9 => ?_) | refine CondP.hf (by assumption) (fun h9 => ?_) | refine CondP.nt (by assumption) (fun h9 => ?_) | refine CondP.nf (by assumption) (fun h9 => ?_)); (try simp only [h9]); clear h9)); (try simp (maxSteps := 9999999) (disch := omega) only [go_sem, hr, g1, g2]); (try (refine And.intro ?_ ?_; (focus (first | omega | (simp only [go_sem]; done) | (simp; done) | (simp; omega) | assumption))))) | ((first | refine CondP.split (fun hif => ?_) (fun hif => ?_) | refine Runs.part (fun hif => ?_) (fun hif => ?_)) <;> ((try simp only [hif]); (try simp only [decide_eq_true_eq, decide_eq_false_iff_not, Bool.not_eq_true, Bool.not_eq_false, Bool.not_eq_true', Bool.not_eq_false', beq_iff_eq, bne_iff_ne, bne_eq_false_iff_eq, beq_eq_false_iff_ne, ne_eq, Bool.and_eq_true, Bool.or_eq_true, Bool.or_eq_false_iff] at hif); (try (have h9 : _ = true := hif; simp only [h9])); (try (have h9 : _ = false := hif; simp only [h9])); (try simp (maxSteps := 9999999) (disch := omega) only [go_sem, hr, g1, g2]); (try (refine And.intro ?_ ?_; (focus (first | omega | (simp only [go_sem]; done) | (simp; done) | (simp; omega) | assumption)))); (try (exfalso; omega; done))))))
      (apply Ret.det [0]; (focus (first | exact .inl rfl | exact .inr rfl)); (focus (simp (maxSteps := 9999999) (disch := omega) only [go_sem, hr]; rfl)); (simp (maxSteps := 9999999) (disch := omega) only [go_sem, hr]; (try (repeat' (first | done | trivial | rfl | exact leAs_rfl _ | decide | (refine And.intro ?_ ?_) | (simp; done) | omega | (simp; decide))))))
def gs0 : En := ⟨⟨#[107]⟩, ⟨#[]⟩, true, ⟨3, 0⟩, ⟨3, 0⟩, 2, 0⟩
def gs1 : En := ⟨⟨#[107]⟩, ⟨#[]⟩, true, ⟨3, 0⟩, ⟨3, 0⟩, 2, 1⟩
theorem gs_b : buryB 1 2 [] gs0 = true := by decide +kernel
theorem gs_l : buryL 1 2 [] gs0 = [⟨⟨#[107]⟩, gs0⟩] := by unfold buryL; rw [if_pos gs_b]; rfl
theorem gs_t1 : tickL 2 [⟨⟨#[107]⟩, gs0⟩] = [⟨⟨#[107]⟩, gs1⟩] := rfl
theorem gs_g1 : goneL 2 [⟨⟨#[107]⟩, gs0⟩] = [] := rfl
theorem gs_t2 : tickL 2 [⟨⟨#[107]⟩, gs1⟩] = [] := rfl
theorem gs_g2 : goneL 2 [⟨⟨#[107]⟩, gs1⟩] = [⟨#[107]⟩] := rfl
theorem gs_ok (v : En) (h : v.key = ⟨#[107]⟩) (h1 : 0 ≤ v.age ∧ v.age ≤ 2147483647) : GOk [⟨⟨#[107]⟩, v⟩] := ⟨List.pairwise_singleton _ _, fun p hp => by rw [List.mem_singleton] at hp; rw [hp]; exact h, fun p hp => by rw [List.mem_singleton] at hp; rw [hp]; exact h1⟩
theorem speaks11_any : ACall Try.prog 30 [] [] (Det (Bo true) []) := by
  have c1 := gnew_any 1 2 (by decide) (by decide)
  have c2 := bury_any 1 2 ⟨4096, []⟩ gs0 ⟨List.Pairwise.nil, by decide⟩ (by decide) (fun h => absurd h (by decide))
  have c3 := Ue.tlen_any ⟨4096, [⟨⟨#[107]⟩, gs0⟩]⟩
  have c4 := tick_any 1 2 4096 [⟨⟨#[107]⟩, gs0⟩] (gs_ok _ rfl (by decide)) (by decide)
  have c5 := tick_any 1 2 4096 [⟨⟨#[107]⟩, gs1⟩] (gs_ok _ rfl (by decide)) (by decide)
  have c6 := Ue.tlen_any ⟨4096, []⟩
  simp only [gs_b, gs_l, gs_t1, gs_g1, gs_t2, gs_g2] at c1 c2 c3 c4 c5 c6
  have hr := Ue.rp_ren 0
  have hk := rk_ren
  have hbe : ∀ x : ByteArray, (x == x) = true := fun x => (_root_.Go.MapKept.bytes_beq _ _).2 rfl
  simp only [gs0, gs1] at c2 c3 c4 c5
  refine ACall.startA c30_ok Try.func30 rfl Try.ntmps30 (by kernel_rfl) res30_ok rfl rfl rfl ?_; simp (maxSteps := 9999999) (disch := omega) only [go_sem]
  refine AWpA.dummy ?_
  (repeat' (first | refine AWpA.seq ?_ | refine AWpA.block ?_ | (with_reducible refine CondP.tt ?_) | (with_reducible refine CondP.ff ?_) | refine AWpA.condv (by simp (maxSteps := 9999999) (disch := omega) only [go_sem, hbe, hr, hk, Ue.rp_nil, rk_nil, rk_one]; rfl) ?_ | ((first | (apply AWpA.region; (focus (simp (maxSteps := 9999999) (disch := omega) only [go_sem, hbe, hr, hk, Ue.rp_nil, rk_nil, rk_one]; rfl))) | (apply AWpA.draw [0] [] follows; (focus (first | rfl | decide)); (focus (simp (maxSteps := 9999999) (disch := omega) only [go_sem, hbe, hr, hk, Ue.rp_nil, rk_nil, rk_one]; rfl)); (focus (simp (maxSteps := 9999999) (disch := omega) only [go_sem, hbe, hr, hk, Ue.rp_nil, rk_nil, rk_one]; first | done | trivial)); (focus (simp (maxSteps := 9999999) (disch := omega) only [go_sem, hbe, hr, hk, Ue.rp_nil, rk_nil, rk_one]; rfl))) | (apply TailK.go; (focus (simp (maxSteps := 9999999) (disch := omega) only [go_sem, hbe, hr, hk, Ue.rp_nil, rk_nil, rk_one]; rfl))) | refine AWpA.skip ?_ | refine AWpA.exit ?_ | refine AWpA.ret ?_ | (with_reducible refine ARoundsA.succ ?_) | ((first | refine Runs.kt (by assumption) (fun h9 => ?_) | refine Runs.kf (by assumption) (fun h9 => ?_) | refine Runs.nt (by assumption) (fun h9 => ?_) | refine Runs.nf (by assumption) (fun h9 => ?_) | refine CondP.ht (by assumption) (fun h9 => ?_) | refine CondP.hf (by assumption) (fun h9 => ?_) | refine CondP.nt (by assumption) (fun h9 => ?_) | refine CondP.nf (by assumption) (fun h9 => ?_)); (try simp only [h9]); clear h9) | ((first | (with_reducible apply CallG.plain1 [] (c1)) | (with_reducible apply CallG.draw1 [] (c1))); (focus ((try refine And.intro (leAs_of_eq rfl) ?_); (try refine And.intro (leOL_of_eq rfl) ?_); simp (maxSteps := 9999999) (disch := omega) only [go_sem, hbe, hr, hk, Ue.rp_nil, rk_nil, rk_one]; first | done | (repeat' (first | rfl | (refine And.intro ?_ ?_))))); (focus (simp (maxSteps := 9999999) (disch := omega) only [go_sem, hbe, hr, hk, Ue.rp_nil, rk_nil, rk_one]; rfl))) | ((first | (with_reducible apply CallG.plain1 [17, 18, 0] (c2)) | (with_reducible apply CallG.draw1 [17, 18, 0] (c2))); (focus ((try refine And.intro (leAs_of_eq rfl) ?_); (try refine And.intro (leOL_of_eq rfl) ?_); simp (maxSteps := 9999999) (disch := omega) only [go_sem, hbe, hr, hk, Ue.rp_nil, rk_nil, rk_one]; first | done | (repeat' (first | rfl | (refine And.intro ?_ ?_))))); (focus (simp (maxSteps := 9999999) (disch := omega) only [go_sem, hbe, hr, hk, Ue.rp_nil, rk_nil, rk_one]; rfl))) | ((first | (with_reducible apply CallG.plain1 [18, 321] (c3)) | (with_reducible apply CallG.draw1 [18, 321] (c3))); (focus ((try refine And.intro (leAs_of_eq rfl) ?_); (try refine And.intro (leOL_of_eq rfl) ?_); simp (maxSteps := 9999999) (disch := omega) only [go_sem, hbe, hr, hk, Ue.rp_nil, rk_nil, rk_one]; first | done | (repeat' (first | rfl | (refine And.intro ?_ ?_))))); (focus (simp (maxSteps := 9999999) (disch := omega) only [go_sem, hbe, hr, hk, Ue.rp_nil, rk_nil, rk_one]; rfl))) | ((first | (with_reducible apply CallG.plain1 [17, 18, 321] (c4)) | (with_reducible apply CallG.draw1 [17, 18, 321] (c4))); (focus ((try refine And.intro (leAs_of_eq rfl) ?_); (try refine And.intro (leOL_of_eq rfl) ?_); simp (maxSteps := 9999999) (disch := omega) only [go_sem, hbe, hr, hk, Ue.rp_nil, rk_nil, rk_one]; first | done | (repeat' (first | rfl | (refine And.intro ?_ ?_))))); (focus (simp (maxSteps := 9999999) (disch := omega) only [go_sem, hbe, hr, hk, Ue.rp_nil, rk_nil, rk_one]; rfl))) | ((first | (with_reducible apply CallG.plain1 [17, 18, 497] (c5)) | (with_reducible apply CallG.draw1 [17, 18, 497] (c5))); (focus ((try refine And.intro (leAs_of_eq rfl) ?_); (try refine And.intro (leOL_of_eq rfl) ?_); simp (maxSteps := 9999999) (disch := omega) only [go_sem, hbe, hr, hk, Ue.rp_nil, rk_nil, rk_one]; first | done | (repeat' (first | rfl | (refine And.intro ?_ ?_))))); (focus (simp (maxSteps := 9999999) (disch := omega) only [go_sem, hbe, hr, hk, Ue.rp_nil, rk_nil, rk_one]; rfl))) | ((first | (with_reducible apply CallG.plain1 [18, 545] (c6)) | (with_reducible apply CallG.draw1 [18, 545] (c6))); (focus ((try refine And.intro (leAs_of_eq rfl) ?_); (try refine And.intro (leOL_of_eq rfl) ?_); simp (maxSteps := 9999999) (disch := omega) only [go_sem, hbe, hr, hk, Ue.rp_nil, rk_nil, rk_one]; first | done | (repeat' (first | rfl | (refine And.intro ?_ ?_))))); (focus (simp (maxSteps := 9999999) (disch := omega) only [go_sem, hbe, hr, hk, Ue.rp_nil, rk_nil, rk_one]; rfl)))); (try simp (maxSteps := 9999999) (disch := omega) only [go_sem, hbe, hr, hk, Ue.rp_nil, rk_nil, rk_one]); (try (refine And.intro ?_ ?_; (focus (first | omega | (simp only [go_sem]; done) | (simp; done) | (simp; omega) | assumption))))) | ((first | refine CondP.split (fun hif => ?_) (fun hif => ?_) | refine Runs.part (fun hif => ?_) (fun hif => ?_)) <;> ((try simp only [hif]); (try simp only [decide_eq_true_eq, decide_eq_false_iff_not, Bool.not_eq_true, Bool.not_eq_false, Bool.not_eq_true', Bool.not_eq_false', beq_iff_eq, bne_iff_ne, bne_eq_false_iff_eq, beq_eq_false_iff_ne, ne_eq, Bool.and_eq_true, Bool.or_eq_true, Bool.or_eq_false_iff] at hif); (try (have h9 : _ = true := hif; simp only [h9])); (try (have h9 : _ = false := hif; simp only [h9])); (try simp (maxSteps := 9999999) (disch := omega) only [go_sem, hbe, hr, hk, Ue.rp_nil, rk_nil, rk_one]); (try (refine And.intro ?_ ?_; (focus (first | omega | (simp only [go_sem]; done) | (simp; done) | (simp; omega) | assumption)))); (try (exfalso; omega; done))))))
  (apply Ret.det []; (focus (first | exact .inl rfl | exact .inr rfl)); (focus (simp (maxSteps := 9999999) (disch := omega) only [go_sem]; rfl)); (simp (maxSteps := 9999999) (disch := omega) only [go_sem]; (try (repeat' (first | done | trivial | rfl | exact leAs_rfl _ | decide | (refine And.intro ?_ ?_) | (simp; done) | omega | (simp; decide))))))
end Go.Proofs.Ytgjimlgofakbpaa
