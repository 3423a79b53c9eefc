/- Contract: is a message no longer than is looked at? -/
import Derived.Test.YtopidfkmligljaaGreatWt3
namespace Go.Proofs.YtopidfkmligljaaGreat
noncomputable section
set_option linter.unusedSimpArgs false
set_option linter.unusedVariables false
set_option maxHeartbeats 4000000
open Go Go.Am Go.RowKit
set_option maxRecDepth 100000
set_option maxHeartbeats 8000000
/- quidnunc/quidnunclaw16.Few -/
def c14_1 : ACode := .region false [⟨some 1, .box 0, [.t 0], none⟩,
  ⟨some 2, .move, [.c (.val (.bool false))], none⟩] [] [] [1] true [] []
def c14_4 : ACode := .region false [⟨some 7, .addr 4, [.t 1], none⟩,
  ⟨some 8, .load false 1, [.t 7], none⟩,
  ⟨some 9, .len, [.t 8], none⟩,
  ⟨some 10, .bin .gtr, [.t 9, .c (.val (.int .i64 20))], none⟩,
  ⟨some 11, .move, [.t 10], none⟩,
  ⟨some 12, .addr 10, [.t 1], some (some 11, false)⟩,
  ⟨some 13, .load false 1, [.t 12], some (some 11, false)⟩,
  ⟨some 14, .len, [.t 13], some (some 11, false)⟩,
  ⟨some 15, .bin .gtr, [.t 14, .c (.val (.int .i64 20))], some (some 11, false)⟩,
  ⟨some 16, .pick, [.t 11, .c (.val (.bool true)), .t 15], none⟩,
  ⟨some 17, .move, [.t 16], none⟩,
  ⟨some 18, .addr 11, [.t 1], some (some 17, false)⟩,
  ⟨some 19, .load false 1, [.t 18], some (some 17, false)⟩,
  ⟨some 20, .len, [.t 19], some (some 17, false)⟩,
  ⟨some 21, .bin .gtr, [.t 20, .c (.val (.int .i64 20))], some (some 17, false)⟩,
  ⟨some 22, .pick, [.t 17, .c (.val (.bool true)), .t 21], none⟩,
  ⟨some 23, .move, [.t 22], none⟩,
  ⟨some 24, .addr 7, [.t 1], some (some 23, false)⟩,
  ⟨some 25, .addr 2, [.t 24], some (some 23, false)⟩,
  ⟨some 26, .load false 1, [.t 25], some (some 23, false)⟩,
  ⟨some 27, .lenStr, [.t 26], some (some 23, false)⟩,
  ⟨some 28, .bin .gtr, [.t 27, .c (.val (.int .i64 300))], some (some 23, false)⟩,
  ⟨some 29, .pick, [.t 23, .c (.val (.bool true)), .t 28], none⟩] [] [] [1, 29] false [] []
def c14_7 : ACode := .region false [⟨some 2, .move, [.c (.val (.bool false))], none⟩] [] [] [2] false [] []
def c14_6 : ACode := .seq c14_7 .ret
def c14_5 : ACode := .cond (.t 29) c14_6 .skip
def c14_3 : ACode := .seq c14_4 c14_5
def c14_10 : ACode := .region false [⟨some 30, .addr 10, [.t 1], none⟩,
  ⟨some 31, .load false 1, [.t 30], none⟩,
  ⟨some 32, .len, [.t 31], none⟩,
  ⟨some 33, .move, [.c (.val (.int .i64 0))], none⟩] [] [] [1, 31, 32, 33] false [] []
def c14_14 : ACode := .region false [⟨some 34, .bin .lss, [.t 33, .t 32], none⟩] [] [] [1, 31, 32, 33, 34] false [] []
def c14_16 : ACode := .cond (.t 34) .skip (.exit 0)
def c14_20 : ACode := .region false [⟨some 35, .ixS 3, [.t 31, .t 33], none⟩,
  ⟨some 36, .load true 3, [.t 35], none⟩,
  ⟨some 4, .alloc [(.int .i64 0), (.int .i64 0), (.string ⟨#[]⟩)], [], none⟩,
  ⟨none, .store 3, [.t 4, .t 36], none⟩] [] [] [1, 4, 31, 32, 33] true [] []
def c14_22 : ACode := .region false [⟨some 37, .addr 2, [.t 4], none⟩,
  ⟨some 38, .load false 1, [.t 37], none⟩,
  ⟨some 39, .lenStr, [.t 38], none⟩,
  ⟨some 40, .bin .gtr, [.t 39, .c (.val (.int .i64 300))], none⟩] [] [] [1, 31, 32, 33, 40] false [] []
def c14_25 : ACode := .region false [⟨some 2, .move, [.c (.val (.bool false))], none⟩] [] [] [2] false [] []
def c14_24 : ACode := .seq c14_25 .ret
def c14_23 : ACode := .cond (.t 40) c14_24 .skip
def c14_21 : ACode := .seq c14_22 c14_23
def c14_19 : ACode := .seq c14_20 c14_21
def c14_18 : ACode := .block 1 c14_19
def c14_26 : ACode := .region false [⟨some 41, .bin .add, [.t 33, .c (.val (.int .i64 1))], none⟩,
  ⟨some 33, .move, [.t 41], none⟩] [] [] [1, 31, 32, 33] false [] []
def c14_17 : ACode := .seq c14_18 c14_26
def c14_15 : ACode := .seq c14_16 c14_17
def c14_13 : ACode := .seq c14_14 c14_15
def c14_12 : ACode := .loop c14_13
def c14_11 : ACode := .block 0 c14_12
def c14_9 : ACode := .seq c14_10 c14_11
def c14_29 : ACode := .region false [⟨some 42, .addr 11, [.t 1], none⟩,
  ⟨some 43, .load false 1, [.t 42], none⟩,
  ⟨some 44, .len, [.t 43], none⟩,
  ⟨some 45, .move, [.c (.val (.int .i64 0))], none⟩] [] [] [43, 44, 45] false [] []
def c14_33 : ACode := .region false [⟨some 46, .bin .lss, [.t 45, .t 44], none⟩] [] [] [43, 44, 45, 46] false [] []
def c14_35 : ACode := .cond (.t 46) .skip (.exit 2)
def c14_39 : ACode := .region false [⟨some 47, .ixS 9, [.t 43, .t 45], none⟩,
  ⟨some 48, .load true 9, [.t 47], none⟩,
  ⟨some 6, .alloc [(.string ⟨#[]⟩), (.string ⟨#[]⟩), (.bool false), (.int .i64 0), (.int .i64 0), (.int .i64 0), (.int .i64 0), (.int .i64 0), (.int .i64 0)], [], none⟩,
  ⟨none, .store 9, [.t 6, .t 48], none⟩] [] [] [6, 43, 44, 45] true [] []
def c14_41 : ACode := .region false [⟨some 49, .load true 9, [.t 6], none⟩,
  ⟨some 50, .call 42, [.t 49], none⟩,
  ⟨some 51, .un .not, [.t 50], none⟩] [] [] [43, 44, 45, 51] true [] []
def c14_44 : ACode := .region false [⟨some 2, .move, [.c (.val (.bool false))], none⟩] [] [] [2] false [] []
def c14_43 : ACode := .seq c14_44 .ret
def c14_42 : ACode := .cond (.t 51) c14_43 .skip
def c14_40 : ACode := .seq c14_41 c14_42
def c14_38 : ACode := .seq c14_39 c14_40
def c14_37 : ACode := .block 3 c14_38
def c14_45 : ACode := .region false [⟨some 52, .bin .add, [.t 45, .c (.val (.int .i64 1))], none⟩,
  ⟨some 45, .move, [.t 52], none⟩] [] [] [43, 44, 45] false [] []
def c14_36 : ACode := .seq c14_37 c14_45
def c14_34 : ACode := .seq c14_35 c14_36
def c14_32 : ACode := .seq c14_33 c14_34
def c14_31 : ACode := .loop c14_32
def c14_30 : ACode := .block 2 c14_31
def c14_28 : ACode := .seq c14_29 c14_30
def c14_47 : ACode := .region false [⟨some 2, .move, [.c (.val (.bool true))], none⟩] [] [] [2] false [] []
def c14_46 : ACode := .seq c14_47 .ret
def c14_27 : ACode := .seq c14_28 c14_46
def c14_8 : ACode := .seq c14_9 c14_27
def c14_2 : ACode := .seq c14_3 c14_8
def c14_0 : ACode := .seq c14_1 c14_2
def code14 : Code := (Tryz.f14.body).getD .skip
theorem c14_ok : compC Tryz.prog 53 code14 = some (strip c14_0) := by kernel_rfl
theorem res14_ok : Tryz.f14.results.toList.mapM (resC Tryz.prog) = some [(2, none)] := by kernel_rfl
def keyB (x : Mk) : Bool := !decide (300 < (x.key.size : Int))
def fewC (m : Wm) : Bool := !decide ((20 : Int) < (m.peers.length : Int)) && (!decide ((20 : Int) < (m.marks.length : Int)) && (!decide ((20 : Int) < (m.ents.length : Int)) && keyB m.mark))
def fewB (m : Wm) : Bool := fewC m && (m.marks.all keyB && m.ents.all shortB)
theorem fewB_len {m : Wm} (h : fewB m = true) : m.peers.length ≤ 20 ∧ m.marks.length ≤ 20 ∧ m.ents.length ≤ 20 := by
  simp only [fewB, fewC, Bool.and_eq_true, Bool.not_eq_true', decide_eq_false_iff_not] at h
  omega
theorem few16_any (m : Wm) (a b c : Nat) (hl : m.peers.length ≤ 9223372036854775807 ∧ m.marks.length ≤ 9223372036854775807 ∧ m.ents.length ≤ 9223372036854775807) : ACall Tryz.prog 14 [WmA m 0 a 1 b 2 c] [.cells true (Ri a m.peers), .cells true (Rm b m.marks), .cells true (Re c m.ents)] (Det (Bo (fewB m)) [.cells true (Ri a m.peers), .cells true (Rm b m.marks), .cells true (Re c m.ents)]) := by
  have hi := ri_ren
  have hm := rm_ren
  have he := re_ren
  have hLm := rm_len b m.marks
  have hLe := re_len c m.ents
  unfold fewB
  cases hf : fewC m with
  | false =>
    rw [Bool.false_and]
    unfold fewC keyB at hf
    refine ACall.startA c14_ok Tryz.func14 rfl Tryz.ntmps14 (by kernel_rfl) res14_ok rfl rfl rfl ?_; simp (maxSteps := 9999999) (disch := omega) only [go_sem]
    (have k9 := And.intro @hi (And.intro @hm (And.intro @he (k0))); (repeat' (first | refine AWpA.seq ?_ | refine AWpA.block ?_ | (with_reducible refine CondP.tt ?_) | (with_reducible refine CondP.ff ?_) | refine AWpA.cg ?_ | ((first | refine AWpA.rg ?_ | refine AWpA.dg [] [] follows ?_ | refine TailK.tg ?_ | refine AWpA.skip ?_ | refine AWpA.exit ?_ | refine AWpA.ret ?_ | (with_reducible refine ARoundsA.succ ?_) | ((first | refine Runs.gkt (fun h9 => ?_) | refine Runs.gkf (fun h9 => ?_) | refine Runs.gnt (fun h9 => ?_) | refine Runs.gnf (fun h9 => ?_) | refine CondP.gt (fun h9 => ?_) | refine CondP.gf (fun h9 => ?_) | refine CondP.gnt (fun h9 => ?_) | refine CondP.gnf (fun h9 => ?_)); (try simp only [h9]); clear h9)); (try simp (maxSteps := 9999999) (disch := omega) only [go_sem, k9]); (try refine cnd ?_)) | ((first | refine CondP.split (fun hif => ?_) (fun hif => ?_) | refine Runs.part (fun hif => ?_) (fun hif => ?_)) <;> ((try simp only [hif]); (try simp only [BL] at hif); (try (have h9 : _ = true := hif; simp only [h9])); (try (have h9 : _ = false := hif; simp only [h9])); (try simp (maxSteps := 9999999) (disch := omega) only [go_sem, k9]); (try refine cnd ?_); (try (exfalso; omega; done)))))); (all_goals (try clear k9)))
    all_goals (first | (exfalso; simp_all; done) | ((apply Ret.det [0, 1, 2]; (focus (first | exact .inl rfl | exact .inr rfl)); (focus (simp (maxSteps := 9999999) (disch := omega) only [go_sem, hi, hm, he]; rfl)); (simp (maxSteps := 9999999) (disch := omega) only [go_sem, hi, hm, he]; (try (repeat' (first | done | trivial | rfl | exact leAs_rfl _ | decide | (refine And.intro ?_ ?_) | (simp; done) | omega | (simp; decide)))))); done))
  | true =>
    rw [Bool.true_and]
    unfold fewC keyB at hf
    simp only [Bool.and_eq_true, Bool.not_eq_true', decide_eq_false_iff_not] at hf
    obtain ⟨h1, h2, h3, h4⟩ := hf
    have k1 : ((20 : Int) < (m.peers.length : Int)) = False := eq_false h1
    have k2 : ((20 : Int) < (m.marks.length : Int)) = False := eq_false h2
    have k3 : ((20 : Int) < (m.ents.length : Int)) = False := eq_false h3
    have k4 : ((300 : Int) < (m.mark.key.size : Int)) = False := eq_false h4
    refine ACall.startA c14_ok Tryz.func14 rfl Tryz.ntmps14 (by kernel_rfl) res14_ok rfl rfl rfl ?_; simp (maxSteps := 9999999) (disch := omega) only [go_sem]
    (have k9 := And.intro @hi (And.intro @hm (And.intro @he (And.intro @k1 (And.intro @k2 (And.intro @k3 (And.intro @k4 (k0))))))); (repeat' (first | refine AWpA.seq ?_ | refine AWpA.block ?_ | (with_reducible refine CondP.tt ?_) | (with_reducible refine CondP.ff ?_) | refine AWpA.cg ?_ | ((first | refine AWpA.rg ?_ | refine AWpA.dg [] [] follows ?_ | refine TailK.tg ?_ | refine AWpA.skip ?_ | refine AWpA.exit ?_ | refine AWpA.ret ?_ | (with_reducible refine ARoundsA.succ ?_) | ((first | refine Runs.gkt (fun h9 => ?_) | refine Runs.gkf (fun h9 => ?_) | refine Runs.gnt (fun h9 => ?_) | refine Runs.gnf (fun h9 => ?_) | refine CondP.gt (fun h9 => ?_) | refine CondP.gf (fun h9 => ?_) | refine CondP.gnt (fun h9 => ?_) | refine CondP.gnf (fun h9 => ?_)); (try simp only [h9]); clear h9)); (try simp (maxSteps := 9999999) (disch := omega) only [go_sem, k9]); (try refine cnd ?_)) | ((first | refine CondP.split (fun hif => ?_) (fun hif => ?_) | refine Runs.part (fun hif => ?_) (fun hif => ?_)) <;> ((try simp only [hif]); (try simp only [BL] at hif); (try (have h9 : _ = true := hif; simp only [h9])); (try (have h9 : _ = false := hif; simp only [h9])); (try simp (maxSteps := 9999999) (disch := omega) only [go_sem, k9]); (try refine cnd ?_); (try (exfalso; omega; done)))))); (all_goals (try clear k9)))
    clear k1 k2 k3 k4 h1 h4
    (apply AWpA.loopL (fun i : Nat => [(1, .ptr 3 0), (31, .sl 1 b m.marks.length 3 none), (32, I m.marks.length), (33, I i)]) (fun i => [.cells true (Ri a m.peers), .cells true (Rm b m.marks), .cells true (Re c m.ents), .cells false (WmL m 0 a 1 b 2 c)]) (fun i => m.marks.length - i) (fun i => i ≤ m.marks.length ∧ ∀ q (h : q < m.marks.length), q < i → keyB m.marks[q] = true) (0) [0, 1, 2, 3]; rotate_left; (focus (simp (maxSteps := 9999999) (disch := omega) only [go_sem, hi, hm, he]; (try (repeat' (first | done | trivial | rfl | exact leAs_rfl _ | decide | (refine And.intro ?_ ?_) | (simp; done) | omega | (simp; decide)))))); rotate_right)
    · exact ⟨Nat.zero_le _, fun q h hq => by omega⟩
    rintro i ⟨hil, hq⟩
    (try simp only at hil hq)
    by_cases hin : i < m.marks.length
    · have g1 : ((i : Int) < (m.marks.length : Int)) = True := eq_true (by omega)
      have hat := rm_at b m.marks i hin
      have hno : keyB m.marks[i] = false → (m.marks.all keyB && m.ents.all shortB) = false := fun h => by rw [List.all_eq_false.2 ⟨_, List.getElem_mem hin, by simp [h]⟩, Bool.false_and]
      have hst := all_step (p := keyB) hin hq
      clear hq
      generalize m.marks[i] = x at *
      cases hb : keyB x with
      | false =>
        rw [hno hb]
        clear hno hst
        unfold keyB at hb
        have g2 : ((300 : Int) < (x.key.size : Int)) = True := eq_true (by simpa using hb)
        (try simp (maxSteps := 9999999) (disch := omega) only [go_sem])
        (have k9 := And.intro @hi (And.intro @hm (And.intro @he (And.intro @hLm (And.intro @g1 (And.intro @hat (And.intro @g2 (k0))))))); (repeat' (first | refine AWpA.seq ?_ | refine AWpA.block ?_ | (with_reducible refine CondP.tt ?_) | (with_reducible refine CondP.ff ?_) | refine AWpA.cg ?_ | ((first | refine AWpA.rg ?_ | refine AWpA.dg [] [] follows ?_ | refine TailK.tg ?_ | refine AWpA.skip ?_ | refine AWpA.exit ?_ | refine AWpA.ret ?_ | (with_reducible refine ARoundsA.succ ?_) | ((first | refine Runs.gkt (fun h9 => ?_) | refine Runs.gkf (fun h9 => ?_) | refine Runs.gnt (fun h9 => ?_) | refine Runs.gnf (fun h9 => ?_) | refine CondP.gt (fun h9 => ?_) | refine CondP.gf (fun h9 => ?_) | refine CondP.gnt (fun h9 => ?_) | refine CondP.gnf (fun h9 => ?_)); (try simp only [h9]); clear h9)); (try simp (maxSteps := 9999999) (disch := omega) only [go_sem, k9]); (try refine cnd ?_)) | ((first | refine CondP.split (fun hif => ?_) (fun hif => ?_) | refine Runs.part (fun hif => ?_) (fun hif => ?_)) <;> ((try simp only [hif]); (try simp only [BL] at hif); (try (have h9 : _ = true := hif; simp only [h9])); (try (have h9 : _ = false := hif; simp only [h9])); (try simp (maxSteps := 9999999) (disch := omega) only [go_sem, k9]); (try refine cnd ?_); (try (exfalso; omega; done)))))); (all_goals (try clear k9)))
        (apply Ret.det [0, 1, 2]; (focus (first | exact .inl rfl | exact .inr rfl)); (focus (simp (maxSteps := 9999999) (disch := omega) only [go_sem, hi, hm, he]; rfl)); (simp (maxSteps := 9999999) (disch := omega) only [go_sem, hi, hm, he]; (try (repeat' (first | done | trivial | rfl | exact leAs_rfl _ | decide | (refine And.intro ?_ ?_) | (simp; done) | omega | (simp; decide))))))
      | true =>
        have hst := hst hb
        clear hno
        unfold keyB at hb
        have g2 : ((300 : Int) < (x.key.size : Int)) = False := eq_false (by simpa using hb)
        (try simp (maxSteps := 9999999) (disch := omega) only [go_sem])
        (have k9 := And.intro @hi (And.intro @hm (And.intro @he (And.intro @hLm (And.intro @g1 (And.intro @hat (And.intro @g2 (k0))))))); (repeat' (first | refine AWpA.seq ?_ | refine AWpA.block ?_ | (with_reducible refine CondP.tt ?_) | (with_reducible refine CondP.ff ?_) | refine AWpA.cg ?_ | ((first | refine AWpA.rg ?_ | refine AWpA.dg [] [] follows ?_ | refine TailK.tg ?_ | refine AWpA.skip ?_ | refine AWpA.exit ?_ | refine AWpA.ret ?_ | (with_reducible refine ARoundsA.succ ?_) | ((first | refine Runs.gkt (fun h9 => ?_) | refine Runs.gkf (fun h9 => ?_) | refine Runs.gnt (fun h9 => ?_) | refine Runs.gnf (fun h9 => ?_) | refine CondP.gt (fun h9 => ?_) | refine CondP.gf (fun h9 => ?_) | refine CondP.gnt (fun h9 => ?_) | refine CondP.gnf (fun h9 => ?_)); (try simp only [h9]); clear h9)); (try simp (maxSteps := 9999999) (disch := omega) only [go_sem, k9]); (try refine cnd ?_)) | ((first | refine CondP.split (fun hif => ?_) (fun hif => ?_) | refine Runs.part (fun hif => ?_) (fun hif => ?_)) <;> ((try simp only [hif]); (try simp only [BL] at hif); (try (have h9 : _ = true := hif; simp only [h9])); (try (have h9 : _ = false := hif; simp only [h9])); (try simp (maxSteps := 9999999) (disch := omega) only [go_sem, k9]); (try refine cnd ?_); (try (exfalso; omega; done)))))); (all_goals (try clear k9)))
        (apply Back.to (i + 1) [0, 1, 2, 3]; (focus ((try simp (maxSteps := 9999999) (disch := omega) only [go_sem, hi, hm, he]); first | done | omega)); rotate_left; (focus (simp (maxSteps := 9999999) (disch := omega) only [go_sem, hi, hm, he]; (try (repeat' (first | done | trivial | rfl | exact leAs_rfl _ | decide | (refine And.intro ?_ ?_) | (simp; done) | omega | (simp; decide)))))))
        exact ⟨by omega, hst⟩
    obtain rfl : i = m.marks.length := by omega
    have g1 : ((m.marks.length : Int) < (m.marks.length : Int)) = False := eq_false (by omega)
    have hA2 : m.marks.all keyB = true := all_done hq
    rw [hA2, Bool.true_and]
    clear hq
    (try simp (maxSteps := 9999999) (disch := omega) only [go_sem])
    (have k9 := And.intro @hi (And.intro @hm (And.intro @he (And.intro @g1 (k0)))); (repeat' (first | refine AWpA.seq ?_ | refine AWpA.block ?_ | (with_reducible refine CondP.tt ?_) | (with_reducible refine CondP.ff ?_) | refine AWpA.cg ?_ | ((first | refine AWpA.rg ?_ | refine AWpA.dg [] [] follows ?_ | refine TailK.tg ?_ | refine AWpA.skip ?_ | refine AWpA.exit ?_ | refine AWpA.ret ?_ | (with_reducible refine ARoundsA.succ ?_) | ((first | refine Runs.gkt (fun h9 => ?_) | refine Runs.gkf (fun h9 => ?_) | refine Runs.gnt (fun h9 => ?_) | refine Runs.gnf (fun h9 => ?_) | refine CondP.gt (fun h9 => ?_) | refine CondP.gf (fun h9 => ?_) | refine CondP.gnt (fun h9 => ?_) | refine CondP.gnf (fun h9 => ?_)); (try simp only [h9]); clear h9)); (try simp (maxSteps := 9999999) (disch := omega) only [go_sem, k9]); (try refine cnd ?_)) | ((first | refine CondP.split (fun hif => ?_) (fun hif => ?_) | refine Runs.part (fun hif => ?_) (fun hif => ?_)) <;> ((try simp only [hif]); (try simp only [BL] at hif); (try (have h9 : _ = true := hif; simp only [h9])); (try (have h9 : _ = false := hif; simp only [h9])); (try simp (maxSteps := 9999999) (disch := omega) only [go_sem, k9]); (try refine cnd ?_); (try (exfalso; omega; done)))))); (all_goals (try clear k9)))
    (apply AWpA.loopL (fun i : Nat => [(43, .sl 2 c m.ents.length 9 none), (44, I m.ents.length), (45, I i)]) (fun i => [.cells true (Ri a m.peers), .cells true (Rm b m.marks), .cells true (Re c m.ents), .cells false (WmL m 0 a 1 b 2 c)]) (fun i => m.ents.length - i) (fun i => i ≤ m.ents.length ∧ ∀ q (h : q < m.ents.length), q < i → shortB m.ents[q] = true) (0) [0, 1, 2, 3]; rotate_left; (focus (simp (maxSteps := 9999999) (disch := omega) only [go_sem, hi, hm, he]; (try (repeat' (first | done | trivial | rfl | exact leAs_rfl _ | decide | (refine And.intro ?_ ?_) | (simp; done) | omega | (simp; decide)))))); rotate_right)
    · exact ⟨Nat.zero_le _, fun q h hq => by omega⟩
    rintro i ⟨hil, hq⟩
    (try simp only at hil hq)
    by_cases hin : i < m.ents.length
    · have g1 : ((i : Int) < (m.ents.length : Int)) = True := eq_true (by omega)
      have hat := re_at c m.ents i hin
      have c1 := short_any m.ents[i]
      have hno : shortB m.ents[i] = false → m.ents.all shortB = false := fun h => List.all_eq_false.2 ⟨_, List.getElem_mem hin, by simp [h]⟩
      have hst := all_step (p := shortB) hin hq
      clear hq
      generalize m.ents[i] = x at *
      cases hb : shortB x with
      | false =>
        rw [hb] at c1
        rw [hno hb]
        clear hno hst
        (try simp (maxSteps := 9999999) (disch := omega) only [go_sem])
        (have k9 := And.intro @hi (And.intro @hm (And.intro @he (And.intro @hLe (And.intro @g1 (And.intro @hat (k0)))))); (repeat' (first | refine AWpA.seq ?_ | refine AWpA.block ?_ | (with_reducible refine CondP.tt ?_) | (with_reducible refine CondP.ff ?_) | refine AWpA.cg ?_ | ((first | refine AWpA.rg ?_ | refine AWpA.dg [] [] follows ?_ | refine TailK.tg ?_ | refine AWpA.skip ?_ | refine AWpA.exit ?_ | refine AWpA.ret ?_ | (with_reducible refine ARoundsA.succ ?_) | ((first | refine Runs.gkt (fun h9 => ?_) | refine Runs.gkf (fun h9 => ?_) | refine Runs.gnt (fun h9 => ?_) | refine Runs.gnf (fun h9 => ?_) | refine CondP.gt (fun h9 => ?_) | refine CondP.gf (fun h9 => ?_) | refine CondP.gnt (fun h9 => ?_) | refine CondP.gnf (fun h9 => ?_)); (try simp only [h9]); clear h9) | refine CallG.pg [] (c1) ?_ | refine CallG.dg [] (c1) ?_); (try simp (maxSteps := 9999999) (disch := omega) only [go_sem, k9]); (try refine cnd ?_)) | ((first | refine CondP.split (fun hif => ?_) (fun hif => ?_) | refine Runs.part (fun hif => ?_) (fun hif => ?_)) <;> ((try simp only [hif]); (try simp only [BL] at hif); (try (have h9 : _ = true := hif; simp only [h9])); (try (have h9 : _ = false := hif; simp only [h9])); (try simp (maxSteps := 9999999) (disch := omega) only [go_sem, k9]); (try refine cnd ?_); (try (exfalso; omega; done)))))); (all_goals (try clear k9)))
        (apply Ret.det [0, 1, 2]; (focus (first | exact .inl rfl | exact .inr rfl)); (focus (simp (maxSteps := 9999999) (disch := omega) only [go_sem, hi, hm, he]; rfl)); (simp (maxSteps := 9999999) (disch := omega) only [go_sem, hi, hm, he]; (try (repeat' (first | done | trivial | rfl | exact leAs_rfl _ | decide | (refine And.intro ?_ ?_) | (simp; done) | omega | (simp; decide))))))
      | true =>
        rw [hb] at c1
        have hst := hst hb
        clear hno
        (try simp (maxSteps := 9999999) (disch := omega) only [go_sem])
        (have k9 := And.intro @hi (And.intro @hm (And.intro @he (And.intro @hLe (And.intro @g1 (And.intro @hat (k0)))))); (repeat' (first | refine AWpA.seq ?_ | refine AWpA.block ?_ | (with_reducible refine CondP.tt ?_) | (with_reducible refine CondP.ff ?_) | refine AWpA.cg ?_ | ((first | refine AWpA.rg ?_ | refine AWpA.dg [] [] follows ?_ | refine TailK.tg ?_ | refine AWpA.skip ?_ | refine AWpA.exit ?_ | refine AWpA.ret ?_ | (with_reducible refine ARoundsA.succ ?_) | ((first | refine Runs.gkt (fun h9 => ?_) | refine Runs.gkf (fun h9 => ?_) | refine Runs.gnt (fun h9 => ?_) | refine Runs.gnf (fun h9 => ?_) | refine CondP.gt (fun h9 => ?_) | refine CondP.gf (fun h9 => ?_) | refine CondP.gnt (fun h9 => ?_) | refine CondP.gnf (fun h9 => ?_)); (try simp only [h9]); clear h9) | refine CallG.pg [] (c1) ?_ | refine CallG.dg [] (c1) ?_); (try simp (maxSteps := 9999999) (disch := omega) only [go_sem, k9]); (try refine cnd ?_)) | ((first | refine CondP.split (fun hif => ?_) (fun hif => ?_) | refine Runs.part (fun hif => ?_) (fun hif => ?_)) <;> ((try simp only [hif]); (try simp only [BL] at hif); (try (have h9 : _ = true := hif; simp only [h9])); (try (have h9 : _ = false := hif; simp only [h9])); (try simp (maxSteps := 9999999) (disch := omega) only [go_sem, k9]); (try refine cnd ?_); (try (exfalso; omega; done)))))); (all_goals (try clear k9)))
        (apply Back.to (i + 1) [0, 1, 2, 3]; (focus ((try simp (maxSteps := 9999999) (disch := omega) only [go_sem, hi, hm, he]); first | done | omega)); rotate_left; (focus (simp (maxSteps := 9999999) (disch := omega) only [go_sem, hi, hm, he]; (try (repeat' (first | done | trivial | rfl | exact leAs_rfl _ | decide | (refine And.intro ?_ ?_) | (simp; done) | omega | (simp; decide)))))))
        exact ⟨by omega, hst⟩
    obtain rfl : i = m.ents.length := by omega
    have g1 : ((m.ents.length : Int) < (m.ents.length : Int)) = False := eq_false (by omega)
    have hA3 : m.ents.all shortB = true := all_done hq
    rw [hA3]
    clear hq
    (try simp (maxSteps := 9999999) (disch := omega) only [go_sem])
    (have k9 := And.intro @hi (And.intro @hm (And.intro @he (And.intro @g1 (k0)))); (repeat' (first | refine AWpA.seq ?_ | refine AWpA.block ?_ | (with_reducible refine CondP.tt ?_) | (with_reducible refine CondP.ff ?_) | refine AWpA.cg ?_ | ((first | refine AWpA.rg ?_ | refine AWpA.dg [] [] follows ?_ | refine TailK.tg ?_ | refine AWpA.skip ?_ | refine AWpA.exit ?_ | refine AWpA.ret ?_ | (with_reducible refine ARoundsA.succ ?_) | ((first | refine Runs.gkt (fun h9 => ?_) | refine Runs.gkf (fun h9 => ?_) | refine Runs.gnt (fun h9 => ?_) | refine Runs.gnf (fun h9 => ?_) | refine CondP.gt (fun h9 => ?_) | refine CondP.gf (fun h9 => ?_) | refine CondP.gnt (fun h9 => ?_) | refine CondP.gnf (fun h9 => ?_)); (try simp only [h9]); clear h9)); (try simp (maxSteps := 9999999) (disch := omega) only [go_sem, k9]); (try refine cnd ?_)) | ((first | refine CondP.split (fun hif => ?_) (fun hif => ?_) | refine Runs.part (fun hif => ?_) (fun hif => ?_)) <;> ((try simp only [hif]); (try simp only [BL] at hif); (try (have h9 : _ = true := hif; simp only [h9])); (try (have h9 : _ = false := hif; simp only [h9])); (try simp (maxSteps := 9999999) (disch := omega) only [go_sem, k9]); (try refine cnd ?_); (try (exfalso; omega; done)))))); (all_goals (try clear k9)))
    (apply Ret.det [0, 1, 2]; (focus (first | exact .inl rfl | exact .inr rfl)); (focus (simp (maxSteps := 9999999) (disch := omega) only [go_sem, hi, hm, he]; rfl)); (simp (maxSteps := 9999999) (disch := omega) only [go_sem, hi, hm, he]; (try (repeat' (first | done | trivial | rfl | exact leAs_rfl _ | decide | (refine And.intro ?_ ?_) | (simp; done) | omega | (simp; decide))))))
end
end Go.Proofs.YtopidfkmligljaaGreat
