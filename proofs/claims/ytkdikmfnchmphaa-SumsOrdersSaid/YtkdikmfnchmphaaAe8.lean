/- Contracts: the document's bytes of an entry; which is newer, alike; marks. -/
import Derived.Test.YtkdikmfnchmphaaAe7
import Derived.Test.YtkdikmfnchmphaaAo14
namespace Go.Proofs.Ytkdikmfnchmphaa
set_option linter.unusedSimpArgs false
set_option linter.unusedVariables false
set_option maxHeartbeats 4000000
open Go Go.Am
set_option maxRecDepth 100000
/- quidnunc/quidnuncref05.text -/
noncomputable def c97_1 : ACode := .region false [⟨some 2, .move, [.c (.val (.slice none 0 0))], none⟩] [] [] [0] false [] []
noncomputable def c97_3 : ACode := .region false [⟨some 3, .move, [.t 0], none⟩,
  ⟨some 4, .lenStr, [.t 3], none⟩,
  ⟨some 5, .conv .u8, [.t 4], none⟩,
  ⟨some 6, .buildSl 1 1 [(.int .u8 0)] [(0, 1)], [.t 5], none⟩,
  ⟨some 7, .move, [.t 0], none⟩,
  ⟨some 8, .toBytes, [.t 7], none⟩,
  ⟨some 9, .append 1 1 false, [.t 6, .t 8], none⟩,
  ⟨some 2, .move, [.t 9], none⟩] [] [] [2] true [] []
noncomputable def c97_2 : ACode := .seq c97_3 .ret
noncomputable def c97_0 : ACode := .seq c97_1 c97_2
noncomputable def code97 : Code := (Try.f97.body).getD .skip
theorem c97_ok : compC Try.prog 10 code97 = some (strip c97_0) := by kernel_rfl
theorem res97_ok : Try.f97.results.toList.mapM (resC Try.prog) = some [(2, none)] := by kernel_rfl
/- quidnunc/quidnuncref05.number -/
noncomputable def c98_1 : ACode := .region false [⟨some 4, .move, [.c (.val (.slice none 0 0))], none⟩] [] [] [0, 1] false [] []
noncomputable def c98_3 : ACode := .region false [⟨some 8, .move, [.t 0], none⟩,
  ⟨some 9, .conv .u64, [.t 8], none⟩,
  ⟨some 10, .move, [.t 1], none⟩,
  ⟨some 11, .call 87, [.t 9, .t 10], none⟩,
  ⟨some 7, .move, [.t 11], none⟩,
  ⟨some 12, .ext 0, [.t 7], none⟩,
  ⟨some 13, .ext 1, [.t 7], none⟩,
  ⟨some 5, .move, [.t 12], none⟩,
  ⟨some 6, .move, [.t 13], none⟩] [] [] [5] true [] []
noncomputable def c98_5 : ACode := .region false [⟨some 14, .move, [.t 5], none⟩,
  ⟨some 4, .move, [.t 14], none⟩] [] [] [4] false [] []
noncomputable def c98_4 : ACode := .seq c98_5 .ret
noncomputable def c98_2 : ACode := .seq c98_3 c98_4
noncomputable def c98_0 : ACode := .seq c98_1 c98_2
noncomputable def code98 : Code := (Try.f98.body).getD .skip
theorem c98_ok : compC Try.prog 15 code98 = some (strip c98_0) := by kernel_rfl
theorem res98_ok : Try.f98.results.toList.mapM (resC Try.prog) = some [(4, none)] := by kernel_rfl
/- quidnunc/quidnuncref05.Bytes -/
noncomputable def c78_1 : ACode := .region false [⟨some 1, .box 0, [.t 0], none⟩,
  ⟨some 2, .move, [.c (.val (.slice none 0 0))], none⟩] [] [] [1] true [] []
noncomputable def c78_3 : ACode := .region false [⟨some 4, .addr 0, [.t 1], none⟩,
  ⟨some 5, .load false 1, [.t 4], none⟩,
  ⟨some 6, .call 97, [.t 5], none⟩,
  ⟨some 3, .move, [.t 6], none⟩] [] [] [1, 3] true [] []
noncomputable def c78_6 : ACode := .region false [⟨some 7, .addr 2, [.t 1], none⟩,
  ⟨some 8, .load false 1, [.t 7], none⟩] [] [] [1, 3, 8] false [] []
noncomputable def c78_8 : ACode := .region false [⟨some 9, .move, [.t 3], none⟩,
  ⟨some 10, .buildSl 1 1 [(.int .u8 0)] [(0, 1)], [.c (.val (.int .u8 1))], none⟩,
  ⟨some 11, .append 1 1 false, [.t 9, .t 10], none⟩,
  ⟨some 3, .move, [.t 11], none⟩] [] [] [1, 3] true [] []
noncomputable def c78_9 : ACode := .region false [⟨some 12, .move, [.t 3], none⟩,
  ⟨some 13, .buildSl 1 1 [(.int .u8 0)] [(0, 1)], [.c (.val (.int .u8 0))], none⟩,
  ⟨some 14, .append 1 1 false, [.t 12, .t 13], none⟩,
  ⟨some 3, .move, [.t 14], none⟩] [] [] [1, 3] true [] []
noncomputable def c78_7 : ACode := .cond (.t 8) c78_8 c78_9
noncomputable def c78_5 : ACode := .seq c78_6 c78_7
noncomputable def c78_11 : ACode := .region false [⟨some 15, .move, [.t 3], none⟩,
  ⟨some 16, .addr 1, [.t 1], none⟩,
  ⟨some 17, .load false 1, [.t 16], none⟩,
  ⟨some 18, .call 97, [.t 17], none⟩,
  ⟨some 19, .append 1 1 false, [.t 15, .t 18], none⟩,
  ⟨some 3, .move, [.t 19], none⟩] [] [] [1, 3] true [] []
noncomputable def c78_13 : ACode := .region false [⟨some 20, .move, [.t 3], none⟩,
  ⟨some 21, .addr 3, [.t 1], none⟩,
  ⟨some 22, .addr 0, [.t 21], none⟩,
  ⟨some 23, .load false 1, [.t 22], none⟩,
  ⟨some 24, .call 98, [.t 23, .c (.val (.int .i64 4))], none⟩,
  ⟨some 25, .append 1 1 false, [.t 20, .t 24], none⟩,
  ⟨some 3, .move, [.t 25], none⟩] [] [] [1, 3] true [] []
noncomputable def c78_15 : ACode := .region false [⟨some 26, .move, [.t 3], none⟩,
  ⟨some 27, .addr 3, [.t 1], none⟩,
  ⟨some 28, .addr 1, [.t 27], none⟩,
  ⟨some 29, .load false 1, [.t 28], none⟩,
  ⟨some 30, .call 98, [.t 29, .c (.val (.int .i64 1))], none⟩,
  ⟨some 31, .append 1 1 false, [.t 26, .t 30], none⟩,
  ⟨some 3, .move, [.t 31], none⟩] [] [] [1, 3] true [] []
noncomputable def c78_17 : ACode := .region false [⟨some 32, .move, [.t 3], none⟩,
  ⟨some 33, .addr 5, [.t 1], none⟩,
  ⟨some 34, .addr 0, [.t 33], none⟩,
  ⟨some 35, .load false 1, [.t 34], none⟩,
  ⟨some 36, .call 98, [.t 35, .c (.val (.int .i64 4))], none⟩,
  ⟨some 37, .append 1 1 false, [.t 32, .t 36], none⟩,
  ⟨some 3, .move, [.t 37], none⟩] [] [] [1, 3] true [] []
noncomputable def c78_19 : ACode := .region false [⟨some 38, .move, [.t 3], none⟩,
  ⟨some 39, .addr 5, [.t 1], none⟩,
  ⟨some 40, .addr 1, [.t 39], none⟩,
  ⟨some 41, .load false 1, [.t 40], none⟩,
  ⟨some 42, .call 98, [.t 41, .c (.val (.int .i64 1))], none⟩,
  ⟨some 43, .append 1 1 false, [.t 38, .t 42], none⟩,
  ⟨some 3, .move, [.t 43], none⟩] [] [] [1, 3] true [] []
noncomputable def c78_21 : ACode := .region false [⟨some 44, .move, [.t 3], none⟩,
  ⟨some 45, .addr 7, [.t 1], none⟩,
  ⟨some 46, .load false 1, [.t 45], none⟩,
  ⟨some 47, .call 98, [.t 46, .c (.val (.int .i64 2))], none⟩,
  ⟨some 48, .append 1 1 false, [.t 44, .t 47], none⟩,
  ⟨some 3, .move, [.t 48], none⟩] [] [] [1, 3] true [] []
noncomputable def c78_23 : ACode := .region false [⟨some 49, .move, [.t 3], none⟩,
  ⟨some 50, .addr 8, [.t 1], none⟩,
  ⟨some 51, .load false 1, [.t 50], none⟩,
  ⟨some 52, .call 98, [.t 51, .c (.val (.int .i64 4))], none⟩,
  ⟨some 53, .append 1 1 false, [.t 49, .t 52], none⟩,
  ⟨some 2, .move, [.t 53], none⟩] [] [] [2] true [] []
noncomputable def c78_22 : ACode := .seq c78_23 .ret
noncomputable def c78_20 : ACode := .seq c78_21 c78_22
noncomputable def c78_18 : ACode := .seq c78_19 c78_20
noncomputable def c78_16 : ACode := .seq c78_17 c78_18
noncomputable def c78_14 : ACode := .seq c78_15 c78_16
noncomputable def c78_12 : ACode := .seq c78_13 c78_14
noncomputable def c78_10 : ACode := .seq c78_11 c78_12
noncomputable def c78_4 : ACode := .seq c78_5 c78_10
noncomputable def c78_2 : ACode := .seq c78_3 c78_4
noncomputable def c78_0 : ACode := .seq c78_1 c78_2
noncomputable def code78 : Code := (Try.f78.body).getD .skip
theorem c78_ok : compC Try.prog 54 code78 = some (strip c78_0) := by kernel_rfl
theorem res78_ok : Try.f78.results.toList.mapM (resC Try.prog) = some [(2, none)] := by kernel_rfl
theorem rtextB_any (s : ByteArray) (h : s.size ≤ 255) : ACall Try.prog 97 [Str s] [] (Det (.sl 0 0 ((s.size : Int) :: txI s).length 1 none) [.cells false (bA ((s.size : Int) :: txI s))]) := by
  have hx := txI_str s
  have hl := txI_len s
  by_cases h0 : s.size = 0
  · have h1 : (1 + s.size ≤ 1) = True := eq_true (by omega)
    have h2 : txI s = [] := List.length_eq_zero_iff.1 (by omega)
    refine ACall.startA c97_ok Try.func97 rfl Try.ntmps97 (by kernel_rfl) res97_ok rfl rfl rfl ?_; simp (maxSteps := 9999999) (disch := omega) only [go_sem]
    (repeat' (first | refine AWpA.seq ?_ | refine AWpA.block ?_ | (with_reducible refine CondP.tt ?_) | (with_reducible refine CondP.ff ?_) | refine AWpA.condv (by simp (maxSteps := 9999999) (disch := omega) only [go_sem, hx, hl, h1, h2, h0, bA_nil]; rfl) ?_ | ((first | (apply AWpA.region; (focus (simp (maxSteps := 9999999) (disch := omega) only [go_sem, hx, hl, h1, h2, h0, bA_nil]; rfl))) | (apply AWpA.draw [] follows; (focus (simp (maxSteps := 9999999) (disch := omega) only [go_sem, hx, hl, h1, h2, h0, bA_nil]; rfl)); (focus (simp (maxSteps := 9999999) (disch := omega) only [go_sem, hx, hl, h1, h2, h0, bA_nil]; first | done | trivial)); (focus (simp (maxSteps := 9999999) (disch := omega) only [go_sem, hx, hl, h1, h2, h0, bA_nil]; rfl))) | (apply TailK.go; (focus (simp (maxSteps := 9999999) (disch := omega) only [go_sem, hx, hl, h1, h2, h0, bA_nil]; rfl))) | refine AWpA.skip ?_ | refine AWpA.exit ?_ | refine AWpA.ret ?_ | (with_reducible refine ARoundsA.succ ?_) | ((first | refine Runs.kt (by assumption) (fun h9 => ?_) | refine Runs.kf (by assumption) (fun h9 => ?_) | refine Runs.nt (by assumption) (fun h9 => ?_) | refine Runs.nf (by assumption) (fun h9 => ?_) | refine CondP.ht (by assumption) (fun h9 => ?_) | refine CondP.hf (by assumption) (fun h9 => ?_) | refine CondP.nt (by assumption) (fun h9 => ?_) | refine CondP.nf (by assumption) (fun h9 => ?_)); (try simp only [h9]); clear h9)); (try simp (maxSteps := 9999999) (disch := omega) only [go_sem, hx, hl, h1, h2, h0, bA_nil]); (try (refine And.intro ?_ ?_; (focus (first | omega | (simp only [go_sem]; done) | (simp; done) | (simp; omega) | assumption))))) | ((first | refine CondP.split (fun hif => ?_) (fun hif => ?_) | refine Runs.part (fun hif => ?_) (fun hif => ?_)) <;> ((try simp only [hif]); (try simp only [decide_eq_true_eq, decide_eq_false_iff_not, Bool.not_eq_true, Bool.not_eq_false, Bool.not_eq_true', Bool.not_eq_false', beq_iff_eq, bne_iff_ne, bne_eq_false_iff_eq, beq_eq_false_iff_ne, ne_eq, Bool.and_eq_true, Bool.or_eq_true, Bool.or_eq_false_iff] at hif); (try (have h9 : _ = true := hif; simp only [h9])); (try (have h9 : _ = false := hif; simp only [h9])); (try simp (maxSteps := 9999999) (disch := omega) only [go_sem, hx, hl, h1, h2, h0, bA_nil]); (try (refine And.intro ?_ ?_; (focus (first | omega | (simp only [go_sem]; done) | (simp; done) | (simp; omega) | assumption)))); (try (exfalso; omega; done))))))
    all_goals (apply Ret.det [_]; (focus (first | exact .inl rfl | exact .inr rfl)); (focus (simp (maxSteps := 9999999) (disch := omega) only [go_sem, h0, bA_cons, bA_nil]; rfl)); (simp (maxSteps := 9999999) (disch := omega) only [go_sem, h0, bA_cons, bA_nil]; (try (repeat' (first | done | trivial | rfl | exact leAs_rfl _ | decide | (refine And.intro ?_ ?_) | (simp; done) | omega | (simp; decide))))))
  · have h1 : (1 + s.size ≤ 1) = False := eq_false (by omega)
    have h3 : (s.size ≤ 0) = False := eq_false (by omega)
    have h2 : 1 + s.size = s.size + 1 := Nat.add_comm _ _
    have h4 : (txI s).take s.size = txI s := List.take_of_length_le (by omega)
    refine ACall.startA c97_ok Try.func97 rfl Try.ntmps97 (by kernel_rfl) res97_ok rfl rfl rfl ?_; simp (maxSteps := 9999999) (disch := omega) only [go_sem]
    (repeat' (first | refine AWpA.seq ?_ | refine AWpA.block ?_ | (with_reducible refine CondP.tt ?_) | (with_reducible refine CondP.ff ?_) | refine AWpA.condv (by simp (maxSteps := 9999999) (disch := omega) only [go_sem, hx, hl, h1, h2, h3, h4, bA_cons]; rfl) ?_ | ((first | (apply AWpA.region; (focus (simp (maxSteps := 9999999) (disch := omega) only [go_sem, hx, hl, h1, h2, h3, h4, bA_cons]; rfl))) | (apply AWpA.draw [] follows; (focus (simp (maxSteps := 9999999) (disch := omega) only [go_sem, hx, hl, h1, h2, h3, h4, bA_cons]; rfl)); (focus (simp (maxSteps := 9999999) (disch := omega) only [go_sem, hx, hl, h1, h2, h3, h4, bA_cons]; first | done | trivial)); (focus (simp (maxSteps := 9999999) (disch := omega) only [go_sem, hx, hl, h1, h2, h3, h4, bA_cons]; rfl))) | (apply TailK.go; (focus (simp (maxSteps := 9999999) (disch := omega) only [go_sem, hx, hl, h1, h2, h3, h4, bA_cons]; rfl))) | refine AWpA.skip ?_ | refine AWpA.exit ?_ | refine AWpA.ret ?_ | (with_reducible refine ARoundsA.succ ?_) | ((first | refine Runs.kt (by assumption) (fun h9 => ?_) | refine Runs.kf (by assumption) (fun h9 => ?_) | refine Runs.nt (by assumption) (fun h9 => ?_) | refine Runs.nf (by assumption) (fun h9 => ?_) | refine CondP.ht (by assumption) (fun h9 => ?_) | refine CondP.hf (by assumption) (fun h9 => ?_) | refine CondP.nt (by assumption) (fun h9 => ?_) | refine CondP.nf (by assumption) (fun h9 => ?_)); (try simp only [h9]); clear h9)); (try simp (maxSteps := 9999999) (disch := omega) only [go_sem, hx, hl, h1, h2, h3, h4, bA_cons]); (try (refine And.intro ?_ ?_; (focus (first | omega | (simp only [go_sem]; done) | (simp; done) | (simp; omega) | assumption))))) | ((first | refine CondP.split (fun hif => ?_) (fun hif => ?_) | refine Runs.part (fun hif => ?_) (fun hif => ?_)) <;> ((try simp only [hif]); (try simp only [decide_eq_true_eq, decide_eq_false_iff_not, Bool.not_eq_true, Bool.not_eq_false, Bool.not_eq_true', Bool.not_eq_false', beq_iff_eq, bne_iff_ne, bne_eq_false_iff_eq, beq_eq_false_iff_ne, ne_eq, Bool.and_eq_true, Bool.or_eq_true, Bool.or_eq_false_iff] at hif); (try (have h9 : _ = true := hif; simp only [h9])); (try (have h9 : _ = false := hif; simp only [h9])); (try simp (maxSteps := 9999999) (disch := omega) only [go_sem, hx, hl, h1, h2, h3, h4, bA_cons]); (try (refine And.intro ?_ ?_; (focus (first | omega | (simp only [go_sem]; done) | (simp; done) | (simp; omega) | assumption)))); (try (exfalso; omega; done))))))
    all_goals (apply Ret.det [_]; (focus (first | exact .inl rfl | exact .inr rfl)); (focus (simp (maxSteps := 9999999) (disch := omega) only [go_sem, hl, h2, h4, bA_cons]; rfl)); (simp (maxSteps := 9999999) (disch := omega) only [go_sem, hl, h2, h4, bA_cons]; (try (repeat' (first | done | trivial | rfl | exact leAs_rfl _ | decide | (refine And.intro ?_ ?_) | (simp; done) | omega | (simp; decide))))))
theorem rnumB_any (v : Int) (h0 : 0 ≤ v ∧ v < 18446744073709551616) (h1 : v ≤ 9223372036854775807) (n : Nat) (hn : n ≤ 8) : ACall Try.prog 98 [I v, I (n : Int)] [] (Det (.sl 0 0 (leI v n).length 1 none) [.cells false (bA (leI v n))]) := by
  have hr := refnum_any v h0 n hn
  have hl := leI_len v n
  generalize leI v n = m at *
  generalize (v / 256 ^ n == 0) = q at *
  refine ACall.startA c98_ok Try.func98 rfl Try.ntmps98 (by kernel_rfl) res98_ok rfl rfl rfl ?_; simp (maxSteps := 9999999) (disch := omega) only [go_sem]
  (repeat' (first | refine AWpA.seq ?_ | refine AWpA.block ?_ | (with_reducible refine CondP.tt ?_) | (with_reducible refine CondP.ff ?_) | refine AWpA.condv (by simp (maxSteps := 9999999) (disch := omega) only [go_sem]; rfl) ?_ | ((first | (apply AWpA.region; (focus (simp (maxSteps := 9999999) (disch := omega) only [go_sem]; rfl))) | (apply AWpA.draw [] follows; (focus (simp (maxSteps := 9999999) (disch := omega) only [go_sem]; rfl)); (focus (simp (maxSteps := 9999999) (disch := omega) only [go_sem]; first | done | trivial)); (focus (simp (maxSteps := 9999999) (disch := omega) only [go_sem]; rfl))) | (apply TailK.go; (focus (simp (maxSteps := 9999999) (disch := omega) only [go_sem]; rfl))) | refine AWpA.skip ?_ | refine AWpA.exit ?_ | refine AWpA.ret ?_ | (with_reducible refine ARoundsA.succ ?_) | ((first | refine Runs.kt (by assumption) (fun h9 => ?_) | refine Runs.kf (by assumption) (fun h9 => ?_) | refine Runs.nt (by assumption) (fun h9 => ?_) | refine Runs.nf (by assumption) (fun h9 => ?_) | refine CondP.ht (by assumption) (fun h9 => ?_) | refine CondP.hf (by assumption) (fun h9 => ?_) | refine CondP.nt (by assumption) (fun h9 => ?_) | refine CondP.nf (by assumption) (fun h9 => ?_)); (try simp only [h9]); clear h9) | ((first | (with_reducible apply CallG.plain1 [] (hr)) | (with_reducible apply CallG.draw1 [] (hr))); (focus ((try refine And.intro (leAs_of_eq rfl) ?_); (try refine And.intro (leOL_of_eq rfl) ?_); simp (maxSteps := 9999999) (disch := omega) only [go_sem]; first | done | (repeat' (first | rfl | (refine And.intro ?_ ?_))))); (focus (simp (maxSteps := 9999999) (disch := omega) only [go_sem]; rfl)))); (try simp (maxSteps := 9999999) (disch := omega) only [go_sem]); (try (refine And.intro ?_ ?_; (focus (first | omega | (simp only [go_sem]; done) | (simp; done) | (simp; omega) | assumption))))) | ((first | refine CondP.split (fun hif => ?_) (fun hif => ?_) | refine Runs.part (fun hif => ?_) (fun hif => ?_)) <;> ((try simp only [hif]); (try simp only [decide_eq_true_eq, decide_eq_false_iff_not, Bool.not_eq_true, Bool.not_eq_false, Bool.not_eq_true', Bool.not_eq_false', beq_iff_eq, bne_iff_ne, bne_eq_false_iff_eq, beq_eq_false_iff_ne, ne_eq, Bool.and_eq_true, Bool.or_eq_true, Bool.or_eq_false_iff] at hif); (try (have h9 : _ = true := hif; simp only [h9])); (try (have h9 : _ = false := hif; simp only [h9])); (try simp (maxSteps := 9999999) (disch := omega) only [go_sem]); (try (refine And.intro ?_ ?_; (focus (first | omega | (simp only [go_sem]; done) | (simp; done) | (simp; omega) | assumption)))); (try (exfalso; omega; done))))))
  (apply Ret.det [_]; (focus (first | exact .inl rfl | exact .inr rfl)); (focus (simp (maxSteps := 9999999) (disch := omega) only [go_sem, hl]; rfl)); (simp (maxSteps := 9999999) (disch := omega) only [go_sem, hl]; (try (repeat' (first | done | trivial | rfl | exact leAs_rfl _ | decide | (refine And.intro ?_ ?_) | (simp; done) | omega | (simp; decide))))))
set_option maxHeartbeats 20000000 in
theorem rbytes_any (e : En) (he : checkI e = 0) : ACall Try.prog 78 [EnA e] [] (Det (.sl 0 0 (enB e).length 1 none) [.cells false (bA (enB e))]) := by
  obtain ⟨k1, k2, k3, k4, k5, k6, k7, k8, k9⟩ := check_ok he
  have hB : enB e = ((e.key.size : Int) :: txI e.key) ++ [cond e.dead 1 0] ++ ((e.val.size : Int) :: txI e.val) ++ leI e.st.c 4 ++ leI e.st.s 1 ++ leI e.act.c 4 ++ leI e.act.s 1 ++ leI e.keep 2 ++ leI e.age 4 := rfl
  rw [hB]
  clear hB he
  obtain ⟨key, val, dead, ⟨sc, ss⟩, ⟨ac, ax⟩, keep, age⟩ := e
  simp only at k1 k2 k3 k4 k5 k6 k7 k8 k9
  simp only
  have c1 := rtextB_any key (by omega)
  have c3 := rtextB_any val (by omega)
  have c4 := rnumB_any sc (by omega) (by omega) 4 (by decide)
  have c5 := rnumB_any ss (by omega) (by omega) 1 (by decide)
  have c6 := rnumB_any ac (by omega) (by omega) 4 (by decide)
  have c7 := rnumB_any ax (by omega) (by omega) 1 (by decide)
  have c8 := rnumB_any keep (by omega) (by omega) 2 (by decide)
  have c9 := rnumB_any age (by omega) (by omega) 4 (by decide)
  have n1 : ((key.size : Int) :: txI key).length ≤ 17 := by simp [txI_len]; omega
  have n3 : ((val.size : Int) :: txI val).length ≤ 33 := by simp [txI_len]; omega
  have n4 := leI_len sc 4
  have n5 := leI_len ss 1
  have n6 := leI_len ac 4
  have n7 := leI_len ax 1
  have n8 := leI_len keep 2
  have n9 := leI_len age 4
  generalize ((key.size : Int) :: txI key) = m1 at *
  generalize ((val.size : Int) :: txI val) = m3 at *
  generalize leI sc 4 = m4 at *
  generalize leI ss 1 = m5 at *
  generalize leI ac 4 = m6 at *
  generalize leI ax 1 = m7 at *
  generalize leI keep 2 = m8 at *
  generalize leI age 4 = m9 at *
  have t2 : ∀ d : Int, (m1 ++ [d]).take (m1.length + 1) = m1 ++ [d] := fun d => List.take_of_length_le (by simp)
  have t3 : ∀ d : Int, (m1 ++ [d] ++ m3).take (m1.length + 1 + m3.length) = m1 ++ [d] ++ m3 := fun d => List.take_of_length_le (by simp only [List.length_append, List.length_cons, List.length_nil]; omega)
  have t4 : ∀ d : Int, (m1 ++ [d] ++ m3 ++ m4).take (m1.length + 1 + m3.length + m4.length) = m1 ++ [d] ++ m3 ++ m4 := fun d => List.take_of_length_le (by simp only [List.length_append, List.length_cons, List.length_nil]; omega)
  have t5 : ∀ d : Int, (m1 ++ [d] ++ m3 ++ m4 ++ m5).take (m1.length + 1 + m3.length + m4.length + m5.length) = m1 ++ [d] ++ m3 ++ m4 ++ m5 := fun d => List.take_of_length_le (by simp only [List.length_append, List.length_cons, List.length_nil]; omega)
  have t6 : ∀ d : Int, (m1 ++ [d] ++ m3 ++ m4 ++ m5 ++ m6).take (m1.length + 1 + m3.length + m4.length + m5.length + m6.length) = m1 ++ [d] ++ m3 ++ m4 ++ m5 ++ m6 := fun d => List.take_of_length_le (by simp only [List.length_append, List.length_cons, List.length_nil]; omega)
  have t7 : ∀ d : Int, (m1 ++ [d] ++ m3 ++ m4 ++ m5 ++ m6 ++ m7).take (m1.length + 1 + m3.length + m4.length + m5.length + m6.length + m7.length) = m1 ++ [d] ++ m3 ++ m4 ++ m5 ++ m6 ++ m7 := fun d => List.take_of_length_le (by simp only [List.length_append, List.length_cons, List.length_nil]; omega)
  have t8 : ∀ d : Int, (m1 ++ [d] ++ m3 ++ m4 ++ m5 ++ m6 ++ m7 ++ m8).take (m1.length + 1 + m3.length + m4.length + m5.length + m6.length + m7.length + m8.length) = m1 ++ [d] ++ m3 ++ m4 ++ m5 ++ m6 ++ m7 ++ m8 := fun d => List.take_of_length_le (by simp only [List.length_append, List.length_cons, List.length_nil]; omega)
  cases dead
  all_goals
    refine ACall.startA c78_ok Try.func78 rfl Try.ntmps78 (by kernel_rfl) res78_ok rfl rfl rfl ?_; simp (maxSteps := 9999999) (disch := omega) only [go_sem]
    (repeat' (first | refine AWpA.seq ?_ | refine AWpA.block ?_ | (with_reducible refine CondP.tt ?_) | (with_reducible refine CondP.ff ?_) | refine AWpA.condv (by simp (maxSteps := 9999999) (disch := omega) only [go_sem, t2, t3, t4, t5, t6, t7, t8]; rfl) ?_ | ((first | (apply AWpA.region; (focus (simp (maxSteps := 9999999) (disch := omega) only [go_sem, t2, t3, t4, t5, t6, t7, t8]; rfl))) | (apply AWpA.draw [] follows; (focus (simp (maxSteps := 9999999) (disch := omega) only [go_sem, t2, t3, t4, t5, t6, t7, t8]; rfl)); (focus (simp (maxSteps := 9999999) (disch := omega) only [go_sem, t2, t3, t4, t5, t6, t7, t8]; first | done | trivial)); (focus (simp (maxSteps := 9999999) (disch := omega) only [go_sem, t2, t3, t4, t5, t6, t7, t8]; rfl))) | (apply TailK.go; (focus (simp (maxSteps := 9999999) (disch := omega) only [go_sem, t2, t3, t4, t5, t6, t7, t8]; rfl))) | refine AWpA.skip ?_ | refine AWpA.exit ?_ | refine AWpA.ret ?_ | (with_reducible refine ARoundsA.succ ?_) | ((first | refine Runs.kt (by assumption) (fun h9 => ?_) | refine Runs.kf (by assumption) (fun h9 => ?_) | refine Runs.nt (by assumption) (fun h9 => ?_) | refine Runs.nf (by assumption) (fun h9 => ?_) | refine CondP.ht (by assumption) (fun h9 => ?_) | refine CondP.hf (by assumption) (fun h9 => ?_) | refine CondP.nt (by assumption) (fun h9 => ?_) | refine CondP.nf (by assumption) (fun h9 => ?_)); (try simp only [h9]); clear h9) | ((first | (with_reducible apply CallG.plain1 [] (c1)) | (with_reducible apply CallG.draw1 [] (c1))); (focus ((try refine And.intro (leAs_of_eq rfl) ?_); (try refine And.intro (leOL_of_eq rfl) ?_); simp (maxSteps := 9999999) (disch := omega) only [go_sem, t2, t3, t4, t5, t6, t7, t8]; first | done | (repeat' (first | rfl | (refine And.intro ?_ ?_))))); (focus (simp (maxSteps := 9999999) (disch := omega) only [go_sem, t2, t3, t4, t5, t6, t7, t8]; rfl))) | ((first | (with_reducible apply CallG.plain1 [] (c3)) | (with_reducible apply CallG.draw1 [] (c3))); (focus ((try refine And.intro (leAs_of_eq rfl) ?_); (try refine And.intro (leOL_of_eq rfl) ?_); simp (maxSteps := 9999999) (disch := omega) only [go_sem, t2, t3, t4, t5, t6, t7, t8]; first | done | (repeat' (first | rfl | (refine And.intro ?_ ?_))))); (focus (simp (maxSteps := 9999999) (disch := omega) only [go_sem, t2, t3, t4, t5, t6, t7, t8]; rfl))) | ((first | (with_reducible apply CallG.plain1 [] (c4)) | (with_reducible apply CallG.draw1 [] (c4))); (focus ((try refine And.intro (leAs_of_eq rfl) ?_); (try refine And.intro (leOL_of_eq rfl) ?_); simp (maxSteps := 9999999) (disch := omega) only [go_sem, t2, t3, t4, t5, t6, t7, t8]; first | done | (repeat' (first | rfl | (refine And.intro ?_ ?_))))); (focus (simp (maxSteps := 9999999) (disch := omega) only [go_sem, t2, t3, t4, t5, t6, t7, t8]; rfl))) | ((first | (with_reducible apply CallG.plain1 [] (c5)) | (with_reducible apply CallG.draw1 [] (c5))); (focus ((try refine And.intro (leAs_of_eq rfl) ?_); (try refine And.intro (leOL_of_eq rfl) ?_); simp (maxSteps := 9999999) (disch := omega) only [go_sem, t2, t3, t4, t5, t6, t7, t8]; first | done | (repeat' (first | rfl | (refine And.intro ?_ ?_))))); (focus (simp (maxSteps := 9999999) (disch := omega) only [go_sem, t2, t3, t4, t5, t6, t7, t8]; rfl))) | ((first | (with_reducible apply CallG.plain1 [] (c6)) | (with_reducible apply CallG.draw1 [] (c6))); (focus ((try refine And.intro (leAs_of_eq rfl) ?_); (try refine And.intro (leOL_of_eq rfl) ?_); simp (maxSteps := 9999999) (disch := omega) only [go_sem, t2, t3, t4, t5, t6, t7, t8]; first | done | (repeat' (first | rfl | (refine And.intro ?_ ?_))))); (focus (simp (maxSteps := 9999999) (disch := omega) only [go_sem, t2, t3, t4, t5, t6, t7, t8]; rfl))) | ((first | (with_reducible apply CallG.plain1 [] (c7)) | (with_reducible apply CallG.draw1 [] (c7))); (focus ((try refine And.intro (leAs_of_eq rfl) ?_); (try refine And.intro (leOL_of_eq rfl) ?_); simp (maxSteps := 9999999) (disch := omega) only [go_sem, t2, t3, t4, t5, t6, t7, t8]; first | done | (repeat' (first | rfl | (refine And.intro ?_ ?_))))); (focus (simp (maxSteps := 9999999) (disch := omega) only [go_sem, t2, t3, t4, t5, t6, t7, t8]; rfl))) | ((first | (with_reducible apply CallG.plain1 [] (c8)) | (with_reducible apply CallG.draw1 [] (c8))); (focus ((try refine And.intro (leAs_of_eq rfl) ?_); (try refine And.intro (leOL_of_eq rfl) ?_); simp (maxSteps := 9999999) (disch := omega) only [go_sem, t2, t3, t4, t5, t6, t7, t8]; first | done | (repeat' (first | rfl | (refine And.intro ?_ ?_))))); (focus (simp (maxSteps := 9999999) (disch := omega) only [go_sem, t2, t3, t4, t5, t6, t7, t8]; rfl))) | ((first | (with_reducible apply CallG.plain1 [] (c9)) | (with_reducible apply CallG.draw1 [] (c9))); (focus ((try refine And.intro (leAs_of_eq rfl) ?_); (try refine And.intro (leOL_of_eq rfl) ?_); simp (maxSteps := 9999999) (disch := omega) only [go_sem, t2, t3, t4, t5, t6, t7, t8]; first | done | (repeat' (first | rfl | (refine And.intro ?_ ?_))))); (focus (simp (maxSteps := 9999999) (disch := omega) only [go_sem, t2, t3, t4, t5, t6, t7, t8]; rfl)))); (try simp (maxSteps := 9999999) (disch := omega) only [go_sem, t2, t3, t4, t5, t6, t7, t8]); (try (refine And.intro ?_ ?_; (focus (first | omega | (simp only [go_sem]; done) | (simp; done) | (simp; omega) | assumption))))) | ((first | refine CondP.split (fun hif => ?_) (fun hif => ?_) | refine Runs.part (fun hif => ?_) (fun hif => ?_)) <;> ((try simp only [hif]); (try simp only [decide_eq_true_eq, decide_eq_false_iff_not, Bool.not_eq_true, Bool.not_eq_false, Bool.not_eq_true', Bool.not_eq_false', beq_iff_eq, bne_iff_ne, bne_eq_false_iff_eq, beq_eq_false_iff_ne, ne_eq, Bool.and_eq_true, Bool.or_eq_true, Bool.or_eq_false_iff] at hif); (try (have h9 : _ = true := hif; simp only [h9])); (try (have h9 : _ = false := hif; simp only [h9])); (try simp (maxSteps := 9999999) (disch := omega) only [go_sem, t2, t3, t4, t5, t6, t7, t8]); (try (refine And.intro ?_ ?_; (focus (first | omega | (simp only [go_sem]; done) | (simp; done) | (simp; omega) | assumption)))); (try (exfalso; omega; done))))))
    all_goals (apply Ret.det [_]; (focus (first | exact .inl rfl | exact .inr rfl)); (focus (simp (maxSteps := 9999999) (disch := omega) only [go_sem, t2, t3, t4, t5, t6, t7, t8]; rfl)); (simp (maxSteps := 9999999) (disch := omega) only [go_sem, t2, t3, t4, t5, t6, t7, t8]; (try (repeat' (first | done | trivial | rfl | exact leAs_rfl _ | decide | (refine And.intro ?_ ?_) | (simp; done) | omega | (simp; decide))))))
def alikeB (a b : En) : Bool := (a.key == b.key) && ((a.val == b.val) && ((a.dead == b.dead) && (eqSt a.st b.st && (eqSt a.act b.act && (a.keep == b.keep)))))
abbrev MkA (a : St) (key : ByteArray) : AV := .agg [I a.c, I a.s, Str key]
end Go.Proofs.Ytkdikmfnchmphaa
