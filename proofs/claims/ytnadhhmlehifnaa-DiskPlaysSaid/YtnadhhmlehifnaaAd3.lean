/- Contracts: the example of chapter 06. -/
import Derived.Test.YtnadhhmlehifnaaAd2
namespace Go.Proofs.Ytnadhhmlehifnaa
set_option linter.unusedSimpArgs false
set_option linter.unusedVariables false
set_option maxHeartbeats 4000000
open Go Go.Am
set_option maxRecDepth 100000
/- quidnunc/quidnunclaw06.speaks -/
noncomputable def c13_1 : ACode := .region false [⟨some 0, .move, [.c (.val (.bool false))], none⟩] [] [] [] false [] []
noncomputable def c13_3 : ACode := .region false [⟨some 4, .call 14, [], none⟩,
  ⟨some 1, .move, [.t 4], none⟩] [] [] [1] true [] []
noncomputable def c13_6 : ACode := .region false [⟨some 5, .move, [.t 1], none⟩,
  ⟨some 6, .eqP false, [.t 5, .c (.val (.pointer none))], none⟩,
  ⟨some 7, .move, [.t 6], none⟩,
  ⟨some 8, .move, [.t 1], some (some 7, false)⟩,
  ⟨some 9, .buildSl 1 3 [(.int .u8 0)] [(0, 1), (1, 1), (2, 1)], [.c (.val (.int .u8 1)), .c (.val (.int .u8 2)), .c (.val (.int .u8 3))], some (some 7, false)⟩,
  ⟨some 10, .call 15, [.t 8, .t 9], some (some 7, false)⟩,
  ⟨some 11, .bin .neq, [.t 10, .c (.val (.int .i64 0))], some (some 7, false)⟩,
  ⟨some 12, .pick, [.t 7, .c (.val (.bool true)), .t 11], none⟩,
  ⟨some 13, .move, [.t 12], none⟩,
  ⟨some 14, .move, [.t 1], some (some 13, false)⟩,
  ⟨some 15, .call 17, [.t 14], some (some 13, false)⟩,
  ⟨some 16, .bin .neq, [.t 15, .c (.val (.int .i64 0))], some (some 13, false)⟩,
  ⟨some 17, .pick, [.t 13, .c (.val (.bool true)), .t 16], none⟩,
  ⟨some 18, .move, [.t 17], none⟩,
  ⟨some 19, .move, [.t 1], some (some 18, false)⟩,
  ⟨some 20, .buildSl 1 2 [(.int .u8 0)] [(0, 1), (1, 1)], [.c (.val (.int .u8 4)), .c (.val (.int .u8 5))], some (some 18, false)⟩,
  ⟨some 21, .call 15, [.t 19, .t 20], some (some 18, false)⟩,
  ⟨some 22, .bin .neq, [.t 21, .c (.val (.int .i64 0))], some (some 18, false)⟩,
  ⟨some 23, .pick, [.t 18, .c (.val (.bool true)), .t 22], none⟩,
  ⟨some 24, .move, [.t 23], none⟩,
  ⟨some 25, .move, [.t 1], some (some 24, false)⟩,
  ⟨some 26, .call 21, [.t 25, .c (.val (.int .i64 1))], some (some 24, false)⟩,
  ⟨some 27, .bin .neq, [.t 26, .c (.val (.int .i64 1))], some (some 24, false)⟩,
  ⟨some 28, .pick, [.t 24, .c (.val (.bool true)), .t 27], none⟩] [] [] [1, 28] true [] []
noncomputable def c13_9 : ACode := .region false [⟨some 0, .move, [.c (.val (.bool false))], none⟩] [] [] [0] false [] []
noncomputable def c13_8 : ACode := .seq c13_9 .ret
noncomputable def c13_7 : ACode := .cond (.t 28) c13_8 .skip
noncomputable def c13_5 : ACode := .seq c13_6 c13_7
noncomputable def c13_11 : ACode := .region false [⟨some 30, .move, [.t 1], none⟩,
  ⟨some 31, .call 19, [.t 30], none⟩,
  ⟨some 29, .move, [.t 31], none⟩,
  ⟨some 32, .ext 0, [.t 29], none⟩,
  ⟨some 33, .ext 1, [.t 29], none⟩,
  ⟨some 2, .move, [.t 32], none⟩,
  ⟨some 3, .move, [.t 33], none⟩] [] [] [2, 3] true [] []
noncomputable def c13_13 : ACode := .region false [⟨some 34, .move, [.t 3], none⟩,
  ⟨some 35, .bin .eql, [.t 34, .c (.val (.int .i64 0))], none⟩,
  ⟨some 36, .move, [.t 35], none⟩,
  ⟨some 37, .move, [.t 2], some (some 36, true)⟩,
  ⟨some 38, .toStr, [.t 37], some (some 36, true)⟩,
  ⟨some 39, .bin .eql, [.t 38, .c (.val (.string ⟨#[1, 2, 3, 4]⟩))], some (some 36, true)⟩,
  ⟨some 40, .pick, [.t 36, .t 39, .c (.val (.bool false))], none⟩,
  ⟨some 0, .move, [.t 40], none⟩] [] [] [0] false [] []
noncomputable def c13_12 : ACode := .seq c13_13 .ret
noncomputable def c13_10 : ACode := .seq c13_11 c13_12
noncomputable def c13_4 : ACode := .seq c13_5 c13_10
noncomputable def c13_2 : ACode := .seq c13_3 c13_4
noncomputable def c13_0 : ACode := .seq c13_1 c13_2
noncomputable def code13 : Code := (Try.f13.body).getD .skip
theorem c13_ok : compC Try.prog 41 code13 = some (strip c13_0) := by kernel_rfl
theorem res13_ok : Try.f13.results.toList.mapM (resC Try.prog) = some [(0, none)] := by kernel_rfl
theorem Dk.ok0 : (⟨[], 0, false, -1⟩ : Dk).ok := ⟨by simp, by simp, by simp, by simp⟩
theorem dapp_to {d d' : Dk} {e : Int} (hok : d.ok) {P : List AV} {o : Nat} {b : List Int} (s : Seg P o b) (he : doE d (appW d b.length) = e) (hd : doD d (appW d b.length) (appF b) = d') : ACall Try.prog 15 [.ptr 0 0, .sl 2 o b.length 1 none] [DkO 1 d, .cells false (bA d.l), .cells true P] (Det (I e) [DkO 3 d', .gone, .cells true P, .cells false (bA d'.l)]) := by
  subst he hd; exact dapp_any d hok s
theorem dsync_to {d d' : Dk} {e : Int} (hok : d.ok) (he : doE d 0 = e) (hd : doD d 0 syncF = d') : ACall Try.prog 17 [.ptr 0 0] [DkO 1 d, .cells false (bA d.l)] (Det (I e) [DkO 1 d', .cells false (bA d.l)]) := by
  subst he hd; exact dsync_any d hok
theorem dtrim_to {d d' : Dk} {e n : Int} (hok : d.ok) (he : doE d (trimW d n) = e) (hd : doD d (trimW d n) (trimF n.toNat) = d') : ACall Try.prog 20 [.ptr 0 0, I n] [DkO 1 d, .cells false (bA d.l)] (Det (I e) [DkO 1 d', .cells false (bA d'.l)]) := by
  subst he hd; exact dtrim_any d hok n
theorem dcrash_to {d d' : Dk} {k keep : Int} (hok : d.ok) (he : (crashN d keep : Int) = k) (hd : crashF d keep = d') : ACall Try.prog 21 [.ptr 0 0, I keep] [DkO 1 d, .cells false (bA d.l)] (Det (I k) [DkO 1 d', .cells false (bA d'.l)]) := by
  subst he hd; exact dcrash_any d hok keep
theorem dread_to {d : Dk} {l : List Int} {e : Int} (hok : d.ok) (hl : readL d = l) (he : readE d = e) : ACall Try.prog 19 [.ptr 0 0] [.cells true [Bo d.off, .any, .sl 1 0 d.l.length 1 none, .any], .cells true (bA d.l)] (Det (.tup [.sl 2 0 l.length 1 none, I e]) [.cells true [Bo d.off, .any, .sl 1 0 d.l.length 1 none, .any], .cells true (bA d.l), .cells false (bA l)]) := by
  subst hl he; exact dread_any d hok
theorem speaks06 : ACall Try.prog 13 [] [] (Det (Bo true) []) := by
  have h1 := dapp_to (d := ⟨[], 0, false, -1⟩) (d' := ⟨[1, 2, 3], 0, false, -1⟩) (e := 0) Dk.ok0 (Seg.all [1, 2, 3] (by simp)) rfl rfl
  have h2 := dsync_to (d := ⟨[1, 2, 3], 0, false, -1⟩) (d' := ⟨[1, 2, 3], 3, false, -1⟩) (e := 0) ⟨by simp, by simp, by simp, by simp⟩ rfl rfl
  have h3 := dapp_to (d := ⟨[1, 2, 3], 3, false, -1⟩) (d' := ⟨[1, 2, 3, 4, 5], 3, false, -1⟩) (e := 0) ⟨by simp, by simp, by simp, by simp⟩ (Seg.all [4, 5] (by simp)) rfl rfl
  have h4 := dcrash_to (d := ⟨[1, 2, 3, 4, 5], 3, false, -1⟩) (d' := ⟨[1, 2, 3, 4], 4, false, -1⟩) (k := 1) (keep := 1) ⟨by simp, by simp, by simp, by simp⟩ rfl rfl
  have h5 := dread_to (d := ⟨[1, 2, 3, 4], 4, false, -1⟩) (l := [1, 2, 3, 4]) (e := 0) ⟨by simp, by simp, by simp, by simp⟩ rfl rfl
  simp only [List.length_cons, List.length_nil, Nat.zero_add, Nat.reduceAdd, bA_cons, bA_nil] at h1 h2 h3 h4 h5
  refine ACall.startA c13_ok Try.func13 rfl Try.ntmps13 (by kernel_rfl) res13_ok rfl rfl rfl ?_; simp (maxSteps := 9999999) (disch := omega) only [go_sem]
  (repeat' (first | refine AWpA.seq ?_ | refine AWpA.block ?_ | (with_reducible refine CondP.tt ?_) | (with_reducible refine CondP.ff ?_) | refine AWpA.condv (by simp (maxSteps := 9999999) (disch := omega) only [go_sem]; rfl) ?_ | ((first | (apply AWpA.region; (focus (simp (maxSteps := 9999999) (disch := omega) only [go_sem]; rfl))) | (apply AWpA.draw [] [] follows; (focus (first | rfl | decide)); (focus (simp (maxSteps := 9999999) (disch := omega) only [go_sem]; rfl)); (focus (simp (maxSteps := 9999999) (disch := omega) only [go_sem]; first | done | trivial)); (focus (simp (maxSteps := 9999999) (disch := omega) only [go_sem]; rfl))) | (apply TailK.go; (focus (simp (maxSteps := 9999999) (disch := omega) only [go_sem]; rfl))) | refine AWpA.skip ?_ | refine AWpA.exit ?_ | refine AWpA.ret ?_ | (with_reducible refine ARoundsA.succ ?_) | ((first | refine Runs.kt (by assumption) (fun h9 => ?_) | refine Runs.kf (by assumption) (fun h9 => ?_) | refine Runs.nt (by assumption) (fun h9 => ?_) | refine Runs.nf (by assumption) (fun h9 => ?_) | refine CondP.ht (by assumption) (fun h9 => ?_) | refine CondP.hf (by assumption) (fun h9 => ?_) | refine CondP.nt (by assumption) (fun h9 => ?_) | refine CondP.nf (by assumption) (fun h9 => ?_)); (try simp only [h9]); clear h9) | ((first | (with_reducible apply CallG.plain1 [16, 17, 112] (h1)) | (with_reducible apply CallG.draw1 [16, 17, 112] (h1))); (focus ((try refine And.intro (leAs_of_eq rfl) ?_); (try refine And.intro (leOL_of_eq rfl) ?_); simp (maxSteps := 9999999) (disch := omega) only [go_sem]; first | done | (repeat' (first | rfl | (refine And.intro ?_ ?_))))); (focus (simp (maxSteps := 9999999) (disch := omega) only [go_sem]; rfl))) | ((first | (with_reducible apply CallG.plain1 [16, 128, 288] (h3)) | (with_reducible apply CallG.draw1 [16, 128, 288] (h3))); (focus ((try refine And.intro (leAs_of_eq rfl) ?_); (try refine And.intro (leOL_of_eq rfl) ?_); simp (maxSteps := 9999999) (disch := omega) only [go_sem]; first | done | (repeat' (first | rfl | (refine And.intro ?_ ?_))))); (focus (simp (maxSteps := 9999999) (disch := omega) only [go_sem]; rfl))) | ((first | (with_reducible apply CallG.plain1 [] (dnew_any)) | (with_reducible apply CallG.plain1 [16, 128] (h2)) | (with_reducible apply CallG.plain1 [16, 304] (h4)) | (with_reducible apply CallG.plain1 [16, 304] (h5)) | (with_reducible apply CallG.draw1 [] (dnew_any)) | (with_reducible apply CallG.draw1 [16, 128] (h2)) | (with_reducible apply CallG.draw1 [16, 304] (h4)) | (with_reducible apply CallG.draw1 [16, 304] (h5))); (focus ((try refine And.intro (leAs_of_eq rfl) ?_); (try refine And.intro (leOL_of_eq rfl) ?_); simp (maxSteps := 9999999) (disch := omega) only [go_sem]; first | done | (repeat' (first | rfl | (refine And.intro ?_ ?_))))); (focus (simp (maxSteps := 9999999) (disch := omega) only [go_sem]; rfl)))); (try simp (maxSteps := 9999999) (disch := omega) only [go_sem]); (try (refine And.intro ?_ ?_; (focus (first | omega | (simp only [go_sem]; done) | (simp; done) | (simp; omega) | assumption))))) | ((first | refine CondP.split (fun hif => ?_) (fun hif => ?_) | refine Runs.part (fun hif => ?_) (fun hif => ?_)) <;> ((try simp only [hif]); (try simp only [decide_eq_true_eq, decide_eq_false_iff_not, Bool.not_eq_true, Bool.not_eq_false, Bool.not_eq_true', Bool.not_eq_false', beq_iff_eq, bne_iff_ne, bne_eq_false_iff_eq, beq_eq_false_iff_ne, ne_eq, Bool.and_eq_true, Bool.or_eq_true, Bool.or_eq_false_iff] at hif); (try (have h9 : _ = true := hif; simp only [h9])); (try (have h9 : _ = false := hif; simp only [h9])); (try simp (maxSteps := 9999999) (disch := omega) only [go_sem]); (try (refine And.intro ?_ ?_; (focus (first | omega | (simp only [go_sem]; done) | (simp; done) | (simp; omega) | assumption)))); (try (exfalso; omega; done))))))
  all_goals (apply Ret.det []; (focus (first | exact .inl rfl | exact .inr rfl)); (focus (simp (maxSteps := 9999999) (disch := omega) only [go_sem]; rfl)); (simp (maxSteps := 9999999) (disch := omega) only [go_sem]; (try (repeat' (first | done | trivial | rfl | exact leAs_rfl _ | decide | (refine And.intro ?_ ?_) | (simp; done) | omega | (simp; decide))))))
end Go.Proofs.Ytnadhhmlehifnaa
