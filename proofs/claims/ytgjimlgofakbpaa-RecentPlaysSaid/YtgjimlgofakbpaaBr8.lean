/- Contracts: the example of chapter 10; are acts few? -/
import Derived.Test.YtgjimlgofakbpaaBr7
namespace Go.Proofs.Ytgjimlgofakbpaa
set_option linter.unusedSimpArgs false
set_option linter.unusedVariables false
set_option maxHeartbeats 4000000
open Go Go.Am Go.RowKit
set_option maxRecDepth 100000
/- quidnunc/quidnunclaw10.speaks -/
noncomputable def c11_1 : ACode := .region false [⟨some 0, .move, [.c (.val (.bool false))], none⟩] [] [] [] false [] []
noncomputable def c11_3 : ACode := .region false [⟨some 6, .call 16, [], none⟩,
  ⟨some 1, .move, [.t 6], none⟩] [] [] [1] true [] []
noncomputable def c11_6 : ACode := .region false [⟨some 7, .move, [.t 1], none⟩,
  ⟨some 8, .eqP false, [.t 7, .c (.val (.pointer none))], none⟩] [] [] [1, 8] false [] []
noncomputable def c11_9 : ACode := .region false [⟨some 0, .move, [.c (.val (.bool false))], none⟩] [] [] [0] false [] []
noncomputable def c11_8 : ACode := .seq c11_9 .ret
noncomputable def c11_7 : ACode := .cond (.t 8) c11_8 .skip
noncomputable def c11_5 : ACode := .seq c11_6 c11_7
noncomputable def c11_11 : ACode := .region false [⟨some 9, .build [(.int .i64 0), (.int .i64 0)] [(0, 1)], [.c (.val (.int .i64 2))], none⟩,
  ⟨some 10, .build [(.int .i64 0), (.int .i64 0), (.string ⟨#[]⟩)] [(0, 2), (2, 1)], [.t 9, .c (.val (.string ⟨#[97]⟩))], none⟩,
  ⟨some 2, .alloc [(.int .i64 0), (.int .i64 0), (.string ⟨#[]⟩)], [], none⟩,
  ⟨none, .store 3, [.t 2, .t 10], none⟩] [] [] [1, 2] true [] []
noncomputable def c11_13 : ACode := .region false [⟨some 11, .build [(.int .i64 0), (.int .i64 0)] [(0, 1)], [.c (.val (.int .i64 1))], none⟩,
  ⟨some 12, .build [(.int .i64 0), (.int .i64 0), (.string ⟨#[]⟩)] [(0, 2), (2, 1)], [.t 11, .c (.val (.string ⟨#[98]⟩))], none⟩,
  ⟨some 3, .alloc [(.int .i64 0), (.int .i64 0), (.string ⟨#[]⟩)], [], none⟩,
  ⟨none, .store 3, [.t 3, .t 12], none⟩] [] [] [1, 2, 3] true [] []
noncomputable def c11_15 : ACode := .region false [⟨some 13, .move, [.t 1], none⟩,
  ⟨some 14, .load true 3, [.t 3], none⟩,
  ⟨some 15, .call 19, [.t 13, .t 14], none⟩] [] [] [1, 2, 3] true [] []
noncomputable def c11_17 : ACode := .region false [⟨some 16, .move, [.t 1], none⟩,
  ⟨some 17, .load true 3, [.t 2], none⟩,
  ⟨some 18, .call 19, [.t 16, .t 17], none⟩] [] [] [1, 2, 3] true [] []
noncomputable def c11_19 : ACode := .region true [⟨some 19, .move, [.t 1], none⟩,
  ⟨some 20, .call 27, [.t 19, .c (.val (.int .i64 9))], none⟩,
  ⟨some 21, .move, [.t 1], none⟩,
  ⟨some 22, .load true 3, [.t 2], none⟩,
  ⟨some 23, .call 29, [.t 21, .t 22, .c (.val (.int .i64 9))], none⟩,
  ⟨some 4, .move, [.t 20], none⟩,
  ⟨some 5, .move, [.t 23], none⟩] [] [] [2, 3, 4, 5] true [] []
noncomputable def c11_21 : ACode := .region true [⟨some 24, .move, [.t 4], none⟩,
  ⟨some 25, .len, [.t 24], none⟩,
  ⟨some 26, .bin .eql, [.t 25, .c (.val (.int .i64 2))], none⟩,
  ⟨some 27, .move, [.t 26], none⟩,
  ⟨some 28, .move, [.t 4], some (some 27, true)⟩,
  ⟨some 29, .ixS 3, [.t 28, .c (.val (.int .i64 0))], some (some 27, true)⟩,
  ⟨some 30, .load true 3, [.t 29], some (some 27, true)⟩,
  ⟨some 31, .load true 3, [.t 2], some (some 27, true)⟩,
  ⟨some 32, .eqA false [(0, 0), (1, 0), (2, 1)], [.t 30, .t 31], some (some 27, true)⟩,
  ⟨some 33, .pick, [.t 27, .t 32, .c (.val (.bool false))], none⟩,
  ⟨some 34, .move, [.t 33], none⟩,
  ⟨some 35, .move, [.t 4], some (some 34, true)⟩,
  ⟨some 36, .ixS 3, [.t 35, .c (.val (.int .i64 1))], some (some 34, true)⟩,
  ⟨some 37, .load true 3, [.t 36], some (some 34, true)⟩,
  ⟨some 38, .load true 3, [.t 3], some (some 34, true)⟩,
  ⟨some 39, .eqA false [(0, 0), (1, 0), (2, 1)], [.t 37, .t 38], some (some 34, true)⟩,
  ⟨some 40, .pick, [.t 34, .t 39, .c (.val (.bool false))], none⟩,
  ⟨some 41, .move, [.t 40], none⟩,
  ⟨some 42, .move, [.t 5], some (some 41, true)⟩,
  ⟨some 43, .len, [.t 42], some (some 41, true)⟩,
  ⟨some 44, .bin .eql, [.t 43, .c (.val (.int .i64 1))], some (some 41, true)⟩,
  ⟨some 45, .pick, [.t 41, .t 44, .c (.val (.bool false))], none⟩,
  ⟨some 46, .move, [.t 45], none⟩,
  ⟨some 47, .move, [.t 5], some (some 46, true)⟩,
  ⟨some 48, .ixS 3, [.t 47, .c (.val (.int .i64 0))], some (some 46, true)⟩,
  ⟨some 49, .load true 3, [.t 48], some (some 46, true)⟩,
  ⟨some 50, .load true 3, [.t 3], some (some 46, true)⟩,
  ⟨some 51, .eqA false [(0, 0), (1, 0), (2, 1)], [.t 49, .t 50], some (some 46, true)⟩,
  ⟨some 52, .pick, [.t 46, .t 51, .c (.val (.bool false))], none⟩,
  ⟨some 0, .move, [.t 52], none⟩] [] [] [0] false [] []
noncomputable def c11_20 : ACode := .seq c11_21 .ret
noncomputable def c11_18 : ACode := .seq c11_19 c11_20
noncomputable def c11_16 : ACode := .seq c11_17 c11_18
noncomputable def c11_14 : ACode := .seq c11_15 c11_16
noncomputable def c11_12 : ACode := .seq c11_13 c11_14
noncomputable def c11_10 : ACode := .seq c11_11 c11_12
noncomputable def c11_4 : ACode := .seq c11_5 c11_10
noncomputable def c11_2 : ACode := .seq c11_3 c11_4
noncomputable def c11_0 : ACode := .seq c11_1 c11_2
noncomputable def code11 : Code := (Try.f11.body).getD .skip
theorem c11_ok : compC Try.prog 53 code11 = some (strip c11_0) := by kernel_rfl
theorem res11_ok : Try.f11.results.toList.mapM (resC Try.prog) = some [(0, none)] := by kernel_rfl
/- quidnunc/quidnunclaw10.few -/
noncomputable def c15_1 : ACode := .region false [⟨some 2, .move, [.c (.val (.bool false))], none⟩] [] [] [0] false [] []
noncomputable def c15_4 : ACode := .region false [⟨some 5, .move, [.t 0], none⟩,
  ⟨some 6, .len, [.t 5], none⟩,
  ⟨some 7, .move, [.c (.val (.int .i64 0))], none⟩] [] [] [0, 5, 6, 7] false [] []
noncomputable def c15_8 : ACode := .region false [⟨some 8, .bin .lss, [.t 7, .t 6], none⟩] [] [] [0, 5, 6, 7, 8] false [] []
noncomputable def c15_10 : ACode := .cond (.t 8) .skip (.exit 0)
noncomputable def c15_14 : ACode := .region false [⟨some 9, .ixS 8, [.t 5, .t 7], none⟩,
  ⟨some 10, .load true 8, [.t 9], none⟩,
  ⟨some 4, .alloc [(.int .i64 0), (.int .i64 0), (.int .i64 0), (.string ⟨#[]⟩), (.int .i64 0), (.int .i64 0), (.string ⟨#[]⟩), (.int .i64 0)], [], none⟩,
  ⟨none, .store 8, [.t 4, .t 10], none⟩] [] [] [0, 4, 5, 6, 7] true [] []
noncomputable def c15_16 : ACode := .region false [⟨some 11, .addr 1, [.t 4], none⟩,
  ⟨some 12, .addr 2, [.t 11], none⟩,
  ⟨some 13, .load false 1, [.t 12], none⟩,
  ⟨some 14, .lenStr, [.t 13], none⟩,
  ⟨some 15, .bin .gtr, [.t 14, .c (.val (.int .i64 40))], none⟩,
  ⟨some 16, .move, [.t 15], none⟩,
  ⟨some 17, .addr 4, [.t 4], some (some 16, false)⟩,
  ⟨some 18, .addr 2, [.t 17], some (some 16, false)⟩,
  ⟨some 19, .load false 1, [.t 18], some (some 16, false)⟩,
  ⟨some 20, .lenStr, [.t 19], some (some 16, false)⟩,
  ⟨some 21, .bin .gtr, [.t 20, .c (.val (.int .i64 40))], some (some 16, false)⟩,
  ⟨some 22, .pick, [.t 16, .c (.val (.bool true)), .t 21], none⟩] [] [] [0, 5, 6, 7, 22] false [] []
noncomputable def c15_19 : ACode := .region false [⟨some 2, .move, [.c (.val (.bool false))], none⟩] [] [] [2] false [] []
noncomputable def c15_18 : ACode := .seq c15_19 .ret
noncomputable def c15_17 : ACode := .cond (.t 22) c15_18 .skip
noncomputable def c15_15 : ACode := .seq c15_16 c15_17
noncomputable def c15_13 : ACode := .seq c15_14 c15_15
noncomputable def c15_12 : ACode := .block 1 c15_13
noncomputable def c15_20 : ACode := .region false [⟨some 23, .bin .add, [.t 7, .c (.val (.int .i64 1))], none⟩,
  ⟨some 7, .move, [.t 23], none⟩] [] [] [0, 5, 6, 7] false [] []
noncomputable def c15_11 : ACode := .seq c15_12 c15_20
noncomputable def c15_9 : ACode := .seq c15_10 c15_11
noncomputable def c15_7 : ACode := .seq c15_8 c15_9
noncomputable def c15_6 : ACode := .loop c15_7
noncomputable def c15_5 : ACode := .block 0 c15_6
noncomputable def c15_3 : ACode := .seq c15_4 c15_5
noncomputable def c15_22 : ACode := .region false [⟨some 24, .move, [.t 0], none⟩,
  ⟨some 25, .len, [.t 24], none⟩,
  ⟨some 26, .bin .leq, [.t 25, .c (.val (.int .i64 60))], none⟩,
  ⟨some 2, .move, [.t 26], none⟩] [] [] [2] false [] []
noncomputable def c15_21 : ACode := .seq c15_22 .ret
noncomputable def c15_2 : ACode := .seq c15_3 c15_21
noncomputable def c15_0 : ACode := .seq c15_1 c15_2
noncomputable def code15 : Code := (Try.f15.body).getD .skip
theorem c15_ok : compC Try.prog 27 code15 = some (strip c15_0) := by kernel_rfl
theorem res15_ok : Try.f15.results.toList.mapM (resC Try.prog) = some [(2, none)] := by kernel_rfl
def spA : Mk := ⟨⟨2, 0⟩, ⟨#[97]⟩⟩
def spB : Mk := ⟨⟨1, 0⟩, ⟨#[98]⟩⟩
theorem sp_ab : latM spA spB = true := by unfold latM; rfl
theorem sp_ba : latM spB spA = false := latM_asym sp_ab
theorem spx_1 : putX ⟨[], []⟩ spB = ⟨[spB], [spB]⟩ := rfl
theorem spx_d : dropF [spB] spA.key = [spB] := by decide
theorem spx_2 : putX ⟨[spB], [spB]⟩ spA = ⟨[spB, spA], [spA, spB]⟩ := by
  have h : rankM [spB] spA = 0 := by simp [rankM, List.takeWhile_cons, sp_ba]
  unfold putX
  simp only [spx_d]
  unfold insM
  rw [h]
  rfl
theorem spx_r : RiseM [spA, spB] := by
  unfold RiseM
  simp [sp_ab]
theorem spx_n : belowM [spA, spB] zeroM 9 = [spA, spB] := by
  unfold belowM cutM
  rw [if_pos rfl]
  rfl
theorem spx_b : belowM [spA, spB] spA 9 = [spB] := by
  have h1 : rankM [spA, spB] spA = 0 := rankM_at spx_r (i := 0) (by decide)
  have h2 : hasM [spA, spB] spA = true := hasM_at spx_r (i := 0) (by decide)
  have h3 : ¬ spA = zeroM := by decide
  unfold belowM cutM
  rw [if_neg h3, h1, if_pos h2]
  rfl
theorem ix0_ok : (⟨[], []⟩ : Ix).ok := ⟨List.Pairwise.nil, List.Perm.refl _, List.nodup_nil⟩
theorem speaks10_any : ACall Try.prog 11 [] [] (Det (Bo true) []) := by
  have c := mnew_any
  have d := mput_any ⟨[], []⟩ spB ix0_ok (by decide)
  have o1 := ix0_ok.put spB
  rw [spx_1] at d o1
  have e := mput_any ⟨[spB], [spB]⟩ spA o1 (by decide)
  have o2 := o1.put spA
  rw [spx_2] at e o2
  have f := mnewest_any ⟨[spB, spA], [spA, spB]⟩ 9 o2.rise (by decide)
  have g := mbelow_any ⟨[spB, spA], [spA, spB]⟩ spA 9 o2.rise (by decide)
  rw [spx_n] at f
  rw [spx_b] at g
  simp only [spA, spB] at d e f g
  have hbe : ∀ x : ByteArray, (x == x) = true := fun x => (_root_.Go.MapKept.bytes_beq _ _).2 rfl
  have hr := rm_ren 0
  have he := esI_ren
  refine ACall.startA c11_ok Try.func11 rfl Try.ntmps11 (by kernel_rfl) res11_ok rfl rfl rfl ?_; simp (maxSteps := 9999999) (disch := omega) only [go_sem]
  refine AWpA.dummy ?_
  (repeat' (first | refine AWpA.seq ?_ | refine AWpA.block ?_ | (with_reducible refine CondP.tt ?_) | (with_reducible refine CondP.ff ?_) | refine AWpA.condv (by simp (maxSteps := 9999999) (disch := omega) only [go_sem, hbe, hr, he, rm_nil, rm_cons]; rfl) ?_ | ((first | (apply AWpA.region; (focus (simp (maxSteps := 9999999) (disch := omega) only [go_sem, hbe, hr, he, rm_nil, rm_cons]; rfl))) | (apply AWpA.draw [] [] follows; (focus (first | rfl | decide)); (focus (simp (maxSteps := 9999999) (disch := omega) only [go_sem, hbe, hr, he, rm_nil, rm_cons]; rfl)); (focus (simp (maxSteps := 9999999) (disch := omega) only [go_sem, hbe, hr, he, rm_nil, rm_cons]; first | done | trivial)); (focus (simp (maxSteps := 9999999) (disch := omega) only [go_sem, hbe, hr, he, rm_nil, rm_cons]; rfl))) | (apply TailK.go; (focus (simp (maxSteps := 9999999) (disch := omega) only [go_sem, hbe, hr, he, rm_nil, rm_cons]; rfl))) | refine AWpA.skip ?_ | refine AWpA.exit ?_ | refine AWpA.ret ?_ | (with_reducible refine ARoundsA.succ ?_) | ((first | refine Runs.kt (by assumption) (fun h9 => ?_) | refine Runs.kf (by assumption) (fun h9 => ?_) | refine Runs.nt (by assumption) (fun h9 => ?_) | refine Runs.nf (by assumption) (fun h9 => ?_) | refine CondP.ht (by assumption) (fun h9 => ?_) | refine CondP.hf (by assumption) (fun h9 => ?_) | refine CondP.nt (by assumption) (fun h9 => ?_) | refine CondP.nf (by assumption) (fun h9 => ?_)); (try simp only [h9]); clear h9) | ((first | (with_reducible apply CallG.plain1 [] (c)) | (with_reducible apply CallG.draw1 [] (c))); (focus ((try refine And.intro (leAs_of_eq rfl) ?_); (try refine And.intro (leOL_of_eq rfl) ?_); simp (maxSteps := 9999999) (disch := omega) only [go_sem, hbe, hr, he, rm_nil, rm_cons]; first | done | (repeat' (first | rfl | (refine And.intro ?_ ?_))))); (focus (simp (maxSteps := 9999999) (disch := omega) only [go_sem, hbe, hr, he, rm_nil, rm_cons]; rfl))) | ((first | (with_reducible apply CallG.plain1 [17, 18, 0] (d)) | (with_reducible apply CallG.draw1 [17, 18, 0] (d))); (focus ((try refine And.intro (leAs_of_eq rfl) ?_); (try refine And.intro (leOL_of_eq rfl) ?_); simp (maxSteps := 9999999) (disch := omega) only [go_sem, hbe, hr, he, rm_nil, rm_cons]; first | done | (repeat' (first | rfl | (refine And.intro ?_ ?_))))); (focus (simp (maxSteps := 9999999) (disch := omega) only [go_sem, hbe, hr, he, rm_nil, rm_cons]; rfl))) | ((first | (with_reducible apply CallG.plain1 [17, 18, 241] (e)) | (with_reducible apply CallG.draw1 [17, 18, 241] (e))); (focus ((try refine And.intro (leAs_of_eq rfl) ?_); (try refine And.intro (leOL_of_eq rfl) ?_); simp (maxSteps := 9999999) (disch := omega) only [go_sem, hbe, hr, he, rm_nil, rm_cons]; first | done | (repeat' (first | rfl | (refine And.intro ?_ ?_))))); (focus (simp (maxSteps := 9999999) (disch := omega) only [go_sem, hbe, hr, he, rm_nil, rm_cons]; rfl))) | ((first | (with_reducible apply CallG.plain1 [17, 18, 289] (f)) | (with_reducible apply CallG.draw1 [17, 18, 289] (f))); (focus ((try refine And.intro (leAs_of_eq rfl) ?_); (try refine And.intro (leOL_of_eq rfl) ?_); simp (maxSteps := 9999999) (disch := omega) only [go_sem, hbe, hr, he, rm_nil, rm_cons]; first | done | (repeat' (first | rfl | (refine And.intro ?_ ?_))))); (focus (simp (maxSteps := 9999999) (disch := omega) only [go_sem, hbe, hr, he, rm_nil, rm_cons]; rfl))) | ((first | (with_reducible apply CallG.plain1 [17, 18, 289] (g)) | (with_reducible apply CallG.draw1 [17, 18, 289] (g))); (focus ((try refine And.intro (leAs_of_eq rfl) ?_); (try refine And.intro (leOL_of_eq rfl) ?_); simp (maxSteps := 9999999) (disch := omega) only [go_sem, hbe, hr, he, rm_nil, rm_cons]; first | done | (repeat' (first | rfl | (refine And.intro ?_ ?_))))); (focus (simp (maxSteps := 9999999) (disch := omega) only [go_sem, hbe, hr, he, rm_nil, rm_cons]; rfl)))); (try simp (maxSteps := 9999999) (disch := omega) only [go_sem, hbe, hr, he, rm_nil, rm_cons]); (try (refine And.intro ?_ ?_; (focus (first | omega | (simp only [go_sem]; done) | (simp; done) | (simp; omega) | assumption))))) | ((first | refine CondP.split (fun hif => ?_) (fun hif => ?_) | refine Runs.part (fun hif => ?_) (fun hif => ?_)) <;> ((try simp only [hif]); (try simp only [decide_eq_true_eq, decide_eq_false_iff_not, Bool.not_eq_true, Bool.not_eq_false, Bool.not_eq_true', Bool.not_eq_false', beq_iff_eq, bne_iff_ne, bne_eq_false_iff_eq, beq_eq_false_iff_ne, ne_eq, Bool.and_eq_true, Bool.or_eq_true, Bool.or_eq_false_iff] at hif); (try (have h9 : _ = true := hif; simp only [h9])); (try (have h9 : _ = false := hif; simp only [h9])); (try simp (maxSteps := 9999999) (disch := omega) only [go_sem, hbe, hr, he, rm_nil, rm_cons]); (try (refine And.intro ?_ ?_; (focus (first | omega | (simp only [go_sem]; done) | (simp; done) | (simp; omega) | assumption)))); (try (exfalso; omega; done))))))
  (apply Ret.det []; (focus (first | exact .inl rfl | exact .inr rfl)); (focus (simp (maxSteps := 9999999) (disch := omega) only [go_sem]; rfl)); (simp (maxSteps := 9999999) (disch := omega) only [go_sem]; (try (repeat' (first | done | trivial | rfl | exact leAs_rfl _ | decide | (refine And.intro ?_ ?_) | (simp; done) | omega | (simp; decide))))))
/-- An act. -/
structure CaM where
  kind : Int
  mark : Mk
  below : Mk
  n : Int
abbrev CmL (a : CaM) : List AV := [I a.kind, I a.mark.act.c, I a.mark.act.s, Str a.mark.key, I a.below.act.c, I a.below.act.s, Str a.below.key, I a.n]
def okM (a : CaM) : Bool := decide ((a.mark.key.size : Int) ≤ 40) && decide ((a.below.key.size : Int) ≤ 40)
def fewM (l : List CaM) : Bool := l.all okM && decide (l.length ≤ 60)
theorem few10_any (off : Nat) (l : List CaM) (hl : l.length ≤ 9223372036854775807) : ACall Try.prog 15 [.sl 0 off l.length 8 none] [.cells true (rowsC off CmL l)] (Det (Bo (fewM l)) [.cells true (rowsC off CmL l)]) := by
  have hr : ∀ ρ, renL ρ (rowsC off CmL l) = rowsC off CmL l := fun ρ => rowsC_ren (fun ρ x => by simp [renL, ren]) ρ l
  have hL : (rowsC off CmL l).length = off + l.length * 8 := rowsC_len (f := CmL) (k := 8) (fun _ => rfl) l
  refine ACall.startA c15_ok Try.func15 rfl Try.ntmps15 (by kernel_rfl) res15_ok rfl rfl rfl ?_; simp (maxSteps := 9999999) (disch := omega) only [go_sem]
  (repeat' (first | refine AWpA.seq ?_ | refine AWpA.block ?_ | (with_reducible refine CondP.tt ?_) | (with_reducible refine CondP.ff ?_) | refine AWpA.condv (by simp (maxSteps := 9999999) (disch := omega) only [go_sem, hr]; rfl) ?_ | ((first | (apply AWpA.region; (focus (simp (maxSteps := 9999999) (disch := omega) only [go_sem, hr]; rfl))) | (apply AWpA.draw [] [] follows; (focus (first | rfl | decide)); (focus (simp (maxSteps := 9999999) (disch := omega) only [go_sem, hr]; rfl)); (focus (simp (maxSteps := 9999999) (disch := omega) only [go_sem, hr]; first | done | trivial)); (focus (simp (maxSteps := 9999999) (disch := omega) only [go_sem, hr]; rfl))) | (apply TailK.go; (focus (simp (maxSteps := 9999999) (disch := omega) only [go_sem, hr]; rfl))) | refine AWpA.skip ?_ | refine AWpA.exit ?_ | refine AWpA.ret ?_ | (with_reducible refine ARoundsA.succ ?_) | ((first | refine Runs.kt (by assumption) (fun h9 => ?_) | refine Runs.kf (by assumption) (fun h9 => ?_) | refine Runs.nt (by assumption) (fun h9 => ?_) | refine Runs.nf (by assumption) (fun h9 => ?_) | refine CondP.ht (by assumption) (fun h9 => ?_) | refine CondP.hf (by assumption) (fun h9 => ?_) | refine CondP.nt (by assumption) (fun h9 => ?_) | refine CondP.nf (by assumption) (fun h9 => ?_)); (try simp only [h9]); clear h9)); (try simp (maxSteps := 9999999) (disch := omega) only [go_sem, hr]); (try (refine And.intro ?_ ?_; (focus (first | omega | (simp only [go_sem]; done) | (simp; done) | (simp; omega) | assumption))))) | ((first | refine CondP.split (fun hif => ?_) (fun hif => ?_) | refine Runs.part (fun hif => ?_) (fun hif => ?_)) <;> ((try simp only [hif]); (try simp only [decide_eq_true_eq, decide_eq_false_iff_not, Bool.not_eq_true, Bool.not_eq_false, Bool.not_eq_true', Bool.not_eq_false', beq_iff_eq, bne_iff_ne, bne_eq_false_iff_eq, beq_eq_false_iff_ne, ne_eq, Bool.and_eq_true, Bool.or_eq_true, Bool.or_eq_false_iff] at hif); (try (have h9 : _ = true := hif; simp only [h9])); (try (have h9 : _ = false := hif; simp only [h9])); (try simp (maxSteps := 9999999) (disch := omega) only [go_sem, hr]); (try (refine And.intro ?_ ?_; (focus (first | omega | (simp only [go_sem]; done) | (simp; done) | (simp; omega) | assumption)))); (try (exfalso; omega; done))))))
  (apply AWpA.loopL (fun i : Nat => [(0, .sl 0 off l.length 8 none), (5, .sl 0 off l.length 8 none), (6, I l.length), (7, I i)]) (fun i => [.cells true (rowsC off CmL l)]) (fun i => l.length - i) (fun i => i ≤ l.length ∧ ∀ q (h : q < l.length), q < i → okM l[q] = true) (0) [0]; rotate_left; (focus (simp (maxSteps := 9999999) (disch := omega) only [go_sem, hr]; (try (repeat' (first | done | trivial | rfl | exact leAs_rfl _ | decide | (refine And.intro ?_ ?_) | (simp; done) | omega | (simp; decide)))))); rotate_right)
  · exact ⟨Nat.zero_le _, fun q h hq => by omega⟩
  rintro i ⟨hi, hq⟩
  (try simp only at hi hq)
  by_cases hil : i < l.length
  · have g1 : ((i : Int) < (l.length : Int)) = True := eq_true (by omega)
    have hat : ((rowsC off CmL l).drop (off + i * 8)).take 8 = CmL l[i] := rowsC_at (f := CmL) (k := 8) (fun _ => rfl) l i hil
    have hna : okM l[i] = false → fewM l = false := fun h => by
      unfold fewM
      have : l.all okM = false := List.all_eq_false.2 ⟨l[i], List.getElem_mem hil, by simp [h]⟩
      rw [this]; rfl
    have hqn : okM l[i] = true → ∀ q (h : q < l.length), q < i + 1 → okM l[q] = true := fun h q hl hq' => by
      rcases Nat.lt_or_eq_of_le (Nat.le_of_lt_succ hq') with h' | rfl
      · exact hq q hl h'
      · exact h
    clear hq
    generalize l[i] = x at *
    by_cases h1 : (40 : Int) < x.mark.key.size
    · rw [hna (by unfold okM; rw [decide_eq_false (by omega)]; rfl)]
      have g2 : ((40 : Int) < x.mark.key.size) = True := eq_true h1
      clear hna hqn
      (try simp (maxSteps := 9999999) (disch := omega) only [go_sem])
      (repeat' (first | refine AWpA.seq ?_ | refine AWpA.block ?_ | (with_reducible refine CondP.tt ?_) | (with_reducible refine CondP.ff ?_) | refine AWpA.condv (by simp (maxSteps := 9999999) (disch := omega) only [go_sem, hr, hL, g1, g2, hat]; rfl) ?_ | ((first | (apply AWpA.region; (focus (simp (maxSteps := 9999999) (disch := omega) only [go_sem, hr, hL, g1, g2, hat]; rfl))) | (apply AWpA.draw [] [] follows; (focus (first | rfl | decide)); (focus (simp (maxSteps := 9999999) (disch := omega) only [go_sem, hr, hL, g1, g2, hat]; rfl)); (focus (simp (maxSteps := 9999999) (disch := omega) only [go_sem, hr, hL, g1, g2, hat]; first | done | trivial)); (focus (simp (maxSteps := 9999999) (disch := omega) only [go_sem, hr, hL, g1, g2, hat]; rfl))) | (apply TailK.go; (focus (simp (maxSteps := 9999999) (disch := omega) only [go_sem, hr, hL, g1, g2, hat]; rfl))) | refine AWpA.skip ?_ | refine AWpA.exit ?_ | refine AWpA.ret ?_ | (with_reducible refine ARoundsA.succ ?_) | ((first | refine Runs.kt (by assumption) (fun h9 => ?_) | refine Runs.kf (by assumption) (fun h9 => ?_) | refine Runs.nt (by assumption) (fun h9 => ?_) | refine Runs.nf (by assumption) (fun h9 => ?_) | refine CondP.ht (by assumption) (fun h9 => ?_) | refine CondP.hf (by assumption) (fun h9 => ?_) | refine CondP.nt (by assumption) (fun h9 => ?_) | refine CondP.nf (by assumption) (fun h9 => ?_)); (try simp only [h9]); clear h9)); (try simp (maxSteps := 9999999) (disch := omega) only [go_sem, hr, hL, g1, g2, hat]); (try (refine And.intro ?_ ?_; (focus (first | omega | (simp only [go_sem]; done) | (simp; done) | (simp; omega) | assumption))))) | ((first | refine CondP.split (fun hif => ?_) (fun hif => ?_) | refine Runs.part (fun hif => ?_) (fun hif => ?_)) <;> ((try simp only [hif]); (try simp only [decide_eq_true_eq, decide_eq_false_iff_not, Bool.not_eq_true, Bool.not_eq_false, Bool.not_eq_true', Bool.not_eq_false', beq_iff_eq, bne_iff_ne, bne_eq_false_iff_eq, beq_eq_false_iff_ne, ne_eq, Bool.and_eq_true, Bool.or_eq_true, Bool.or_eq_false_iff] at hif); (try (have h9 : _ = true := hif; simp only [h9])); (try (have h9 : _ = false := hif; simp only [h9])); (try simp (maxSteps := 9999999) (disch := omega) only [go_sem, hr, hL, g1, g2, hat]); (try (refine And.intro ?_ ?_; (focus (first | omega | (simp only [go_sem]; done) | (simp; done) | (simp; omega) | assumption)))); (try (exfalso; omega; done))))))
      (apply Ret.det [0]; (focus (first | exact .inl rfl | exact .inr rfl)); (focus (simp (maxSteps := 9999999) (disch := omega) only [go_sem, hr]; rfl)); (simp (maxSteps := 9999999) (disch := omega) only [go_sem, hr]; (try (repeat' (first | done | trivial | rfl | exact leAs_rfl _ | decide | (refine And.intro ?_ ?_) | (simp; done) | omega | (simp; decide))))))
    · have g2 : ((40 : Int) < x.mark.key.size) = False := eq_false h1
      by_cases h2 : (40 : Int) < x.below.key.size
      · rw [hna (by unfold okM; rw [decide_eq_true (show (x.mark.key.size : Int) ≤ 40 by omega), decide_eq_false (by omega)]; rfl)]
        have g3 : ((40 : Int) < x.below.key.size) = True := eq_true h2
        clear hna hqn
        (try simp (maxSteps := 9999999) (disch := omega) only [go_sem])
        (repeat' (first | refine AWpA.seq ?_ | refine AWpA.block ?_ | (with_reducible refine CondP.tt ?_) | (with_reducible refine CondP.ff ?_) | refine AWpA.condv (by simp (maxSteps := 9999999) (disch := omega) only [go_sem, hr, hL, g1, g2, g3, hat]; rfl) ?_ | ((first | (apply AWpA.region; (focus (simp (maxSteps := 9999999) (disch := omega) only [go_sem, hr, hL, g1, g2, g3, hat]; rfl))) | (apply AWpA.draw [] [] follows; (focus (first | rfl | decide)); (focus (simp (maxSteps := 9999999) (disch := omega) only [go_sem, hr, hL, g1, g2, g3, hat]; rfl)); (focus (simp (maxSteps := 9999999) (disch := omega) only [go_sem, hr, hL, g1, g2, g3, hat]; first | done | trivial)); (focus (simp (maxSteps := 9999999) (disch := omega) only [go_sem, hr, hL, g1, g2, g3, hat]; rfl))) | (apply TailK.go; (focus (simp (maxSteps := 9999999) (disch := omega) only [go_sem, hr, hL, g1, g2, g3, hat]; rfl))) | refine AWpA.skip ?_ | refine AWpA.exit ?_ | refine AWpA.ret ?_ | (with_reducible refine ARoundsA.succ ?_) | ((first | refine Runs.kt (by assumption) (fun h9 => ?_) | refine Runs.kf (by assumption) (fun h9 => ?_) | refine Runs.nt (by assumption) (fun h9 => ?_) | refine Runs.nf (by assumption) (fun h9 => ?_) | refine CondP.ht (by assumption) (fun h9 => ?_) | refine CondP.hf (by assumption) (fun h9 => ?_) | refine CondP.nt (by assumption) (fun h9 => ?_) | refine CondP.nf (by assumption) (fun h9 => ?_)); (try simp only [h9]); clear h9)); (try simp (maxSteps := 9999999) (disch := omega) only [go_sem, hr, hL, g1, g2, g3, hat]); (try (refine And.intro ?_ ?_; (focus (first | omega | (simp only [go_sem]; done) | (simp; done) | (simp; omega) | assumption))))) | ((first | refine CondP.split (fun hif => ?_) (fun hif => ?_) | refine Runs.part (fun hif => ?_) (fun hif => ?_)) <;> ((try simp only [hif]); (try simp only [decide_eq_true_eq, decide_eq_false_iff_not, Bool.not_eq_true, Bool.not_eq_false, Bool.not_eq_true', Bool.not_eq_false', beq_iff_eq, bne_iff_ne, bne_eq_false_iff_eq, beq_eq_false_iff_ne, ne_eq, Bool.and_eq_true, Bool.or_eq_true, Bool.or_eq_false_iff] at hif); (try (have h9 : _ = true := hif; simp only [h9])); (try (have h9 : _ = false := hif; simp only [h9])); (try simp (maxSteps := 9999999) (disch := omega) only [go_sem, hr, hL, g1, g2, g3, hat]); (try (refine And.intro ?_ ?_; (focus (first | omega | (simp only [go_sem]; done) | (simp; done) | (simp; omega) | assumption)))); (try (exfalso; omega; done))))))
        (apply Ret.det [0]; (focus (first | exact .inl rfl | exact .inr rfl)); (focus (simp (maxSteps := 9999999) (disch := omega) only [go_sem, hr]; rfl)); (simp (maxSteps := 9999999) (disch := omega) only [go_sem, hr]; (try (repeat' (first | done | trivial | rfl | exact leAs_rfl _ | decide | (refine And.intro ?_ ?_) | (simp; done) | omega | (simp; decide))))))
      · have g3 : ((40 : Int) < x.below.key.size) = False := eq_false h2
        have hqn := hqn (by unfold okM; rw [decide_eq_true (show (x.mark.key.size : Int) ≤ 40 by omega), decide_eq_true (show (x.below.key.size : Int) ≤ 40 by omega)]; rfl)
        clear hna
        (try simp (maxSteps := 9999999) (disch := omega) only [go_sem])
        (repeat' (first | refine AWpA.seq ?_ | refine AWpA.block ?_ | (with_reducible refine CondP.tt ?_) | (with_reducible refine CondP.ff ?_) | refine AWpA.condv (by simp (maxSteps := 9999999) (disch := omega) only [go_sem, hr, hL, g1, g2, g3, hat]; rfl) ?_ | ((first | (apply AWpA.region; (focus (simp (maxSteps := 9999999) (disch := omega) only [go_sem, hr, hL, g1, g2, g3, hat]; rfl))) | (apply AWpA.draw [] [] follows; (focus (first | rfl | decide)); (focus (simp (maxSteps := 9999999) (disch := omega) only [go_sem, hr, hL, g1, g2, g3, hat]; rfl)); (focus (simp (maxSteps := 9999999) (disch := omega) only [go_sem, hr, hL, g1, g2, g3, hat]; first | done | trivial)); (focus (simp (maxSteps := 9999999) (disch := omega) only [go_sem, hr, hL, g1, g2, g3, hat]; rfl))) | (apply TailK.go; (focus (simp (maxSteps := 9999999) (disch := omega) only [go_sem, hr, hL, g1, g2, g3, hat]; rfl))) | refine AWpA.skip ?_ | refine AWpA.exit ?_ | refine AWpA.ret ?_ | (with_reducible refine ARoundsA.succ ?_) | ((first | refine Runs.kt (by assumption) (fun h9 => ?_) | refine Runs.kf (by assumption) (fun h9 => ?_) | refine Runs.nt (by assumption) (fun h9 => ?_) | refine Runs.nf (by assumption) (fun h9 => ?_) | refine CondP.ht (by assumption) (fun h9 => ?_) | refine CondP.hf (by assumption) (fun h9 => ?_) | refine CondP.nt (by assumption) (fun h9 => ?_) | refine CondP.nf (by assumption) (fun h9 => ?_)); (try simp only [h9]); clear h9)); (try simp (maxSteps := 9999999) (disch := omega) only [go_sem, hr, hL, g1, g2, g3, hat]); (try (refine And.intro ?_ ?_; (focus (first | omega | (simp only [go_sem]; done) | (simp; done) | (simp; omega) | assumption))))) | ((first | refine CondP.split (fun hif => ?_) (fun hif => ?_) | refine Runs.part (fun hif => ?_) (fun hif => ?_)) <;> ((try simp only [hif]); (try simp only [decide_eq_true_eq, decide_eq_false_iff_not, Bool.not_eq_true, Bool.not_eq_false, Bool.not_eq_true', Bool.not_eq_false', beq_iff_eq, bne_iff_ne, bne_eq_false_iff_eq, beq_eq_false_iff_ne, ne_eq, Bool.and_eq_true, Bool.or_eq_true, Bool.or_eq_false_iff] at hif); (try (have h9 : _ = true := hif; simp only [h9])); (try (have h9 : _ = false := hif; simp only [h9])); (try simp (maxSteps := 9999999) (disch := omega) only [go_sem, hr, hL, g1, g2, g3, hat]); (try (refine And.intro ?_ ?_; (focus (first | omega | (simp only [go_sem]; done) | (simp; done) | (simp; omega) | assumption)))); (try (exfalso; omega; done))))))
        (apply Back.to (i + 1) [0]; (focus ((try simp (maxSteps := 9999999) (disch := omega) only [go_sem, hr]); first | done | omega)); rotate_left; (focus (simp (maxSteps := 9999999) (disch := omega) only [go_sem, hr]; (try (repeat' (first | done | trivial | rfl | exact leAs_rfl _ | decide | (refine And.intro ?_ ?_) | (simp; done) | omega | (simp; decide)))))))
        exact ⟨by omega, hqn⟩
  · obtain rfl : i = l.length := by omega
    have g1 : ((l.length : Int) < (l.length : Int)) = False := eq_false (by omega)
    have hall : l.all okM = true := List.all_eq_true.2 fun x hx => by
      obtain ⟨q, hql, rfl⟩ := List.getElem_of_mem hx
      exact hq q hql hql
    have hf : fewM l = decide ((l.length : Int) ≤ 60) := by unfold fewM; rw [hall, Bool.true_and]; congr 1; simp; omega
    rw [hf]
    clear hq
    (try simp (maxSteps := 9999999) (disch := omega) only [go_sem])
    (repeat' (first | refine AWpA.seq ?_ | refine AWpA.block ?_ | (with_reducible refine CondP.tt ?_) | (with_reducible refine CondP.ff ?_) | refine AWpA.condv (by simp (maxSteps := 9999999) (disch := omega) only [go_sem, hr, hL, g1]; rfl) ?_ | ((first | (apply AWpA.region; (focus (simp (maxSteps := 9999999) (disch := omega) only [go_sem, hr, hL, g1]; rfl))) | (apply AWpA.draw [] [] follows; (focus (first | rfl | decide)); (focus (simp (maxSteps := 9999999) (disch := omega) only [go_sem, hr, hL, g1]; rfl)); (focus (simp (maxSteps := 9999999) (disch := omega) only [go_sem, hr, hL, g1]; first | done | trivial)); (focus (simp (maxSteps := 9999999) (disch := omega) only [go_sem, hr, hL, g1]; rfl))) | (apply TailK.go; (focus (simp (maxSteps := 9999999) (disch := omega) only [go_sem, hr, hL, g1]; rfl))) | refine AWpA.skip ?_ | refine AWpA.exit ?_ | refine AWpA.ret ?_ | (with_reducible refine ARoundsA.succ ?_) | ((first | refine Runs.kt (by assumption) (fun h9 => ?_) | refine Runs.kf (by assumption) (fun h9 => ?_) | refine Runs.nt (by assumption) (fun h9 => ?_) | refine Runs.nf (by assumption) (fun h9 => ?_) | refine CondP.ht (by assumption) (fun h9 => ?_) | refine CondP.hf (by assumption) (fun h9 => ?_) | refine CondP.nt (by assumption) (fun h9 => ?_) | refine CondP.nf (by assumption) (fun h9 => ?_)); (try simp only [h9]); clear h9)); (try simp (maxSteps := 9999999) (disch := omega) only [go_sem, hr, hL, g1]); (try (refine And.intro ?_ ?_; (focus (first | omega | (simp only [go_sem]; done) | (simp; done) | (simp; omega) | assumption))))) | ((first | refine CondP.split (fun hif => ?_) (fun hif => ?_) | refine Runs.part (fun hif => ?_) (fun hif => ?_)) <;> ((try simp only [hif]); (try simp only [decide_eq_true_eq, decide_eq_false_iff_not, Bool.not_eq_true, Bool.not_eq_false, Bool.not_eq_true', Bool.not_eq_false', beq_iff_eq, bne_iff_ne, bne_eq_false_iff_eq, beq_eq_false_iff_ne, ne_eq, Bool.and_eq_true, Bool.or_eq_true, Bool.or_eq_false_iff] at hif); (try (have h9 : _ = true := hif; simp only [h9])); (try (have h9 : _ = false := hif; simp only [h9])); (try simp (maxSteps := 9999999) (disch := omega) only [go_sem, hr, hL, g1]); (try (refine And.intro ?_ ?_; (focus (first | omega | (simp only [go_sem]; done) | (simp; done) | (simp; omega) | assumption)))); (try (exfalso; omega; done))))))
    (apply Ret.det [0]; (focus (first | exact .inl rfl | exact .inr rfl)); (focus (simp (maxSteps := 9999999) (disch := omega) only [go_sem, hr]; rfl)); (simp (maxSteps := 9999999) (disch := omega) only [go_sem, hr]; (try (repeat' (first | done | trivial | rfl | exact leAs_rfl _ | decide | (refine And.intro ?_ ?_) | (simp; done) | omega | (simp; decide))))))
end Go.Proofs.Ytgjimlgofakbpaa
