/- Contracts: the example of chapter 01. -/
import Derived.Test.YteggjhihpjjloaaAo6
namespace Go.Proofs.Yteggjhihpjjloaa
set_option linter.unusedSimpArgs false
set_option linter.unusedVariables false
set_option maxHeartbeats 4000000
open Go Go.Am
set_option maxRecDepth 100000
/- quidnunc/quidnunclaw01.speaks -/
noncomputable def c33_1 : ACode := .region false [⟨some 0, .move, [.c (.val (.bool false))], none⟩] [] [] [] false [] []
noncomputable def c33_3 : ACode := .region false [⟨some 1, .alloc [(.slice none 0 0), (.int .i64 0)], [], none⟩] [] [] [1] true [] []
noncomputable def c33_5 : ACode := .region false [⟨some 2, .call 35, [.t 1, .c (.val (.int .u64 258)), .c (.val (.int .i64 2))], none⟩,
  ⟨some 3, .call 39, [.t 2, .c (.val (.string ⟨#[97, 98]⟩))], none⟩] [] [] [1] true [] []
noncomputable def c33_7 : ACode := .region false [⟨some 4, .call 41, [.t 1], none⟩,
  ⟨some 5, .bin .eql, [.t 4, .c (.val (.int .i64 0))], none⟩,
  ⟨some 6, .move, [.t 5], none⟩,
  ⟨some 7, .call 43, [.t 1], some (some 6, true)⟩,
  ⟨some 8, .buildSl 1 5 [(.int .u8 0)] [(0, 1), (1, 1), (2, 1), (3, 1), (4, 1)], [.c (.val (.int .u8 2)), .c (.val (.int .u8 1)), .c (.val (.int .u8 2)), .c (.val (.int .u8 97)), .c (.val (.int .u8 98))], some (some 6, true)⟩,
  ⟨some 9, .call 42, [.t 7, .t 8], some (some 6, true)⟩,
  ⟨some 10, .pick, [.t 6, .t 9, .c (.val (.bool false))], none⟩,
  ⟨some 0, .move, [.t 10], none⟩] [] [] [0] true [] []
noncomputable def c33_6 : ACode := .seq c33_7 .ret
noncomputable def c33_4 : ACode := .seq c33_5 c33_6
noncomputable def c33_2 : ACode := .seq c33_3 c33_4
noncomputable def c33_0 : ACode := .seq c33_1 c33_2
noncomputable def code33 : Code := (Try.f33.body).getD .skip
theorem c33_ok : compC Try.prog 11 code33 = some (strip c33_0) := by kernel_rfl
theorem res33_ok : Try.f33.results.toList.mapM (resC Try.prog) = some [(0, none)] := by kernel_rfl
theorem sp1 : numL 258 2 0 [] = [2, 1] := by decide +kernel
theorem sp2 : numE 258 2 0 = 0 := by decide +kernel
theorem sp3 : textL (⟨#[97, 98]⟩) 0 [2, 1] = [2, 1, 2, 97, 98] := by decide +kernel
theorem sp4 : textE (⟨#[97, 98]⟩) 0 = 0 := by decide +kernel
theorem sp5 : ((⟨(toB [2, 1, 2, 97, 98]).toArray⟩ : ByteArray) == ⟨(toB [2, 1, 2, 97, 98]).toArray⟩) = true := by decide +kernel
theorem speaks_any : ACall Try.prog 33 [] [] (Det (Bo true) []) := by
  have h1 := number_any [] (by simp) 0 258 2 (by decide)
  rw [sp1, sp2, bA_nil] at h1
  have h2 := text_any [2, 1] (by simp) 0 ⟨#[97, 98]⟩
  rw [sp3, sp4] at h2
  have h3 := bytes_any [2, 1, 2, 97, 98] 0 (by simp)
  have h4 := same_any (Seg.all [2, 1, 2, 97, 98] (by simp)) (Seg.all [2, 1, 2, 97, 98] (by simp))
  rw [sp5] at h4
  have h5 := werr_any 0
  simp only [List.length_cons, List.length_nil, Nat.zero_add, Nat.reduceAdd, bA_cons, bA_nil] at h1 h2 h3 h4
  refine ACall.startA c33_ok Try.func33 rfl Try.ntmps33 (by kernel_rfl) res33_ok rfl rfl rfl ?_; simp (maxSteps := 9999999) (disch := omega) only [go_sem]
  refine AWpA.dummy ?_
  (repeat' (first | refine AWpA.seq ?_ | refine AWpA.block ?_ | (with_reducible refine CondP.tt ?_) | (with_reducible refine CondP.ff ?_) | refine AWpA.condv (by simp (maxSteps := 9999999) (disch := omega) only [go_sem]; rfl) ?_ | ((first | (apply AWpA.region; (focus (simp (maxSteps := 9999999) (disch := omega) only [go_sem]; rfl))) | (apply AWpA.draw [] follows; (focus (simp (maxSteps := 9999999) (disch := omega) only [go_sem]; rfl)); (focus (simp (maxSteps := 9999999) (disch := omega) only [go_sem]; first | done | trivial)); (focus (simp (maxSteps := 9999999) (disch := omega) only [go_sem]; rfl))) | (apply TailK.go; (focus (simp (maxSteps := 9999999) (disch := omega) only [go_sem]; rfl))) | refine AWpA.skip ?_ | refine AWpA.exit ?_ | refine AWpA.ret ?_ | (with_reducible refine ARoundsA.succ ?_) | ((first | refine Runs.kt (by assumption) (fun h9 => ?_) | refine Runs.kf (by assumption) (fun h9 => ?_) | refine Runs.nt (by assumption) (fun h9 => ?_) | refine Runs.nf (by assumption) (fun h9 => ?_) | refine CondP.ht (by assumption) (fun h9 => ?_) | refine CondP.hf (by assumption) (fun h9 => ?_) | refine CondP.nt (by assumption) (fun h9 => ?_) | refine CondP.nf (by assumption) (fun h9 => ?_)); (try simp only [h9]); clear h9) | ((first | (with_reducible apply CallG.plain1 [17, 0] (h1)) | (with_reducible apply CallG.plain1 [17, 33] (h2)) | (with_reducible apply CallG.plain1 [17] (h5)) | (with_reducible apply CallG.plain1 [17, 49] (h3)) | (with_reducible apply CallG.plain1 [113, 129] (h4)) | (with_reducible apply CallG.draw1 [17, 0] (h1)) | (with_reducible apply CallG.draw1 [17, 33] (h2)) | (with_reducible apply CallG.draw1 [17] (h5)) | (with_reducible apply CallG.draw1 [17, 49] (h3)) | (with_reducible apply CallG.draw1 [113, 129] (h4))); (focus ((try refine And.intro (leAs_of_eq rfl) ?_); (try refine And.intro (leOL_of_eq rfl) ?_); simp (maxSteps := 9999999) (disch := omega) only [go_sem]; first | done | (repeat' (first | rfl | (refine And.intro ?_ ?_))))); (focus (simp (maxSteps := 9999999) (disch := omega) only [go_sem]; rfl)))); (try simp (maxSteps := 9999999) (disch := omega) only [go_sem]); (try (refine And.intro ?_ ?_; (focus (first | omega | (simp only [go_sem]; done) | (simp; done) | (simp; omega) | assumption))))) | ((first | refine CondP.split (fun hif => ?_) (fun hif => ?_) | refine Runs.part (fun hif => ?_) (fun hif => ?_)) <;> ((try simp only [hif]); (try simp only [decide_eq_true_eq, decide_eq_false_iff_not, Bool.not_eq_true, Bool.not_eq_false, Bool.not_eq_true', Bool.not_eq_false', beq_iff_eq, bne_iff_ne, bne_eq_false_iff_eq, beq_eq_false_iff_ne, ne_eq, Bool.and_eq_true, Bool.or_eq_true, Bool.or_eq_false_iff] at hif); (try (have h9 : _ = true := hif; simp only [h9])); (try (have h9 : _ = false := hif; simp only [h9])); (try simp (maxSteps := 9999999) (disch := omega) only [go_sem]); (try (refine And.intro ?_ ?_; (focus (first | omega | (simp only [go_sem]; done) | (simp; done) | (simp; omega) | assumption)))); (try (exfalso; omega; done))))))
  (apply Ret.det []; (focus (first | exact .inl rfl | exact .inr rfl)); (focus (simp (maxSteps := 9999999) (disch := omega) only [go_sem]; rfl)); (simp (maxSteps := 9999999) (disch := omega) only [go_sem]; (try (repeat' (first | done | trivial | rfl | exact leAs_rfl _ | decide | (refine And.intro ?_ ?_) | (simp; done) | omega | (simp; decide))))))
end Go.Proofs.Yteggjhihpjjloaa
