/- Contracts: entries that are decoded. -/
import Derived.Test.YteggjhihpjjloaaAe1
namespace Go.Proofs.Yteggjhihpjjloaa
set_option linter.unusedSimpArgs false
set_option linter.unusedVariables false
set_option maxHeartbeats 4000000
open Go Go.Am Go.RowKit Go.ChangeShapes Go.WideShapes Go.ChangeAt
set_option maxRecDepth 100000
/- quidnunc/entry.Decode -/
noncomputable def c73_1 : ACode := .region false [⟨some 2, .alloc [(.string ⟨#[]⟩), (.string ⟨#[]⟩), (.bool false), (.int .i64 0), (.int .i64 0), (.int .i64 0), (.int .i64 0), (.int .i64 0), (.int .i64 0)], [], none⟩,
  ⟨some 3, .move, [.c (.val (.int .i64 0))], none⟩] [] [] [0, 2] true [] []
noncomputable def c73_3 : ACode := .region false [⟨some 7, .move, [.t 0], none⟩,
  ⟨some 8, .call 57, [.t 7], none⟩,
  ⟨some 4, .move, [.t 8], none⟩] [] [] [2, 4] true [] []
noncomputable def c73_5 : ACode := .region false [⟨some 9, .move, [.t 4], none⟩,
  ⟨some 10, .call 75, [.t 9], none⟩,
  ⟨some 5, .alloc [(.string ⟨#[]⟩), (.string ⟨#[]⟩), (.bool false), (.int .i64 0), (.int .i64 0), (.int .i64 0), (.int .i64 0), (.int .i64 0), (.int .i64 0)], [], none⟩,
  ⟨none, .store 9, [.t 5, .t 10], none⟩] [] [] [2, 4, 5] true [] []
noncomputable def c73_8 : ACode := .region false [⟨some 11, .move, [.t 4], none⟩,
  ⟨some 12, .call 70, [.t 11], none⟩,
  ⟨some 6, .move, [.t 12], none⟩] [] [] [2, 5, 6] true [] []
noncomputable def c73_10 : ACode := .region false [⟨some 13, .move, [.t 6], none⟩,
  ⟨some 14, .bin .neq, [.t 13, .c (.val (.int .i64 0))], none⟩] [] [] [2, 5, 6, 14] false [] []
noncomputable def c73_13 : ACode := .region false [⟨some 15, .build [(.string ⟨#[]⟩), (.string ⟨#[]⟩), (.bool false), (.int .i64 0), (.int .i64 0), (.int .i64 0), (.int .i64 0), (.int .i64 0), (.int .i64 0)] [], [], none⟩,
  ⟨some 16, .move, [.t 6], none⟩,
  ⟨none, .store 9, [.t 2, .t 15], none⟩,
  ⟨some 3, .move, [.t 16], none⟩] [] [] [2, 3] true [] []
noncomputable def c73_12 : ACode := .seq c73_13 .ret
noncomputable def c73_11 : ACode := .cond (.t 14) c73_12 .skip
noncomputable def c73_9 : ACode := .seq c73_10 c73_11
noncomputable def c73_7 : ACode := .seq c73_8 c73_9
noncomputable def c73_15 : ACode := .region false [⟨some 17, .load true 9, [.t 5], none⟩,
  ⟨none, .store 9, [.t 2, .t 17], none⟩,
  ⟨some 3, .move, [.c (.val (.int .i64 0))], none⟩] [] [] [2, 3] true [] []
noncomputable def c73_14 : ACode := .seq c73_15 .ret
noncomputable def c73_6 : ACode := .seq c73_7 c73_14
noncomputable def c73_4 : ACode := .seq c73_5 c73_6
noncomputable def c73_2 : ACode := .seq c73_3 c73_4
noncomputable def c73_0 : ACode := .seq c73_1 c73_2
noncomputable def code73 : Code := (Try.f73.body).getD .skip
theorem c73_ok : compC Try.prog 18 code73 = some (strip c73_0) := by kernel_rfl
theorem res73_ok : Try.f73.results.toList.mapM (resC Try.prog) = some [(2, some (true, 9)), (3, none)] := by kernel_rfl
/- quidnunc/quidnuncref05.Decode -/
noncomputable def c74_1 : ACode := .region false [⟨some 2, .alloc [(.string ⟨#[]⟩), (.string ⟨#[]⟩), (.bool false), (.int .i64 0), (.int .i64 0), (.int .i64 0), (.int .i64 0), (.int .i64 0), (.int .i64 0)], [], none⟩,
  ⟨some 3, .move, [.c (.val (.int .i64 0))], none⟩] [] [] [0, 2] true [] []
noncomputable def c74_3 : ACode := .region false [⟨some 7, .move, [.t 0], none⟩,
  ⟨some 8, .build [(.slice none 0 0), (.int .i64 0), (.int .i64 0)] [(0, 1)], [.t 7], none⟩,
  ⟨some 9, .call 76, [.t 8], none⟩,
  ⟨some 6, .move, [.t 9], none⟩,
  ⟨some 10, .ext 0, [.t 6], none⟩,
  ⟨some 11, .ext 1, [.t 6], none⟩,
  ⟨some 4, .alloc [(.slice none 0 0), (.int .i64 0), (.int .i64 0)], [], none⟩,
  ⟨some 5, .alloc [(.string ⟨#[]⟩), (.string ⟨#[]⟩), (.bool false), (.int .i64 0), (.int .i64 0), (.int .i64 0), (.int .i64 0), (.int .i64 0), (.int .i64 0)], [], none⟩,
  ⟨none, .store 3, [.t 4, .t 10], none⟩,
  ⟨none, .store 9, [.t 5, .t 11], none⟩] [] [] [2, 4, 5] true [] []
noncomputable def c74_5 : ACode := .region false [⟨some 12, .load true 3, [.t 4], none⟩,
  ⟨some 13, .call 69, [.t 12], none⟩,
  ⟨none, .store 3, [.t 4, .t 13], none⟩] [] [] [2, 4, 5] true [] []
noncomputable def c74_8 : ACode := .region false [⟨some 14, .addr 2, [.t 4], none⟩,
  ⟨some 15, .load false 1, [.t 14], none⟩,
  ⟨some 16, .bin .neq, [.t 15, .c (.val (.int .i64 0))], none⟩] [] [] [2, 4, 5, 16] false [] []
noncomputable def c74_11 : ACode := .region true [⟨some 17, .build [(.string ⟨#[]⟩), (.string ⟨#[]⟩), (.bool false), (.int .i64 0), (.int .i64 0), (.int .i64 0), (.int .i64 0), (.int .i64 0), (.int .i64 0)] [], [], none⟩,
  ⟨some 18, .addr 2, [.t 4], none⟩,
  ⟨some 19, .load false 1, [.t 18], none⟩,
  ⟨none, .store 9, [.t 2, .t 17], none⟩,
  ⟨some 3, .move, [.t 19], none⟩] [] [] [2, 3] true [2] []
noncomputable def c74_10 : ACode := .seq c74_11 .ret
noncomputable def c74_9 : ACode := .cond (.t 16) c74_10 .skip
noncomputable def c74_7 : ACode := .seq c74_8 c74_9
noncomputable def c74_13 : ACode := .region false [⟨some 20, .load true 9, [.t 5], none⟩,
  ⟨none, .store 9, [.t 2, .t 20], none⟩,
  ⟨some 3, .move, [.c (.val (.int .i64 0))], none⟩] [] [] [2, 3] true [] []
noncomputable def c74_12 : ACode := .seq c74_13 .ret
noncomputable def c74_6 : ACode := .seq c74_7 c74_12
noncomputable def c74_4 : ACode := .seq c74_5 c74_6
noncomputable def c74_2 : ACode := .seq c74_3 c74_4
noncomputable def c74_0 : ACode := .seq c74_1 c74_2
noncomputable def code74 : Code := (Try.f74.body).getD .skip
theorem c74_ok : compC Try.prog 21 code74 = some (strip c74_0) := by kernel_rfl
theorem res74_ok : Try.f74.results.toList.mapM (resC Try.prog) = some [(2, some (true, 9)), (3, none)] := by kernel_rfl
def decC (L : List Int) : Cu := doneC L (enC L ⟨0, 0⟩)
def decV (L : List Int) : En := if (decC L).e = 0 then enV L ⟨0, 0⟩ else noEn
theorem edec_any {P : List AV} {off : Nat} {L : List Int} (s : Seg P off L) (hb : bytesB L) : ACall Try.prog 73 [.sl 0 off L.length 1 none] [.cells true P] (Det (.tup [EnA (decV L), I (decC L).e]) [.cells true P]) := by
  have r1 := read_any s
  have r2 := etake_any s.small hb ⟨0, 0⟩ (Nat.zero_le _)
  have r3 := rdone_any L (enC L ⟨0, 0⟩)
  have hv : decV L = if (doneC L (enC L ⟨0, 0⟩)).e = 0 then enV L ⟨0, 0⟩ else noEn := rfl
  rw [hv]
  clear hv
  unfold decC
  generalize enC L ⟨0, 0⟩ = c1 at *
  generalize enV L ⟨0, 0⟩ = v at *
  generalize doneC L c1 = c2 at *
  by_cases h : c2.e = 0
  · rw [if_pos h]
    refine ACall.startA c73_ok Try.func73 rfl Try.ntmps73 (by kernel_rfl) res73_ok rfl rfl rfl ?_; simp (maxSteps := 9999999) (disch := omega) only [go_sem]
    (repeat' (first | refine AWpA.seq ?_ | refine AWpA.block ?_ | (with_reducible refine CondP.tt ?_) | (with_reducible refine CondP.ff ?_) | refine AWpA.condv (by simp (maxSteps := 9999999) (disch := omega) only [go_sem, h, s.ren]; rfl) ?_ | ((first | (apply AWpA.region; (focus (simp (maxSteps := 9999999) (disch := omega) only [go_sem, h, s.ren]; rfl))) | (apply AWpA.draw [] follows; (focus (simp (maxSteps := 9999999) (disch := omega) only [go_sem, h, s.ren]; rfl)); (focus (simp (maxSteps := 9999999) (disch := omega) only [go_sem, h, s.ren]; first | done | trivial)); (focus (simp (maxSteps := 9999999) (disch := omega) only [go_sem, h, s.ren]; rfl))) | (apply TailK.go; (focus (simp (maxSteps := 9999999) (disch := omega) only [go_sem, h, s.ren]; rfl))) | refine AWpA.skip ?_ | refine AWpA.exit ?_ | refine AWpA.ret ?_ | (with_reducible refine ARoundsA.succ ?_) | ((first | refine Runs.kt (by assumption) (fun h9 => ?_) | refine Runs.kf (by assumption) (fun h9 => ?_) | refine Runs.nt (by assumption) (fun h9 => ?_) | refine Runs.nf (by assumption) (fun h9 => ?_) | refine CondP.ht (by assumption) (fun h9 => ?_) | refine CondP.hf (by assumption) (fun h9 => ?_) | refine CondP.nt (by assumption) (fun h9 => ?_) | refine CondP.nf (by assumption) (fun h9 => ?_)); (try simp only [h9]); clear h9) | ((first | (with_reducible apply CallG.plain1 [0] (r1)) | (with_reducible apply CallG.plain1 [49, 50] (r2)) | (with_reducible apply CallG.plain1 [49, 50] (r3)) | (with_reducible apply CallG.draw1 [0] (r1)) | (with_reducible apply CallG.draw1 [49, 50] (r2)) | (with_reducible apply CallG.draw1 [49, 50] (r3))); (focus ((try refine And.intro (leAs_of_eq rfl) ?_); (try refine And.intro (leOL_of_eq rfl) ?_); simp (maxSteps := 9999999) (disch := omega) only [go_sem, h, s.ren]; first | done | (repeat' (first | rfl | (refine And.intro ?_ ?_))))); (focus (simp (maxSteps := 9999999) (disch := omega) only [go_sem, h, s.ren]; rfl)))); (try simp (maxSteps := 9999999) (disch := omega) only [go_sem, h, s.ren]); (try (refine And.intro ?_ ?_; (focus (first | omega | (simp only [go_sem]; done) | (simp; done) | (simp; omega) | assumption))))) | ((first | refine CondP.split (fun hif => ?_) (fun hif => ?_) | refine Runs.part (fun hif => ?_) (fun hif => ?_)) <;> ((try simp only [hif]); (try simp only [decide_eq_true_eq, decide_eq_false_iff_not, Bool.not_eq_true, Bool.not_eq_false, Bool.not_eq_true', Bool.not_eq_false', beq_iff_eq, bne_iff_ne, bne_eq_false_iff_eq, beq_eq_false_iff_ne, ne_eq, Bool.and_eq_true, Bool.or_eq_true, Bool.or_eq_false_iff] at hif); (try (have h9 : _ = true := hif; simp only [h9])); (try (have h9 : _ = false := hif; simp only [h9])); (try simp (maxSteps := 9999999) (disch := omega) only [go_sem, h, s.ren]); (try (refine And.intro ?_ ?_; (focus (first | omega | (simp only [go_sem]; done) | (simp; done) | (simp; omega) | assumption)))); (try (exfalso; omega; done))))))
    all_goals (apply Ret.det [0]; (focus (first | exact .inl rfl | exact .inr rfl)); (focus (simp (maxSteps := 9999999) (disch := omega) only [go_sem, h, s.ren]; rfl)); (simp (maxSteps := 9999999) (disch := omega) only [go_sem, h, s.ren]; (try (repeat' (first | done | trivial | rfl | exact leAs_rfl _ | decide | (refine And.intro ?_ ?_) | (simp; done) | omega | (simp; decide))))))
  · rw [if_neg h]
    refine ACall.startA c73_ok Try.func73 rfl Try.ntmps73 (by kernel_rfl) res73_ok rfl rfl rfl ?_; simp (maxSteps := 9999999) (disch := omega) only [go_sem]
    (repeat' (first | refine AWpA.seq ?_ | refine AWpA.block ?_ | (with_reducible refine CondP.tt ?_) | (with_reducible refine CondP.ff ?_) | refine AWpA.condv (by simp (maxSteps := 9999999) (disch := omega) only [go_sem, h, s.ren]; rfl) ?_ | ((first | (apply AWpA.region; (focus (simp (maxSteps := 9999999) (disch := omega) only [go_sem, h, s.ren]; rfl))) | (apply AWpA.draw [] follows; (focus (simp (maxSteps := 9999999) (disch := omega) only [go_sem, h, s.ren]; rfl)); (focus (simp (maxSteps := 9999999) (disch := omega) only [go_sem, h, s.ren]; first | done | trivial)); (focus (simp (maxSteps := 9999999) (disch := omega) only [go_sem, h, s.ren]; rfl))) | (apply TailK.go; (focus (simp (maxSteps := 9999999) (disch := omega) only [go_sem, h, s.ren]; rfl))) | refine AWpA.skip ?_ | refine AWpA.exit ?_ | refine AWpA.ret ?_ | (with_reducible refine ARoundsA.succ ?_) | ((first | refine Runs.kt (by assumption) (fun h9 => ?_) | refine Runs.kf (by assumption) (fun h9 => ?_) | refine Runs.nt (by assumption) (fun h9 => ?_) | refine Runs.nf (by assumption) (fun h9 => ?_) | refine CondP.ht (by assumption) (fun h9 => ?_) | refine CondP.hf (by assumption) (fun h9 => ?_) | refine CondP.nt (by assumption) (fun h9 => ?_) | refine CondP.nf (by assumption) (fun h9 => ?_)); (try simp only [h9]); clear h9) | ((first | (with_reducible apply CallG.plain1 [0] (r1)) | (with_reducible apply CallG.plain1 [49, 50] (r2)) | (with_reducible apply CallG.plain1 [49, 50] (r3)) | (with_reducible apply CallG.draw1 [0] (r1)) | (with_reducible apply CallG.draw1 [49, 50] (r2)) | (with_reducible apply CallG.draw1 [49, 50] (r3))); (focus ((try refine And.intro (leAs_of_eq rfl) ?_); (try refine And.intro (leOL_of_eq rfl) ?_); simp (maxSteps := 9999999) (disch := omega) only [go_sem, h, s.ren]; first | done | (repeat' (first | rfl | (refine And.intro ?_ ?_))))); (focus (simp (maxSteps := 9999999) (disch := omega) only [go_sem, h, s.ren]; rfl)))); (try simp (maxSteps := 9999999) (disch := omega) only [go_sem, h, s.ren]); (try (refine And.intro ?_ ?_; (focus (first | omega | (simp only [go_sem]; done) | (simp; done) | (simp; omega) | assumption))))) | ((first | refine CondP.split (fun hif => ?_) (fun hif => ?_) | refine Runs.part (fun hif => ?_) (fun hif => ?_)) <;> ((try simp only [hif]); (try simp only [decide_eq_true_eq, decide_eq_false_iff_not, Bool.not_eq_true, Bool.not_eq_false, Bool.not_eq_true', Bool.not_eq_false', beq_iff_eq, bne_iff_ne, bne_eq_false_iff_eq, beq_eq_false_iff_ne, ne_eq, Bool.and_eq_true, Bool.or_eq_true, Bool.or_eq_false_iff] at hif); (try (have h9 : _ = true := hif; simp only [h9])); (try (have h9 : _ = false := hif; simp only [h9])); (try simp (maxSteps := 9999999) (disch := omega) only [go_sem, h, s.ren]); (try (refine And.intro ?_ ?_; (focus (first | omega | (simp only [go_sem]; done) | (simp; done) | (simp; omega) | assumption)))); (try (exfalso; omega; done))))))
    all_goals (apply Ret.det [0]; (focus (first | exact .inl rfl | exact .inr rfl)); (focus (simp (maxSteps := 9999999) (disch := omega) only [go_sem, h, s.ren]; rfl)); (simp (maxSteps := 9999999) (disch := omega) only [go_sem, h, s.ren]; (try (repeat' (first | done | trivial | rfl | exact leAs_rfl _ | decide | (refine And.intro ?_ ?_) | (simp; done) | omega | (simp; decide))))))
theorem cdec_any {P : List AV} {off : Nat} {L : List Int} (s : Seg P off L) (hb : bytesB L) : ACall Try.prog 74 [.sl 0 off L.length 1 none] [.cells true P] (Det (.tup [EnA (decV L), I (decC L).e]) [.cells true P]) := by
  have r2 := ctakeE_any s hb ⟨0, 0⟩ (Nat.zero_le _)
  have hle : (enC L ⟨0, 0⟩).a ≤ L.length := enC_le hb (Nat.zero_le _)
  have r3 := cdone_any s (enC L ⟨0, 0⟩) hle
  have hv : decV L = if (doneC L (enC L ⟨0, 0⟩)).e = 0 then enV L ⟨0, 0⟩ else noEn := rfl
  rw [hv]
  clear hv
  unfold decC
  generalize enC L ⟨0, 0⟩ = c1 at *
  generalize enV L ⟨0, 0⟩ = v at *
  generalize doneC L c1 = c2 at *
  by_cases h : c2.e = 0
  · rw [if_pos h]
    refine ACall.startA c74_ok Try.func74 rfl Try.ntmps74 (by kernel_rfl) res74_ok rfl rfl rfl ?_; simp (maxSteps := 9999999) (disch := omega) only [go_sem]
    (repeat' (first | refine AWpA.seq ?_ | refine AWpA.block ?_ | (with_reducible refine CondP.tt ?_) | (with_reducible refine CondP.ff ?_) | refine AWpA.condv (by simp (maxSteps := 9999999) (disch := omega) only [go_sem, h, s.ren]; rfl) ?_ | ((first | (apply AWpA.region; (focus (simp (maxSteps := 9999999) (disch := omega) only [go_sem, h, s.ren]; rfl))) | (apply AWpA.draw [] follows; (focus (simp (maxSteps := 9999999) (disch := omega) only [go_sem, h, s.ren]; rfl)); (focus (simp (maxSteps := 9999999) (disch := omega) only [go_sem, h, s.ren]; first | done | trivial)); (focus (simp (maxSteps := 9999999) (disch := omega) only [go_sem, h, s.ren]; rfl))) | (apply TailK.go; (focus (simp (maxSteps := 9999999) (disch := omega) only [go_sem, h, s.ren]; rfl))) | refine AWpA.skip ?_ | refine AWpA.exit ?_ | refine AWpA.ret ?_ | (with_reducible refine ARoundsA.succ ?_) | ((first | refine Runs.kt (by assumption) (fun h9 => ?_) | refine Runs.kf (by assumption) (fun h9 => ?_) | refine Runs.nt (by assumption) (fun h9 => ?_) | refine Runs.nf (by assumption) (fun h9 => ?_) | refine CondP.ht (by assumption) (fun h9 => ?_) | refine CondP.hf (by assumption) (fun h9 => ?_) | refine CondP.nt (by assumption) (fun h9 => ?_) | refine CondP.nf (by assumption) (fun h9 => ?_)); (try simp only [h9]); clear h9) | ((first | (with_reducible apply CallG.plain1 [0] (r2)) | (with_reducible apply CallG.plain1 [0] (r3)) | (with_reducible apply CallG.draw1 [0] (r2)) | (with_reducible apply CallG.draw1 [0] (r3))); (focus ((try refine And.intro (leAs_of_eq rfl) ?_); (try refine And.intro (leOL_of_eq rfl) ?_); simp (maxSteps := 9999999) (disch := omega) only [go_sem, h, s.ren]; first | done | (repeat' (first | rfl | (refine And.intro ?_ ?_))))); (focus (simp (maxSteps := 9999999) (disch := omega) only [go_sem, h, s.ren]; rfl)))); (try simp (maxSteps := 9999999) (disch := omega) only [go_sem, h, s.ren]); (try (refine And.intro ?_ ?_; (focus (first | omega | (simp only [go_sem]; done) | (simp; done) | (simp; omega) | assumption))))) | ((first | refine CondP.split (fun hif => ?_) (fun hif => ?_) | refine Runs.part (fun hif => ?_) (fun hif => ?_)) <;> ((try simp only [hif]); (try simp only [decide_eq_true_eq, decide_eq_false_iff_not, Bool.not_eq_true, Bool.not_eq_false, Bool.not_eq_true', Bool.not_eq_false', beq_iff_eq, bne_iff_ne, bne_eq_false_iff_eq, beq_eq_false_iff_ne, ne_eq, Bool.and_eq_true, Bool.or_eq_true, Bool.or_eq_false_iff] at hif); (try (have h9 : _ = true := hif; simp only [h9])); (try (have h9 : _ = false := hif; simp only [h9])); (try simp (maxSteps := 9999999) (disch := omega) only [go_sem, h, s.ren]); (try (refine And.intro ?_ ?_; (focus (first | omega | (simp only [go_sem]; done) | (simp; done) | (simp; omega) | assumption)))); (try (exfalso; omega; done))))))
    all_goals (apply Ret.det [0]; (focus (first | exact .inl rfl | exact .inr rfl)); (focus (simp (maxSteps := 9999999) (disch := omega) only [go_sem, h, s.ren]; rfl)); (simp (maxSteps := 9999999) (disch := omega) only [go_sem, h, s.ren]; (try (repeat' (first | done | trivial | rfl | exact leAs_rfl _ | decide | (refine And.intro ?_ ?_) | (simp; done) | omega | (simp; decide))))))
  · rw [if_neg h]
    refine ACall.startA c74_ok Try.func74 rfl Try.ntmps74 (by kernel_rfl) res74_ok rfl rfl rfl ?_; simp (maxSteps := 9999999) (disch := omega) only [go_sem]
    (repeat' (first | refine AWpA.seq ?_ | refine AWpA.block ?_ | (with_reducible refine CondP.tt ?_) | (with_reducible refine CondP.ff ?_) | refine AWpA.condv (by simp (maxSteps := 9999999) (disch := omega) only [go_sem, h, s.ren]; rfl) ?_ | ((first | (apply AWpA.region; (focus (simp (maxSteps := 9999999) (disch := omega) only [go_sem, h, s.ren]; rfl))) | (apply AWpA.draw [] follows; (focus (simp (maxSteps := 9999999) (disch := omega) only [go_sem, h, s.ren]; rfl)); (focus (simp (maxSteps := 9999999) (disch := omega) only [go_sem, h, s.ren]; first | done | trivial)); (focus (simp (maxSteps := 9999999) (disch := omega) only [go_sem, h, s.ren]; rfl))) | (apply TailK.go; (focus (simp (maxSteps := 9999999) (disch := omega) only [go_sem, h, s.ren]; rfl))) | refine AWpA.skip ?_ | refine AWpA.exit ?_ | refine AWpA.ret ?_ | (with_reducible refine ARoundsA.succ ?_) | ((first | refine Runs.kt (by assumption) (fun h9 => ?_) | refine Runs.kf (by assumption) (fun h9 => ?_) | refine Runs.nt (by assumption) (fun h9 => ?_) | refine Runs.nf (by assumption) (fun h9 => ?_) | refine CondP.ht (by assumption) (fun h9 => ?_) | refine CondP.hf (by assumption) (fun h9 => ?_) | refine CondP.nt (by assumption) (fun h9 => ?_) | refine CondP.nf (by assumption) (fun h9 => ?_)); (try simp only [h9]); clear h9) | ((first | (with_reducible apply CallG.plain1 [0] (r2)) | (with_reducible apply CallG.plain1 [0] (r3)) | (with_reducible apply CallG.draw1 [0] (r2)) | (with_reducible apply CallG.draw1 [0] (r3))); (focus ((try refine And.intro (leAs_of_eq rfl) ?_); (try refine And.intro (leOL_of_eq rfl) ?_); simp (maxSteps := 9999999) (disch := omega) only [go_sem, h, s.ren]; first | done | (repeat' (first | rfl | (refine And.intro ?_ ?_))))); (focus (simp (maxSteps := 9999999) (disch := omega) only [go_sem, h, s.ren]; rfl)))); (try simp (maxSteps := 9999999) (disch := omega) only [go_sem, h, s.ren]); (try (refine And.intro ?_ ?_; (focus (first | omega | (simp only [go_sem]; done) | (simp; done) | (simp; omega) | assumption))))) | ((first | refine CondP.split (fun hif => ?_) (fun hif => ?_) | refine Runs.part (fun hif => ?_) (fun hif => ?_)) <;> ((try simp only [hif]); (try simp only [decide_eq_true_eq, decide_eq_false_iff_not, Bool.not_eq_true, Bool.not_eq_false, Bool.not_eq_true', Bool.not_eq_false', beq_iff_eq, bne_iff_ne, bne_eq_false_iff_eq, beq_eq_false_iff_ne, ne_eq, Bool.and_eq_true, Bool.or_eq_true, Bool.or_eq_false_iff] at hif); (try (have h9 : _ = true := hif; simp only [h9])); (try (have h9 : _ = false := hif; simp only [h9])); (try simp (maxSteps := 9999999) (disch := omega) only [go_sem, h, s.ren]); (try (refine And.intro ?_ ?_; (focus (first | omega | (simp only [go_sem]; done) | (simp; done) | (simp; omega) | assumption)))); (try (exfalso; omega; done))))))
    all_goals (apply Ret.det [0]; (focus (first | exact .inl rfl | exact .inr rfl)); (focus (simp (maxSteps := 9999999) (disch := omega) only [go_sem, h, s.ren]; rfl)); (simp (maxSteps := 9999999) (disch := omega) only [go_sem, h, s.ren]; (try (repeat' (first | done | trivial | rfl | exact leAs_rfl _ | decide | (refine And.intro ?_ ?_) | (simp; done) | omega | (simp; decide))))))
end Go.Proofs.Yteggjhihpjjloaa
