/- Contracts: frames are encoded. -/
import Derived.Test.YthbpdmlbfnjoiaaAf1
namespace Go.Proofs.Ythbpdmlbfnjoiaa
set_option linter.unusedSimpArgs false
set_option linter.unusedVariables false
set_option maxHeartbeats 4000000
open Go Go.Am Go.RowKit Go.Crc
set_option maxRecDepth 100000
theorem frH_len (f t k : Int) (n : Nat) : (frH f t k n).length = 5 := rfl
theorem chk_ok {f t k : Int} {n : Nat} (h : chkF f t k n = 0) : (0 ≤ f ∧ f < 12) ∧ (0 ≤ t ∧ t < 12) ∧ (1 ≤ k ∧ k ≤ 31) ∧ n ≤ 1024 := by
  unfold chkF at h
  split at h
  · rename_i h1
    split at h
    · rename_i h2; exact ⟨h1.1, h1.2.1, h1.2.2, h2⟩
    · cases h
  · cases h
theorem frH_bytes {f t k : Int} {l : List Int} (h : chkF f t k l.length = 0) (hb : ∀ x ∈ l, 0 ≤ x ∧ x ≤ 255) : ∀ x ∈ frH f t k l.length ++ l, 0 ≤ x ∧ x ≤ 255 := by
  obtain ⟨h1, h2, h3, h4⟩ := chk_ok h
  intro x hx
  rcases List.mem_append.1 hx with hx | hx
  · simp only [frH, List.mem_cons, List.not_mem_nil, or_false] at hx
    rcases hx with rfl | rfl | rfl | rfl | rfl <;> omega
  · exact hb x hx
/- (*quidnunc/frame.Codec).Encode -/
noncomputable def c17_1 : ACode := .region false [⟨some 3, .box 0, [.t 1], none⟩,
  ⟨some 4, .move, [.c (.val (.slice none 0 0))], none⟩,
  ⟨some 5, .move, [.c (.val (.int .i64 0))], none⟩] [] [] [0, 3] true [] []
noncomputable def c17_4 : ACode := .region false [⟨some 10, .load true 4, [.t 3], none⟩,
  ⟨some 11, .call 21, [.t 10], none⟩,
  ⟨some 6, .move, [.t 11], none⟩] [] [] [0, 3, 6] true [] []
noncomputable def c17_6 : ACode := .region false [⟨some 12, .move, [.t 6], none⟩,
  ⟨some 13, .bin .neq, [.t 12, .c (.val (.int .i64 0))], none⟩] [] [] [0, 3, 6, 13] false [] []
noncomputable def c17_9 : ACode := .region false [⟨some 14, .move, [.t 6], none⟩,
  ⟨some 4, .move, [.c (.val (.slice none 0 0))], none⟩,
  ⟨some 5, .move, [.t 14], none⟩] [] [] [4, 5] false [] []
noncomputable def c17_8 : ACode := .seq c17_9 .ret
noncomputable def c17_7 : ACode := .cond (.t 13) c17_8 .skip
noncomputable def c17_5 : ACode := .seq c17_6 c17_7
noncomputable def c17_3 : ACode := .seq c17_4 c17_5
noncomputable def c17_11 : ACode := .region false [⟨some 7, .alloc [(.slice none 0 0), (.int .i64 0)], [], none⟩] [] [] [0, 3, 7] true [] []
noncomputable def c17_14 : ACode := .region false [⟨some 15, .addr 0, [.t 3], none⟩,
  ⟨some 16, .load false 1, [.t 15], none⟩,
  ⟨some 17, .addr 1, [.t 3], none⟩,
  ⟨some 18, .load false 1, [.t 17], none⟩,
  ⟨some 19, .addr 2, [.t 3], none⟩,
  ⟨some 20, .load false 1, [.t 19], none⟩,
  ⟨some 21, .build [(.int .i64 0), (.int .i64 0), (.int .i64 0)] [(0, 1), (1, 1), (2, 1)], [.t 16, .t 18, .t 20], none⟩,
  ⟨some 22, .move, [.c (.val (.int .i64 0))], none⟩] [] [] [0, 3, 7, 21, 22] false [] []
noncomputable def c17_18 : ACode := .region false [⟨some 23, .bin .lss, [.t 22, .c (.val (.int .i64 3))], none⟩] [] [] [0, 3, 7, 21, 22, 23] false [] []
noncomputable def c17_20 : ACode := .cond (.t 23) .skip (.exit 0)
noncomputable def c17_24 : ACode := .region false [⟨some 24, .ixV false 3 1, [.t 21, .t 22], none⟩,
  ⟨some 9, .move, [.t 24], none⟩] [] [] [0, 3, 7, 9, 21, 22] false [] []
noncomputable def c17_25 : ACode := .region false [⟨some 25, .move, [.t 9], none⟩,
  ⟨some 26, .conv .u64, [.t 25], none⟩,
  ⟨some 27, .call 52, [.t 7, .t 26, .c (.val (.int .i64 1))], none⟩] [] [] [0, 3, 7, 21, 22] true [] []
noncomputable def c17_23 : ACode := .seq c17_24 c17_25
noncomputable def c17_22 : ACode := .block 1 c17_23
noncomputable def c17_26 : ACode := .region false [⟨some 28, .bin .add, [.t 22, .c (.val (.int .i64 1))], none⟩,
  ⟨some 22, .move, [.t 28], none⟩] [] [] [0, 3, 7, 21, 22] false [] []
noncomputable def c17_21 : ACode := .seq c17_22 c17_26
noncomputable def c17_19 : ACode := .seq c17_20 c17_21
noncomputable def c17_17 : ACode := .seq c17_18 c17_19
noncomputable def c17_16 : ACode := .loop c17_17
noncomputable def c17_15 : ACode := .block 0 c17_16
noncomputable def c17_13 : ACode := .seq c17_14 c17_15
noncomputable def c17_28 : ACode := .region true [⟨some 29, .move, [.t 0], none⟩,
  ⟨some 30, .nilChk, [.t 29], none⟩,
  ⟨some 31, .addr 0, [.t 30], none⟩,
  ⟨some 32, .addr 3, [.t 3], none⟩,
  ⟨some 33, .load false 1, [.t 32], none⟩,
  ⟨some 34, .len, [.t 33], none⟩,
  ⟨some 35, .conv .u64, [.t 34], none⟩,
  ⟨some 36, .call 52, [.t 7, .t 35, .c (.val (.int .i64 2))], none⟩,
  ⟨some 37, .addr 3, [.t 3], none⟩,
  ⟨some 38, .load false 1, [.t 37], none⟩,
  ⟨some 39, .buildSl 1 1 [(.slice none 0 0)] [(0, 1)], [.t 38], none⟩,
  ⟨some 40, .call 54, [.t 36, .t 39], none⟩,
  ⟨some 41, .call 55, [.t 40], none⟩,
  ⟨some 42, .call 53, [.t 31, .t 41], none⟩,
  ⟨some 43, .call 56, [.t 7], none⟩,
  ⟨some 4, .move, [.t 42], none⟩,
  ⟨some 5, .move, [.t 43], none⟩] [] [(7, 10)] [4, 5] true [] []
noncomputable def c17_27 : ACode := .seq c17_28 .ret
noncomputable def c17_12 : ACode := .seq c17_13 c17_27
noncomputable def c17_10 : ACode := .seq c17_11 c17_12
noncomputable def c17_2 : ACode := .seq c17_3 c17_10
noncomputable def c17_0 : ACode := .seq c17_1 c17_2
noncomputable def code17 : Code := (Try.f17.body).getD .skip
theorem c17_ok : compC Try.prog 44 code17 = some (strip c17_0) := by kernel_rfl
theorem res17_ok : Try.f17.results.toList.mapM (resC Try.prog) = some [(4, none), (5, none)] := by kernel_rfl
/- quidnunc/quidnuncref03.Encode -/
noncomputable def c23_1 : ACode := .region false [⟨some 1, .box 0, [.t 0], none⟩,
  ⟨some 2, .move, [.c (.val (.slice none 0 0))], none⟩] [] [] [1] true [] []
noncomputable def c23_3 : ACode := .region false [⟨some 4, .addr 0, [.t 1], none⟩,
  ⟨some 5, .load false 1, [.t 4], none⟩,
  ⟨some 6, .conv .u8, [.t 5], none⟩,
  ⟨some 7, .addr 1, [.t 1], none⟩,
  ⟨some 8, .load false 1, [.t 7], none⟩,
  ⟨some 9, .conv .u8, [.t 8], none⟩,
  ⟨some 10, .addr 2, [.t 1], none⟩,
  ⟨some 11, .load false 1, [.t 10], none⟩,
  ⟨some 12, .conv .u8, [.t 11], none⟩,
  ⟨some 13, .addr 3, [.t 1], none⟩,
  ⟨some 14, .load false 1, [.t 13], none⟩,
  ⟨some 15, .len, [.t 14], none⟩,
  ⟨some 16, .bin .rem, [.t 15, .c (.val (.int .i64 256))], none⟩,
  ⟨some 17, .conv .u8, [.t 16], none⟩,
  ⟨some 18, .addr 3, [.t 1], none⟩,
  ⟨some 19, .load false 1, [.t 18], none⟩,
  ⟨some 20, .len, [.t 19], none⟩,
  ⟨some 21, .bin .quo, [.t 20, .c (.val (.int .i64 256))], none⟩,
  ⟨some 22, .conv .u8, [.t 21], none⟩,
  ⟨some 23, .buildSl 1 5 [(.int .u8 0)] [(0, 1), (1, 1), (2, 1), (3, 1), (4, 1)], [.t 6, .t 9, .t 12, .t 17, .t 22], none⟩,
  ⟨some 3, .move, [.t 23], none⟩] [] [] [1, 3] true [] []
noncomputable def c23_5 : ACode := .region false [⟨some 24, .move, [.t 3], none⟩,
  ⟨some 25, .addr 3, [.t 1], none⟩,
  ⟨some 26, .load false 1, [.t 25], none⟩,
  ⟨some 27, .append 1 1 false, [.t 24, .t 26], none⟩,
  ⟨some 28, .call 44, [.t 27], none⟩,
  ⟨some 2, .move, [.t 28], none⟩] [] [] [2] true [] []
noncomputable def c23_4 : ACode := .seq c23_5 .ret
noncomputable def c23_2 : ACode := .seq c23_3 c23_4
noncomputable def c23_0 : ACode := .seq c23_1 c23_2
noncomputable def code23 : Code := (Try.f23.body).getD .skip
theorem c23_ok : compC Try.prog 29 code23 = some (strip c23_0) := by kernel_rfl
theorem res23_ok : Try.f23.results.toList.mapM (resC Try.prog) = some [(2, none)] := by kernel_rfl
theorem fenc_no (d : Bool) {P : List AV} {o : Nat} {l : List Int} (sg : Seg P o l) (f t k : Int) (h : chkF f t k l.length ≠ 0) : ACall Try.prog 17 [.ptr 0 0, FrA 1 o l.length f t k] [.cells false (tb d), .cells true P] (Det (.tup [.val (.slice none 0 0), I (chkF f t k l.length)]) [.cells false (tb d), .cells true P]) := by
  have hc := fcheck_any sg f t k
  have g1 : (chkF f t k l.length != 0) = true := by rw [bne_iff_ne]; exact h
  generalize chkF f t k l.length = c at *
  refine ACall.startA c17_ok Try.func17 rfl Try.ntmps17 (by kernel_rfl) res17_ok rfl rfl rfl ?_; simp (maxSteps := 9999999) (disch := omega) only [go_sem]
  (repeat' (first | refine AWpA.seq ?_ | refine AWpA.block ?_ | (with_reducible refine CondP.tt ?_) | (with_reducible refine CondP.ff ?_) | refine AWpA.condv (by simp (maxSteps := 9999999) (disch := omega) only [go_sem, sg.ren, tb_ren, g1]; rfl) ?_ | ((first | (apply AWpA.region; (focus (simp (maxSteps := 9999999) (disch := omega) only [go_sem, sg.ren, tb_ren, g1]; rfl))) | (apply AWpA.draw [] follows; (focus (simp (maxSteps := 9999999) (disch := omega) only [go_sem, sg.ren, tb_ren, g1]; rfl)); (focus (simp (maxSteps := 9999999) (disch := omega) only [go_sem, sg.ren, tb_ren, g1]; first | done | trivial)); (focus (simp (maxSteps := 9999999) (disch := omega) only [go_sem, sg.ren, tb_ren, g1]; rfl))) | (apply TailK.go; (focus (simp (maxSteps := 9999999) (disch := omega) only [go_sem, sg.ren, tb_ren, g1]; rfl))) | refine AWpA.skip ?_ | refine AWpA.exit ?_ | refine AWpA.ret ?_ | (with_reducible refine ARoundsA.succ ?_) | ((first | refine Runs.kt (by assumption) (fun h9 => ?_) | refine Runs.kf (by assumption) (fun h9 => ?_) | refine Runs.nt (by assumption) (fun h9 => ?_) | refine Runs.nf (by assumption) (fun h9 => ?_) | refine CondP.ht (by assumption) (fun h9 => ?_) | refine CondP.hf (by assumption) (fun h9 => ?_) | refine CondP.nt (by assumption) (fun h9 => ?_) | refine CondP.nf (by assumption) (fun h9 => ?_)); (try simp only [h9]); clear h9) | ((first | (with_reducible apply CallG.plain1 [1] (hc)) | (with_reducible apply CallG.draw1 [1] (hc))); (focus ((try refine And.intro (leAs_of_eq rfl) ?_); (try refine And.intro (leOL_of_eq rfl) ?_); simp (maxSteps := 9999999) (disch := omega) only [go_sem, sg.ren, tb_ren, g1]; first | done | (repeat' (first | rfl | (refine And.intro ?_ ?_))))); (focus (simp (maxSteps := 9999999) (disch := omega) only [go_sem, sg.ren, tb_ren, g1]; rfl)))); (try simp (maxSteps := 9999999) (disch := omega) only [go_sem, sg.ren, tb_ren, g1]); (try (refine And.intro ?_ ?_; (focus (first | omega | (simp only [go_sem]; done) | (simp; done) | (simp; omega) | assumption))))) | ((first | refine CondP.split (fun hif => ?_) (fun hif => ?_) | refine Runs.part (fun hif => ?_) (fun hif => ?_)) <;> ((try simp only [hif]); (try simp only [decide_eq_true_eq, decide_eq_false_iff_not, Bool.not_eq_true, Bool.not_eq_false, Bool.not_eq_true', Bool.not_eq_false', beq_iff_eq, bne_iff_ne, bne_eq_false_iff_eq, beq_eq_false_iff_ne, ne_eq, Bool.and_eq_true, Bool.or_eq_true, Bool.or_eq_false_iff] at hif); (try (have h9 : _ = true := hif; simp only [h9])); (try (have h9 : _ = false := hif; simp only [h9])); (try simp (maxSteps := 9999999) (disch := omega) only [go_sem, sg.ren, tb_ren, g1]); (try (refine And.intro ?_ ?_; (focus (first | omega | (simp only [go_sem]; done) | (simp; done) | (simp; omega) | assumption)))); (try (exfalso; omega; done))))))
  (apply Ret.det [0, 1]; (focus (first | exact .inl rfl | exact .inr rfl)); (focus (simp (maxSteps := 9999999) (disch := omega) only [go_sem, sg.ren, tb_ren]; rfl)); (simp (maxSteps := 9999999) (disch := omega) only [go_sem, sg.ren, tb_ren]; (try (repeat' (first | done | trivial | rfl | exact leAs_rfl _ | decide | (refine And.intro ?_ ?_) | (simp; done) | omega | (simp; decide))))))
theorem fenc_ok (d : Bool) {P : List AV} {o : Nat} {l : List Int} (sg : Seg P o l) (hb : ∀ x ∈ l, 0 ≤ x ∧ x ≤ 255) (f t k : Int) (h : chkF f t k l.length = 0) : ACall Try.prog 17 [.ptr 0 0, FrA 1 o l.length f t k] [.cells false (tb d), .cells true P] (Det (.tup [.sl 2 0 (l.length + 9) 1 none, I 0]) [.cells false (tb true), .cells true P, .cells false (bA (frB f t k l))]) := by
  have hc := fcheck_any sg f t k
  rw [h] at hc
  obtain ⟨h1, h2, h3, h4⟩ := chk_ok h
  have hle := sg.le
  have c1 := number_any [] (by simp) 0 f 1 (by omega)
  have q1 := numL_ok (v := f) (k := 1) (by decide) (by decide) (by omega) (by omega) []
  rw [show ((1 : Nat) : Int) = 1 from rfl] at q1
  rw [q1.1, q1.2, leI1 h1.1 (by omega)] at c1
  have c2 := number_any [f] (by simp) 0 t 1 (by omega)
  have q2 := numL_ok (v := t) (k := 1) (by decide) (by decide) (by omega) (by omega) [f]
  rw [show ((1 : Nat) : Int) = 1 from rfl] at q2
  rw [q2.1, q2.2, leI1 h2.1 (by omega)] at c2
  have c3 := number_any [f, t] (by simp) 0 k 1 (by omega)
  have q3 := numL_ok (v := k) (k := 1) (by decide) (by decide) (by omega) (by omega) [f, t]
  rw [show ((1 : Nat) : Int) = 1 from rfl] at q3
  rw [q3.1, q3.2, leI1 (by omega) (by omega)] at c3
  have c4 := number_any [f, t, k] (by simp) 0 (l.length : Int) 2 (by omega)
  have q4 := numL_ok (v := (l.length : Int)) (k := 2) (by decide) (by decide) (by omega) (by omega) [f, t, k]
  rw [show ((2 : Nat) : Int) = 2 from rfl] at q4
  rw [q4.1, q4.2, leI2 (by omega)] at c4
  rw [show [f, t, k] ++ [((l.length % 256 : Nat) : Int), ((l.length / 256 : Nat) : Int)] = frH f t k l.length from rfl] at c4
  have c5 := raw1_any (frH f t k l.length) (by rw [frH_len]; omega) 0 sg
  rw [wput_ok] at c5
  have hfb := frH_bytes h hb
  have hfl : (frH f t k l.length ++ l).length = l.length + 5 := by rw [List.length_append, frH_len]; omega
  have c6 := bytes_any (frH f t k l.length ++ l) 0 (by omega)
  have c7 := mark_any d (Seg.all (frH f t k l.length ++ l) (by omega)) hfb
  rw [hfl] at c5 c6 c7
  rw [show frB f t k l = mkd (frH f t k l.length ++ l) from rfl]
  rw [frH_len] at c4 c5
  simp only [List.nil_append, List.length_nil, bA_nil, List.cons_append, List.length_cons, Nat.zero_add, Nat.reduceAdd, Nat.add_assoc] at c1 c2 c3 c4 c5 c6 c7
  clear q1 q2 q3 q4 h
  generalize frH f t k l.length = A at *
  refine ACall.startA c17_ok Try.func17 rfl Try.ntmps17 (by kernel_rfl) res17_ok rfl rfl rfl ?_; simp (maxSteps := 9999999) (disch := omega) only [go_sem]
  refine AWpA.dummy ?_
  (repeat' (first | refine AWpA.seq ?_ | refine AWpA.block ?_ | (with_reducible refine CondP.tt ?_) | (with_reducible refine CondP.ff ?_) | refine AWpA.condv (by simp (maxSteps := 9999999) (disch := omega) only [go_sem, sg.ren, tb_ren]; rfl) ?_ | ((first | (apply AWpA.region; (focus (simp (maxSteps := 9999999) (disch := omega) only [go_sem, sg.ren, tb_ren]; rfl))) | (apply AWpA.draw [] follows; (focus (simp (maxSteps := 9999999) (disch := omega) only [go_sem, sg.ren, tb_ren]; rfl)); (focus (simp (maxSteps := 9999999) (disch := omega) only [go_sem, sg.ren, tb_ren]; first | done | trivial)); (focus (simp (maxSteps := 9999999) (disch := omega) only [go_sem, sg.ren, tb_ren]; rfl))) | (apply TailK.go; (focus (simp (maxSteps := 9999999) (disch := omega) only [go_sem, sg.ren, tb_ren]; rfl))) | refine AWpA.skip ?_ | refine AWpA.exit ?_ | refine AWpA.ret ?_ | (with_reducible refine ARoundsA.succ ?_) | ((first | refine Runs.kt (by assumption) (fun h9 => ?_) | refine Runs.kf (by assumption) (fun h9 => ?_) | refine Runs.nt (by assumption) (fun h9 => ?_) | refine Runs.nf (by assumption) (fun h9 => ?_) | refine CondP.ht (by assumption) (fun h9 => ?_) | refine CondP.hf (by assumption) (fun h9 => ?_) | refine CondP.nt (by assumption) (fun h9 => ?_) | refine CondP.nf (by assumption) (fun h9 => ?_)); (try simp only [h9]); clear h9) | ((first | (with_reducible apply CallG.plain1 [1] (hc)) | (with_reducible apply CallG.draw1 [1] (hc))); (focus ((try refine And.intro (leAs_of_eq rfl) ?_); (try refine And.intro (leOL_of_eq rfl) ?_); simp (maxSteps := 9999999) (disch := omega) only [go_sem, sg.ren, tb_ren]; first | done | (repeat' (first | rfl | (refine And.intro ?_ ?_))))); (focus (simp (maxSteps := 9999999) (disch := omega) only [go_sem, sg.ren, tb_ren]; rfl)))); (try simp (maxSteps := 9999999) (disch := omega) only [go_sem, sg.ren, tb_ren]); (try (refine And.intro ?_ ?_; (focus (first | omega | (simp only [go_sem]; done) | (simp; done) | (simp; omega) | assumption))))) | ((first | refine CondP.split (fun hif => ?_) (fun hif => ?_) | refine Runs.part (fun hif => ?_) (fun hif => ?_)) <;> ((try simp only [hif]); (try simp only [decide_eq_true_eq, decide_eq_false_iff_not, Bool.not_eq_true, Bool.not_eq_false, Bool.not_eq_true', Bool.not_eq_false', beq_iff_eq, bne_iff_ne, bne_eq_false_iff_eq, beq_eq_false_iff_ne, ne_eq, Bool.and_eq_true, Bool.or_eq_true, Bool.or_eq_false_iff] at hif); (try (have h9 : _ = true := hif; simp only [h9])); (try (have h9 : _ = false := hif; simp only [h9])); (try simp (maxSteps := 9999999) (disch := omega) only [go_sem, sg.ren, tb_ren]); (try (refine And.intro ?_ ?_; (focus (first | omega | (simp only [go_sem]; done) | (simp; done) | (simp; omega) | assumption)))); (try (exfalso; omega; done))))))
  refine AWpA.rounds 4 ?_
  (try simp (maxSteps := 9999999) (disch := omega) only [go_sem])
  (repeat' (first | refine AWpA.seq ?_ | refine AWpA.block ?_ | (with_reducible refine CondP.tt ?_) | (with_reducible refine CondP.ff ?_) | refine AWpA.condv (by simp (maxSteps := 9999999) (disch := omega) only [go_sem, sg.ren, tb_ren]; rfl) ?_ | ((first | (apply AWpA.region; (focus (simp (maxSteps := 9999999) (disch := omega) only [go_sem, sg.ren, tb_ren]; rfl))) | (apply AWpA.draw [0, 131, 611, 787] follows; (focus (simp (maxSteps := 9999999) (disch := omega) only [go_sem, sg.ren, tb_ren]; rfl)); (focus (simp (maxSteps := 9999999) (disch := omega) only [go_sem, sg.ren, tb_ren]; first | done | trivial)); (focus (simp (maxSteps := 9999999) (disch := omega) only [go_sem, sg.ren, tb_ren]; rfl))) | (apply TailK.go; (focus (simp (maxSteps := 9999999) (disch := omega) only [go_sem, sg.ren, tb_ren]; rfl))) | refine AWpA.skip ?_ | refine AWpA.exit ?_ | refine AWpA.ret ?_ | (with_reducible refine ARoundsA.succ ?_) | ((first | refine Runs.kt (by assumption) (fun h9 => ?_) | refine Runs.kf (by assumption) (fun h9 => ?_) | refine Runs.nt (by assumption) (fun h9 => ?_) | refine Runs.nf (by assumption) (fun h9 => ?_) | refine CondP.ht (by assumption) (fun h9 => ?_) | refine CondP.hf (by assumption) (fun h9 => ?_) | refine CondP.nt (by assumption) (fun h9 => ?_) | refine CondP.nf (by assumption) (fun h9 => ?_)); (try simp only [h9]); clear h9) | ((first | (with_reducible apply CallG.plain1 [131, 2] (c1)) | (with_reducible apply CallG.draw1 [131, 2] (c1))); (focus ((try refine And.intro (leAs_of_eq rfl) ?_); (try refine And.intro (leOL_of_eq rfl) ?_); simp (maxSteps := 9999999) (disch := omega) only [go_sem, sg.ren, tb_ren]; first | done | (repeat' (first | rfl | (refine And.intro ?_ ?_))))); (focus (simp (maxSteps := 9999999) (disch := omega) only [go_sem, sg.ren, tb_ren]; rfl))) | ((first | (with_reducible apply CallG.plain1 [131, 355] (c2)) | (with_reducible apply CallG.draw1 [131, 355] (c2))); (focus ((try refine And.intro (leAs_of_eq rfl) ?_); (try refine And.intro (leOL_of_eq rfl) ?_); simp (maxSteps := 9999999) (disch := omega) only [go_sem, sg.ren, tb_ren]; first | done | (repeat' (first | rfl | (refine And.intro ?_ ?_))))); (focus (simp (maxSteps := 9999999) (disch := omega) only [go_sem, sg.ren, tb_ren]; rfl))) | ((first | (with_reducible apply CallG.plain1 [131, 483] (c3)) | (with_reducible apply CallG.draw1 [131, 483] (c3))); (focus ((try refine And.intro (leAs_of_eq rfl) ?_); (try refine And.intro (leOL_of_eq rfl) ?_); simp (maxSteps := 9999999) (disch := omega) only [go_sem, sg.ren, tb_ren]; first | done | (repeat' (first | rfl | (refine And.intro ?_ ?_))))); (focus (simp (maxSteps := 9999999) (disch := omega) only [go_sem, sg.ren, tb_ren]; rfl))) | ((first | (with_reducible apply CallG.plain1 [131, 611] (c4)) | (with_reducible apply CallG.draw1 [131, 611] (c4))); (focus ((try refine And.intro (leAs_of_eq rfl) ?_); (try refine And.intro (leOL_of_eq rfl) ?_); simp (maxSteps := 9999999) (disch := omega) only [go_sem, sg.ren, tb_ren]; first | done | (repeat' (first | rfl | (refine And.intro ?_ ?_))))); (focus (simp (maxSteps := 9999999) (disch := omega) only [go_sem, sg.ren, tb_ren]; rfl))) | ((first | (with_reducible apply CallG.plain1 [131, 787, 835, 1] (c5)) | (with_reducible apply CallG.draw1 [131, 787, 835, 1] (c5))); (focus ((try refine And.intro (leAs_of_eq rfl) ?_); (try refine And.intro (leOL_of_eq rfl) ?_); simp (maxSteps := 9999999) (disch := omega) only [go_sem, sg.ren, tb_ren]; first | done | (repeat' (first | rfl | (refine And.intro ?_ ?_))))); (focus (simp (maxSteps := 9999999) (disch := omega) only [go_sem, sg.ren, tb_ren]; rfl))) | ((first | (with_reducible apply CallG.plain1 [131, 851] (c6)) | (with_reducible apply CallG.draw1 [131, 851] (c6))); (focus ((try refine And.intro (leAs_of_eq rfl) ?_); (try refine And.intro (leOL_of_eq rfl) ?_); simp (maxSteps := 9999999) (disch := omega) only [go_sem, sg.ren, tb_ren]; first | done | (repeat' (first | rfl | (refine And.intro ?_ ?_))))); (focus (simp (maxSteps := 9999999) (disch := omega) only [go_sem, sg.ren, tb_ren]; rfl))) | ((first | (with_reducible apply CallG.plain1 [0, 867] (c7)) | (with_reducible apply CallG.draw1 [0, 867] (c7))); (focus ((try refine And.intro (leAs_of_eq rfl) ?_); (try refine And.intro (leOL_of_eq rfl) ?_); simp (maxSteps := 9999999) (disch := omega) only [go_sem, sg.ren, tb_ren]; first | done | (repeat' (first | rfl | (refine And.intro ?_ ?_))))); (focus (simp (maxSteps := 9999999) (disch := omega) only [go_sem, sg.ren, tb_ren]; rfl))) | ((first | (with_reducible apply CallG.plain1 [131] (werr_any 0)) | (with_reducible apply CallG.draw1 [131] (werr_any 0))); (focus ((try refine And.intro (leAs_of_eq rfl) ?_); (try refine And.intro (leOL_of_eq rfl) ?_); simp (maxSteps := 9999999) (disch := omega) only [go_sem, sg.ren, tb_ren]; first | done | (repeat' (first | rfl | (refine And.intro ?_ ?_))))); (focus (simp (maxSteps := 9999999) (disch := omega) only [go_sem, sg.ren, tb_ren]; rfl)))); (try simp (maxSteps := 9999999) (disch := omega) only [go_sem, sg.ren, tb_ren]); (try (refine And.intro ?_ ?_; (focus (first | omega | (simp only [go_sem]; done) | (simp; done) | (simp; omega) | assumption))))) | ((first | refine CondP.split (fun hif => ?_) (fun hif => ?_) | refine Runs.part (fun hif => ?_) (fun hif => ?_)) <;> ((try simp only [hif]); (try simp only [decide_eq_true_eq, decide_eq_false_iff_not, Bool.not_eq_true, Bool.not_eq_false, Bool.not_eq_true', Bool.not_eq_false', beq_iff_eq, bne_iff_ne, bne_eq_false_iff_eq, beq_eq_false_iff_ne, ne_eq, Bool.and_eq_true, Bool.or_eq_true, Bool.or_eq_false_iff] at hif); (try (have h9 : _ = true := hif; simp only [h9])); (try (have h9 : _ = false := hif; simp only [h9])); (try simp (maxSteps := 9999999) (disch := omega) only [go_sem, sg.ren, tb_ren]); (try (refine And.intro ?_ ?_; (focus (first | omega | (simp only [go_sem]; done) | (simp; done) | (simp; omega) | assumption)))); (try (exfalso; omega; done))))))
  (apply Ret.det [0, 1, _]; (focus (first | exact .inl rfl | exact .inr rfl)); (focus (simp (maxSteps := 9999999) (disch := omega) only [go_sem, sg.ren, tb_ren]; rfl)); (simp (maxSteps := 9999999) (disch := omega) only [go_sem, sg.ren, tb_ren]; (try (repeat' (first | done | trivial | rfl | exact leAs_rfl _ | decide | (refine And.intro ?_ ?_) | (simp; done) | omega | (simp; decide))))))
theorem rfenc_ok {P : List AV} {o : Nat} {l : List Int} (sg : Seg P o l) (hb : ∀ x ∈ l, 0 ≤ x ∧ x ≤ 255) (f t k : Int) (h : chkF f t k l.length = 0) : ACall Try.prog 23 [FrA 0 o l.length f t k] [.cells true P] (Det (.sl 1 0 (l.length + 9) 1 none) [.cells true P, .cells false (bA (frB f t k l))]) := by
  obtain ⟨h1, h2, h3, h4⟩ := chk_ok h
  have hle := sg.le
  have hfb := frH_bytes h hb
  have hfl : (frH f t k l.length ++ l).length = l.length + 5 := by rw [List.length_append, frH_len]; omega
  have c7 := rmark_any (Seg.all (frH f t k l.length ++ l) (by omega)) hfb
  rw [hfl] at c7
  have e1 : (l.length : Int).tmod 256 = ((l.length % 256 : Nat) : Int) := by rw [Int.tmod_eq_emod_of_nonneg (by omega)]; omega
  have e2 : (l.length : Int).tdiv 256 = ((l.length / 256 : Nat) : Int) := by rw [Int.tdiv_eq_ediv_of_nonneg (by omega)]; omega
  have e3 : l.length % 256 < 256 := Nat.mod_lt _ (by omega)
  have e4 : l.length / 256 < 256 := by omega
  have e5 : bA (frH f t k l.length ++ l) = U8 f :: U8 t :: U8 k :: U8 ((l.length % 256 : Nat) : Int) :: U8 ((l.length / 256 : Nat) : Int) :: bA l := rfl
  rw [show frB f t k l = mkd (frH f t k l.length ++ l) from rfl]
  rw [e5] at c7
  generalize mkd (frH f t k l.length ++ l) = M at *
  clear e5 hfb hfl
  by_cases h0 : l.length = 0
  · have hl0 : l = [] := List.length_eq_zero_iff.1 h0
    subst hl0
    have z1 : (0 : Int).tmod 256 = 0 := rfl
    have z2 : (0 : Int).tdiv 256 = 0 := rfl
    clear e1 e2 e3 e4 h0
    simp only [List.length_nil, Nat.zero_add, Nat.zero_mod, Nat.zero_div, bA_nil] at c7 ⊢
    rw [show ((0 : Nat) : Int) = 0 from rfl] at c7
    refine ACall.startA c23_ok Try.func23 rfl Try.ntmps23 (by kernel_rfl) res23_ok rfl rfl rfl ?_; simp (maxSteps := 9999999) (disch := omega) only [go_sem]
    (repeat' (first | refine AWpA.seq ?_ | refine AWpA.block ?_ | (with_reducible refine CondP.tt ?_) | (with_reducible refine CondP.ff ?_) | refine AWpA.condv (by simp (maxSteps := 9999999) (disch := omega) only [go_sem, sg.ren, sg.seg, sg.noAny, z1, z2, List.length_nil]; rfl) ?_ | ((first | (apply AWpA.region; (focus (simp (maxSteps := 9999999) (disch := omega) only [go_sem, sg.ren, sg.seg, sg.noAny, z1, z2, List.length_nil]; rfl))) | (apply AWpA.draw [] follows; (focus (simp (maxSteps := 9999999) (disch := omega) only [go_sem, sg.ren, sg.seg, sg.noAny, z1, z2, List.length_nil]; rfl)); (focus (simp (maxSteps := 9999999) (disch := omega) only [go_sem, sg.ren, sg.seg, sg.noAny, z1, z2, List.length_nil]; first | done | trivial)); (focus (simp (maxSteps := 9999999) (disch := omega) only [go_sem, sg.ren, sg.seg, sg.noAny, z1, z2, List.length_nil]; rfl))) | (apply TailK.go; (focus (simp (maxSteps := 9999999) (disch := omega) only [go_sem, sg.ren, sg.seg, sg.noAny, z1, z2, List.length_nil]; rfl))) | refine AWpA.skip ?_ | refine AWpA.exit ?_ | refine AWpA.ret ?_ | (with_reducible refine ARoundsA.succ ?_) | ((first | refine Runs.kt (by assumption) (fun h9 => ?_) | refine Runs.kf (by assumption) (fun h9 => ?_) | refine Runs.nt (by assumption) (fun h9 => ?_) | refine Runs.nf (by assumption) (fun h9 => ?_) | refine CondP.ht (by assumption) (fun h9 => ?_) | refine CondP.hf (by assumption) (fun h9 => ?_) | refine CondP.nt (by assumption) (fun h9 => ?_) | refine CondP.nf (by assumption) (fun h9 => ?_)); (try simp only [h9]); clear h9) | ((first | (with_reducible apply CallG.plain1 [337] (c7)) | (with_reducible apply CallG.draw1 [337] (c7))); (focus ((try refine And.intro (leAs_of_eq rfl) ?_); (try refine And.intro (leOL_of_eq rfl) ?_); simp (maxSteps := 9999999) (disch := omega) only [go_sem, sg.ren, sg.seg, sg.noAny, z1, z2, List.length_nil]; first | done | (repeat' (first | rfl | (refine And.intro ?_ ?_))))); (focus (simp (maxSteps := 9999999) (disch := omega) only [go_sem, sg.ren, sg.seg, sg.noAny, z1, z2, List.length_nil]; rfl)))); (try simp (maxSteps := 9999999) (disch := omega) only [go_sem, sg.ren, sg.seg, sg.noAny, z1, z2, List.length_nil]); (try (refine And.intro ?_ ?_; (focus (first | omega | (simp only [go_sem]; done) | (simp; done) | (simp; omega) | assumption))))) | ((first | refine CondP.split (fun hif => ?_) (fun hif => ?_) | refine Runs.part (fun hif => ?_) (fun hif => ?_)) <;> ((try simp only [hif]); (try simp only [decide_eq_true_eq, decide_eq_false_iff_not, Bool.not_eq_true, Bool.not_eq_false, Bool.not_eq_true', Bool.not_eq_false', beq_iff_eq, bne_iff_ne, bne_eq_false_iff_eq, beq_eq_false_iff_ne, ne_eq, Bool.and_eq_true, Bool.or_eq_true, Bool.or_eq_false_iff] at hif); (try (have h9 : _ = true := hif; simp only [h9])); (try (have h9 : _ = false := hif; simp only [h9])); (try simp (maxSteps := 9999999) (disch := omega) only [go_sem, sg.ren, sg.seg, sg.noAny, z1, z2, List.length_nil]); (try (refine And.intro ?_ ?_; (focus (first | omega | (simp only [go_sem]; done) | (simp; done) | (simp; omega) | assumption)))); (try (exfalso; omega; done))))))
    (apply Ret.det [0, _]; (focus (first | exact .inl rfl | exact .inr rfl)); (focus (simp (maxSteps := 9999999) (disch := omega) only [go_sem, sg.ren]; rfl)); (simp (maxSteps := 9999999) (disch := omega) only [go_sem, sg.ren]; (try (repeat' (first | done | trivial | rfl | exact leAs_rfl _ | decide | (refine And.intro ?_ ?_) | (simp; done) | omega | (simp; decide))))))
  · have g1 : (5 + l.length ≤ 5) = False := eq_false (by omega)
    rw [Nat.add_comm l.length 5] at c7
    rw [show l.length + 9 = 5 + l.length + 4 by omega]
    generalize l.length % 256 = m at *
    generalize l.length / 256 = q at *
    refine ACall.startA c23_ok Try.func23 rfl Try.ntmps23 (by kernel_rfl) res23_ok rfl rfl rfl ?_; simp (maxSteps := 9999999) (disch := omega) only [go_sem]
    (repeat' (first | refine AWpA.seq ?_ | refine AWpA.block ?_ | (with_reducible refine CondP.tt ?_) | (with_reducible refine CondP.ff ?_) | refine AWpA.condv (by simp (maxSteps := 9999999) (disch := omega) only [go_sem, sg.ren, sg.seg, sg.noAny, e1, e2, g1]; rfl) ?_ | ((first | (apply AWpA.region; (focus (simp (maxSteps := 9999999) (disch := omega) only [go_sem, sg.ren, sg.seg, sg.noAny, e1, e2, g1]; rfl))) | (apply AWpA.draw [] follows; (focus (simp (maxSteps := 9999999) (disch := omega) only [go_sem, sg.ren, sg.seg, sg.noAny, e1, e2, g1]; rfl)); (focus (simp (maxSteps := 9999999) (disch := omega) only [go_sem, sg.ren, sg.seg, sg.noAny, e1, e2, g1]; first | done | trivial)); (focus (simp (maxSteps := 9999999) (disch := omega) only [go_sem, sg.ren, sg.seg, sg.noAny, e1, e2, g1]; rfl))) | (apply TailK.go; (focus (simp (maxSteps := 9999999) (disch := omega) only [go_sem, sg.ren, sg.seg, sg.noAny, e1, e2, g1]; rfl))) | refine AWpA.skip ?_ | refine AWpA.exit ?_ | refine AWpA.ret ?_ | (with_reducible refine ARoundsA.succ ?_) | ((first | refine Runs.kt (by assumption) (fun h9 => ?_) | refine Runs.kf (by assumption) (fun h9 => ?_) | refine Runs.nt (by assumption) (fun h9 => ?_) | refine Runs.nf (by assumption) (fun h9 => ?_) | refine CondP.ht (by assumption) (fun h9 => ?_) | refine CondP.hf (by assumption) (fun h9 => ?_) | refine CondP.nt (by assumption) (fun h9 => ?_) | refine CondP.nf (by assumption) (fun h9 => ?_)); (try simp only [h9]); clear h9) | ((first | (with_reducible apply CallG.plain1 [417] (c7)) | (with_reducible apply CallG.draw1 [417] (c7))); (focus ((try refine And.intro (leAs_of_eq rfl) ?_); (try refine And.intro (leOL_of_eq rfl) ?_); simp (maxSteps := 9999999) (disch := omega) only [go_sem, sg.ren, sg.seg, sg.noAny, e1, e2, g1]; first | done | (repeat' (first | rfl | (refine And.intro ?_ ?_))))); (focus (simp (maxSteps := 9999999) (disch := omega) only [go_sem, sg.ren, sg.seg, sg.noAny, e1, e2, g1]; rfl)))); (try simp (maxSteps := 9999999) (disch := omega) only [go_sem, sg.ren, sg.seg, sg.noAny, e1, e2, g1]); (try (refine And.intro ?_ ?_; (focus (first | omega | (simp only [go_sem]; done) | (simp; done) | (simp; omega) | assumption))))) | ((first | refine CondP.split (fun hif => ?_) (fun hif => ?_) | refine Runs.part (fun hif => ?_) (fun hif => ?_)) <;> ((try simp only [hif]); (try simp only [decide_eq_true_eq, decide_eq_false_iff_not, Bool.not_eq_true, Bool.not_eq_false, Bool.not_eq_true', Bool.not_eq_false', beq_iff_eq, bne_iff_ne, bne_eq_false_iff_eq, beq_eq_false_iff_ne, ne_eq, Bool.and_eq_true, Bool.or_eq_true, Bool.or_eq_false_iff] at hif); (try (have h9 : _ = true := hif; simp only [h9])); (try (have h9 : _ = false := hif; simp only [h9])); (try simp (maxSteps := 9999999) (disch := omega) only [go_sem, sg.ren, sg.seg, sg.noAny, e1, e2, g1]); (try (refine And.intro ?_ ?_; (focus (first | omega | (simp only [go_sem]; done) | (simp; done) | (simp; omega) | assumption)))); (try (exfalso; omega; done))))))
    (apply Ret.det [0, _]; (focus (first | exact .inl rfl | exact .inr rfl)); (focus (simp (maxSteps := 9999999) (disch := omega) only [go_sem, sg.ren]; rfl)); (simp (maxSteps := 9999999) (disch := omega) only [go_sem, sg.ren]; (try (repeat' (first | done | trivial | rfl | exact leAs_rfl _ | decide | (refine And.intro ?_ ?_) | (simp; done) | omega | (simp; decide))))))
end Go.Proofs.Ythbpdmlbfnjoiaa
