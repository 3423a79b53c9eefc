/- Contract: the records of bytes, by the document; the same records? -/
import Derived.Test.YthbpdmlbfnjoiaaJa4
namespace Go.Proofs.Ythbpdmlbfnjoiaa
set_option linter.unusedSimpArgs false
set_option linter.unusedVariables false
set_option maxHeartbeats 4000000
open Go Go.Am Go.RowKit Go.Crc
set_option linter.unusedSimpArgs false
set_option maxHeartbeats 4000000
set_option maxRecDepth 100000
/- quidnunc/quidnuncref07.Read -/
noncomputable def c29_1 : ACode := .region false [⟨some 2, .move, [.c (.val (.slice none 0 0))], none⟩,
  ⟨some 3, .move, [.c (.val (.int .i64 0))], none⟩,
  ⟨some 4, .move, [.c (.val (.int .i64 0))], none⟩] [] [] [0] false [] []
noncomputable def c29_3 : ACode := .region false [⟨some 9, .buildSl 1 0 [(.slice none 0 0)] [], [], none⟩,
  ⟨some 5, .move, [.t 9], none⟩] [] [] [0, 5] true [] []
noncomputable def c29_5 : ACode := .region false [⟨some 6, .move, [.c (.val (.int .i64 0))], none⟩] [] [] [0, 5, 6] false [] []
noncomputable def c29_10 : ACode := .region false [⟨some 10, .move, [.t 0], none⟩,
  ⟨some 11, .move, [.t 6], none⟩,
  ⟨some 12, .slS 1 true false false, [.t 10, .t 11], none⟩,
  ⟨some 7, .move, [.t 12], none⟩] [] [] [0, 5, 6, 7] false [] []
noncomputable def c29_13 : ACode := .region false [⟨some 13, .move, [.t 7], none⟩,
  ⟨some 14, .len, [.t 13], none⟩,
  ⟨some 15, .bin .lss, [.t 14, .c (.val (.int .i64 6))], none⟩] [] [] [0, 5, 6, 7, 15] false [] []
noncomputable def c29_16 : ACode := .region false [⟨some 16, .move, [.t 5], none⟩,
  ⟨some 17, .move, [.t 6], none⟩,
  ⟨some 2, .move, [.t 16], none⟩,
  ⟨some 3, .move, [.t 17], none⟩,
  ⟨some 4, .move, [.c (.val (.int .i64 0))], none⟩] [] [] [2, 3, 4] false [] []
noncomputable def c29_15 : ACode := .seq c29_16 .ret
noncomputable def c29_14 : ACode := .cond (.t 15) c29_15 .skip
noncomputable def c29_12 : ACode := .seq c29_13 c29_14
noncomputable def c29_18 : ACode := .region false [⟨some 18, .move, [.t 7], none⟩,
  ⟨some 19, .slS 1 false true false, [.t 18, .c (.val (.int .i64 2))], none⟩,
  ⟨some 20, .call 51, [.t 19], none⟩,
  ⟨some 21, .conv .i64, [.t 20], none⟩,
  ⟨some 8, .move, [.t 21], none⟩] [] [] [0, 5, 6, 7, 8] true [] []
noncomputable def c29_21 : ACode := .region false [⟨some 22, .move, [.t 7], none⟩,
  ⟨some 23, .slS 1 false true false, [.t 22, .c (.val (.int .i64 6))], none⟩,
  ⟨some 24, .call 50, [.t 23], none⟩,
  ⟨some 25, .un .not, [.t 24], none⟩,
  ⟨some 26, .move, [.t 25], none⟩,
  ⟨some 27, .move, [.t 8], some (some 26, false)⟩,
  ⟨some 28, .bin .lss, [.t 27, .c (.val (.int .i64 1))], some (some 26, false)⟩,
  ⟨some 29, .pick, [.t 26, .c (.val (.bool true)), .t 28], none⟩,
  ⟨some 30, .move, [.t 29], none⟩,
  ⟨some 31, .move, [.t 8], some (some 30, false)⟩,
  ⟨some 32, .bin .gtr, [.t 31, .c (.val (.int .i64 512))], some (some 30, false)⟩,
  ⟨some 33, .pick, [.t 30, .c (.val (.bool true)), .t 32], none⟩] [] [] [0, 5, 6, 7, 8, 33] true [] []
noncomputable def c29_24 : ACode := .region false [⟨some 2, .move, [.c (.val (.slice none 0 0))], none⟩,
  ⟨some 3, .move, [.c (.val (.int .i64 0))], none⟩,
  ⟨some 4, .move, [.c (.val (.int .i64 12))], none⟩] [] [] [2, 3, 4] false [] []
noncomputable def c29_23 : ACode := .seq c29_24 .ret
noncomputable def c29_22 : ACode := .cond (.t 33) c29_23 .skip
noncomputable def c29_20 : ACode := .seq c29_21 c29_22
noncomputable def c29_27 : ACode := .region false [⟨some 34, .move, [.t 7], none⟩,
  ⟨some 35, .len, [.t 34], none⟩,
  ⟨some 36, .move, [.t 8], none⟩,
  ⟨some 37, .bin .add, [.c (.val (.int .i64 10)), .t 36], none⟩,
  ⟨some 38, .bin .lss, [.t 35, .t 37], none⟩] [] [] [0, 5, 6, 7, 8, 38] false [] []
noncomputable def c29_30 : ACode := .region false [⟨some 39, .move, [.t 5], none⟩,
  ⟨some 40, .move, [.t 6], none⟩,
  ⟨some 2, .move, [.t 39], none⟩,
  ⟨some 3, .move, [.t 40], none⟩,
  ⟨some 4, .move, [.c (.val (.int .i64 0))], none⟩] [] [] [2, 3, 4] false [] []
noncomputable def c29_29 : ACode := .seq c29_30 .ret
noncomputable def c29_28 : ACode := .cond (.t 38) c29_29 .skip
noncomputable def c29_26 : ACode := .seq c29_27 c29_28
noncomputable def c29_33 : ACode := .region false [⟨some 41, .move, [.t 7], none⟩,
  ⟨some 42, .move, [.t 8], none⟩,
  ⟨some 43, .bin .add, [.c (.val (.int .i64 10)), .t 42], none⟩,
  ⟨some 44, .slS 1 true true false, [.t 41, .c (.val (.int .i64 6)), .t 43], none⟩,
  ⟨some 45, .call 50, [.t 44], none⟩,
  ⟨some 46, .un .not, [.t 45], none⟩] [] [] [0, 5, 6, 7, 8, 46] true [] []
noncomputable def c29_36 : ACode := .region false [⟨some 2, .move, [.c (.val (.slice none 0 0))], none⟩,
  ⟨some 3, .move, [.c (.val (.int .i64 0))], none⟩,
  ⟨some 4, .move, [.c (.val (.int .i64 12))], none⟩] [] [] [2, 3, 4] false [] []
noncomputable def c29_35 : ACode := .seq c29_36 .ret
noncomputable def c29_34 : ACode := .cond (.t 46) c29_35 .skip
noncomputable def c29_32 : ACode := .seq c29_33 c29_34
noncomputable def c29_38 : ACode := .region false [⟨some 47, .move, [.t 5], none⟩,
  ⟨some 48, .move, [.t 7], none⟩,
  ⟨some 49, .move, [.t 8], none⟩,
  ⟨some 50, .bin .add, [.c (.val (.int .i64 6)), .t 49], none⟩,
  ⟨some 51, .slS 1 true true false, [.t 48, .c (.val (.int .i64 6)), .t 50], none⟩,
  ⟨some 52, .buildSl 1 1 [(.slice none 0 0)] [(0, 1)], [.t 51], none⟩,
  ⟨some 53, .append 1 24 false, [.t 47, .t 52], none⟩,
  ⟨some 5, .move, [.t 53], none⟩] [] [] [0, 5, 6, 8] true [] []
noncomputable def c29_39 : ACode := .region false [⟨some 54, .move, [.t 6], none⟩,
  ⟨some 55, .bin .add, [.t 54, .c (.val (.int .i64 10))], none⟩,
  ⟨some 56, .move, [.t 8], none⟩,
  ⟨some 57, .bin .add, [.t 55, .t 56], none⟩,
  ⟨some 6, .move, [.t 57], none⟩] [] [] [0, 5, 6] false [] []
noncomputable def c29_37 : ACode := .seq c29_38 c29_39
noncomputable def c29_31 : ACode := .seq c29_32 c29_37
noncomputable def c29_25 : ACode := .seq c29_26 c29_31
noncomputable def c29_19 : ACode := .seq c29_20 c29_25
noncomputable def c29_17 : ACode := .seq c29_18 c29_19
noncomputable def c29_11 : ACode := .seq c29_12 c29_17
noncomputable def c29_9 : ACode := .seq c29_10 c29_11
noncomputable def c29_8 : ACode := .block 1 c29_9
noncomputable def c29_7 : ACode := .loop c29_8
noncomputable def c29_6 : ACode := .block 0 c29_7
noncomputable def c29_4 : ACode := .seq c29_5 c29_6
noncomputable def c29_2 : ACode := .seq c29_3 c29_4
noncomputable def c29_0 : ACode := .seq c29_1 c29_2
noncomputable def code29 : Code := (Try.f29.body).getD .skip
theorem c29_ok : compC Try.prog 58 code29 = some (strip c29_0) := by kernel_rfl
theorem res29_ok : Try.f29.results.toList.mapM (resC Try.prog) = some [(2, none), (3, none), (4, none)] := by kernel_rfl
/- quidnunc/quidnuncref07.Same -/
noncomputable def c30_1 : ACode := .region false [⟨some 4, .move, [.c (.val (.bool false))], none⟩] [] [] [0, 1] false [] []
noncomputable def c30_4 : ACode := .region false [⟨some 6, .move, [.t 0], none⟩,
  ⟨some 7, .len, [.t 6], none⟩,
  ⟨some 8, .move, [.t 1], none⟩,
  ⟨some 9, .len, [.t 8], none⟩,
  ⟨some 10, .bin .neq, [.t 7, .t 9], none⟩] [] [] [0, 1, 10] false [] []
noncomputable def c30_7 : ACode := .region false [⟨some 4, .move, [.c (.val (.bool false))], none⟩] [] [] [4] false [] []
noncomputable def c30_6 : ACode := .seq c30_7 .ret
noncomputable def c30_5 : ACode := .cond (.t 10) c30_6 .skip
noncomputable def c30_3 : ACode := .seq c30_4 c30_5
noncomputable def c30_10 : ACode := .region false [⟨some 5, .move, [.c (.val (.int .i64 0))], none⟩] [] [] [0, 1, 5] false [] []
noncomputable def c30_15 : ACode := .region false [⟨some 11, .move, [.t 5], none⟩,
  ⟨some 12, .move, [.t 0], none⟩,
  ⟨some 13, .len, [.t 12], none⟩,
  ⟨some 14, .bin .lss, [.t 11, .t 13], none⟩] [] [] [0, 1, 5, 14] false [] []
noncomputable def c30_16 : ACode := .cond (.t 14) .skip (.exit 0)
noncomputable def c30_14 : ACode := .seq c30_15 c30_16
noncomputable def c30_20 : ACode := .region true [⟨some 17, .move, [.t 0], none⟩,
  ⟨some 18, .move, [.t 5], none⟩,
  ⟨some 19, .ixS 1, [.t 17, .t 18], none⟩,
  ⟨some 20, .load false 1, [.t 19], none⟩,
  ⟨some 21, .toStr, [.t 20], none⟩,
  ⟨some 22, .move, [.t 1], none⟩,
  ⟨some 23, .move, [.t 5], none⟩,
  ⟨some 24, .ixS 1, [.t 22, .t 23], none⟩,
  ⟨some 25, .load false 1, [.t 24], none⟩,
  ⟨some 26, .toStr, [.t 25], none⟩,
  ⟨some 27, .bin .neq, [.t 21, .t 26], none⟩] [] [] [0, 1, 5, 27] false [] []
noncomputable def c30_23 : ACode := .region false [⟨some 4, .move, [.c (.val (.bool false))], none⟩] [] [] [4] false [] []
noncomputable def c30_22 : ACode := .seq c30_23 .ret
noncomputable def c30_21 : ACode := .cond (.t 27) c30_22 .skip
noncomputable def c30_19 : ACode := .seq c30_20 c30_21
noncomputable def c30_18 : ACode := .block 1 c30_19
noncomputable def c30_24 : ACode := .region false [⟨some 15, .move, [.t 5], none⟩,
  ⟨some 16, .bin .add, [.t 15, .c (.val (.int .i64 1))], none⟩,
  ⟨some 5, .move, [.t 16], none⟩] [] [] [0, 1, 5] false [] []
noncomputable def c30_17 : ACode := .seq c30_18 c30_24
noncomputable def c30_13 : ACode := .seq c30_14 c30_17
noncomputable def c30_12 : ACode := .loop c30_13
noncomputable def c30_11 : ACode := .block 0 c30_12
noncomputable def c30_9 : ACode := .seq c30_10 c30_11
noncomputable def c30_26 : ACode := .region false [⟨some 4, .move, [.c (.val (.bool true))], none⟩] [] [] [4] false [] []
noncomputable def c30_25 : ACode := .seq c30_26 .ret
noncomputable def c30_8 : ACode := .seq c30_9 c30_25
noncomputable def c30_2 : ACode := .seq c30_3 c30_8
noncomputable def c30_0 : ACode := .seq c30_1 c30_2
noncomputable def code30 : Code := (Try.f30.body).getD .skip
theorem c30_ok : compC Try.prog 28 code30 = some (strip c30_0) := by kernel_rfl
theorem res30_ok : Try.f30.results.toList.mapM (resC Try.prog) = some [(4, none)] := by kernel_rfl
theorem value_fz {l : List Int} {n : Nat} (hn : l.length = n) (h8 : n ≤ 8) (hb : ∀ x ∈ l, 0 ≤ x ∧ x ≤ 255) : ACall Try.prog 51 [.fz 1 n (bA l)] [] (Det (U64 (valI l)) [.gone]) := by
  subst hn
  refine ACall.fzD (v := U64 (valI l)) (H1 := []) (H1' := []) (N := []) (N' := []) 0 0 (by kernel_rfl) rfl rfl (fun _ _ o ho => by cases ho) (fun off => ?_) rfl rfl rfl rfl
  have sg := Seg.rows (off := off) (l := l) (by omega)
  rw [rows_bA] at sg
  exact value_any sg hb h8
theorem rholds_fz {l : List Int} {n : Nat} (hn : l.length = n) (hl : n ≤ 1099511627776) (hb : ∀ x ∈ l, 0 ≤ x ∧ x ≤ 255) : ACall Try.prog 50 [.fz 1 n (bA l)] [] (Det (Bo (mkdB l)) [.gone]) := by
  subst hn
  refine ACall.fzD (v := Bo (mkdB l)) (H1 := []) (H1' := []) (N := []) (N' := []) 0 0 (by kernel_rfl) rfl rfl (fun _ _ o ho => by cases ho) (fun off => ?_) rfl rfl rfl rfl
  have sg := Seg.rows (off := off) (l := l) hl
  rw [rows_bA] at sg
  exact rholds_any sg hb
theorem val2 {r : List Int} (h : 2 ≤ r.length) : valI (r.take 2) = jN r := by
  have := take2 (B := r) (a := 0) (by omega)
  rw [List.drop_zero] at this
  rw [this]
  simp [valI, jN]
theorem rread_any (b : List Int) (hl : b.length ≤ 4294967296) (hby : ∀ x ∈ b, 0 ≤ x ∧ x ≤ 255) :
    ACall Try.prog 29 [fzB b] [] (Det (.tup [FL (jread b).1, I (jread b).2.1, I (cond (jread b).2.2 12 0)]) []) := by
  refine ACall.startA c29_ok Try.func29 rfl Try.ntmps29 (by kernel_rfl) res29_ok rfl rfl rfl ?_; simp (maxSteps := 9999999) (disch := omega) only [go_sem]
  (have k9 := And.intro @bA_ren (k0); (repeat' (first | refine AWpA.seq ?_ | refine AWpA.block ?_ | (with_reducible refine CondP.tt ?_) | (with_reducible refine CondP.ff ?_) | refine AWpA.cg ?_ | ((first | refine AWpA.rg ?_ | refine AWpA.dg [] [] follows ?_ | refine TailK.tg ?_ | refine AWpA.skip ?_ | refine AWpA.exit ?_ | refine AWpA.ret ?_ | (with_reducible refine ARoundsA.succ ?_) | ((first | refine Runs.gkt (fun h9 => ?_) | refine Runs.gkf (fun h9 => ?_) | refine Runs.gnt (fun h9 => ?_) | refine Runs.gnf (fun h9 => ?_) | refine CondP.gt (fun h9 => ?_) | refine CondP.gf (fun h9 => ?_) | refine CondP.gnt (fun h9 => ?_) | refine CondP.gnf (fun h9 => ?_)); (try simp only [h9]); clear h9)); (try simp (maxSteps := 9999999) (disch := omega) only [go_sem, k9]); (try refine cnd ?_)) | ((first | refine CondP.split (fun hif => ?_) (fun hif => ?_) | refine Runs.part (fun hif => ?_) (fun hif => ?_)) <;> ((try simp only [hif]); (try simp only [BL] at hif); (try (have h9 : _ = true := hif; simp only [h9])); (try (have h9 : _ = false := hif; simp only [h9])); (try simp (maxSteps := 9999999) (disch := omega) only [go_sem, k9]); (try refine cnd ?_); (try (exfalso; omega; done)))))); (all_goals (try clear k9)))
  (apply AWpA.loopL (fun p : List (List Int) × Nat => [(0, fzB b), (5, .sl 0 0 p.1.length 1 none), (6, I p.2)]) (fun p => [.cells false (rowsB p.1)]) (fun p => b.length - p.2) (fun p => p.2 ≤ b.length ∧ p.1.length ≤ p.2 ∧ ∃ f, b.length - p.2 < f ∧ jread b = jrun f b p.1 p.2) (([], 0)) [48]; rotate_left; (focus (simp (maxSteps := 9999999) (disch := omega) only [go_sem, bA_ren, List.length_nil, rowsB_nil]; (try (repeat' (first | done | trivial | rfl | exact leAs_rfl _ | decide | (refine And.intro ?_ ?_) | (simp; done) | omega | (simp; decide)))))); rotate_right)
  · exact ⟨Nat.zero_le _, Nat.le_refl _, b.length + 1, by simp only; omega, rfl⟩
  rintro ⟨l, k⟩ ⟨hk, hlk, f, hf, hj⟩
  (try simp only at hk hlk hf hj)
  obtain ⟨f, rfl⟩ : ∃ g, f = g + 1 := ⟨f - 1, by omega⟩
  have hld : (b.drop k).length = b.length - k := List.length_drop
  have hbd : ∀ x ∈ b.drop k, 0 ≤ x ∧ x ≤ 255 := fun x hx => hby x (List.mem_of_mem_drop hx)
  have ht0 : (b.drop k).take (b.length - k) = b.drop k := List.take_of_length_le (by omega)
  have g0 : ((k : Int) ≤ (b.length : Int)) = True := eq_true (by omega)
  have hjj : jread b = (match jst (b.drop k) with | .ends => (l, k, false) | .rots => ([], 0, true) | .goes n => jrun f b (l ++ [jbody (b.drop k) n]) (k + (10 + n))) := by rw [hj]; rfl
  generalize hr : b.drop k = r at *
  by_cases h6 : r.length < 6
  · have e1 : jst r = .ends := by unfold jst jsz; rw [if_pos h6]
    rw [e1] at hjj
    simp only at hjj
    rw [hjj]
    have g1 : ((b.length - k : Nat) : Int) < 6 := by omega
    (try simp (maxSteps := 9999999) (disch := omega) only [go_sem])
    (have k9 := And.intro @bA_ren (And.intro @hr (And.intro @ht0 (And.intro @g0 (And.intro @g1 (k0))))); (repeat' (first | (refine AWpA.freeze0 0 2 rfl rfl ?_ ?_; (focus ((try simp (maxSteps := 9999999) (disch := omega) only [go_sem, k9]); first | done | omega))) | refine AWpA.seq ?_ | refine AWpA.block ?_ | (with_reducible refine CondP.tt ?_) | (with_reducible refine CondP.ff ?_) | refine AWpA.cg ?_ | ((first | refine AWpA.rg ?_ | refine AWpA.dg [] [] follows ?_ | refine TailK.tg ?_ | refine AWpA.skip ?_ | refine AWpA.exit ?_ | refine AWpA.ret ?_ | (with_reducible refine ARoundsA.succ ?_) | ((first | refine Runs.gkt (fun h9 => ?_) | refine Runs.gkf (fun h9 => ?_) | refine Runs.gnt (fun h9 => ?_) | refine Runs.gnf (fun h9 => ?_) | refine CondP.gt (fun h9 => ?_) | refine CondP.gf (fun h9 => ?_) | refine CondP.gnt (fun h9 => ?_) | refine CondP.gnf (fun h9 => ?_)); (try simp only [h9]); clear h9)); (try simp (maxSteps := 9999999) (disch := omega) only [go_sem, k9]); (try refine cnd ?_)) | ((first | refine CondP.split (fun hif => ?_) (fun hif => ?_) | refine Runs.part (fun hif => ?_) (fun hif => ?_)) <;> ((try simp only [hif]); (try simp only [BL] at hif); (try (have h9 : _ = true := hif; simp only [h9])); (try (have h9 : _ = false := hif; simp only [h9])); (try simp (maxSteps := 9999999) (disch := omega) only [go_sem, k9]); (try refine cnd ?_); (try (exfalso; omega; done)))))); (all_goals (try clear k9)))
    (apply Ret.det []; (focus (first | exact .inl rfl | exact .inr rfl)); (focus (simp (maxSteps := 9999999) (disch := omega) only [go_sem]; rfl)); (simp (maxSteps := 9999999) (disch := omega) only [go_sem]; (try (repeat' (first | done | trivial | rfl | exact leAs_rfl _ | decide | (refine And.intro ?_ ?_) | (simp; done) | omega | (simp; decide))))))
  have hl2 : (r.take 2).length = 2 := by simp; omega
  have hl6 : (r.take 6).length = 6 := by simp; omega
  have hb2 : ∀ x ∈ r.take 2, 0 ≤ x ∧ x ≤ 255 := fun x hx => hbd x (List.mem_of_mem_take hx)
  have hb6 : ∀ x ∈ r.take 6, 0 ≤ x ∧ x ≤ 255 := fun x hx => hbd x (List.mem_of_mem_take hx)
  have c1 := value_fz hl2 (by decide) hb2
  rw [val2 (by omega)] at c1
  have c2 := rholds_fz hl6 (by decide) hb6
  have hN := jN_bd hbd
  have g1 : (((b.length - k : Nat) : Int) < 6) = False := eq_false (by omega)
  have g2 : ((2 : Int) ≤ ((b.length - k : Nat) : Int)) = True := eq_true (by omega)
  have g3 : ((6 : Int) ≤ ((b.length - k : Nat) : Int)) = True := eq_true (by omega)
  cases hm : mkdB (r.take 6)
  · have e1 : jst r = .rots := by unfold jst jsz; rw [if_neg h6, if_pos hm]
    rw [e1] at hjj
    simp only at hjj
    rw [hjj]
    rw [hm] at c2
    clear e1 hm hjj hj
    generalize jN r = N at *
    (try simp (maxSteps := 9999999) (disch := omega) only [go_sem])
    (have k9 := And.intro @bA_ren (And.intro @hr (And.intro @ht0 (And.intro @g0 (And.intro @g1 (And.intro @g2 (And.intro @g3 (k0))))))); (repeat' (first | (refine AWpA.freeze0 0 2 rfl rfl ?_ ?_; (focus ((try simp (maxSteps := 9999999) (disch := omega) only [go_sem, k9]); first | done | omega))) | refine AWpA.seq ?_ | refine AWpA.block ?_ | (with_reducible refine CondP.tt ?_) | (with_reducible refine CondP.ff ?_) | refine AWpA.cg ?_ | ((first | refine AWpA.rg ?_ | refine AWpA.dg [] [] follows ?_ | refine TailK.tg ?_ | refine AWpA.skip ?_ | refine AWpA.exit ?_ | refine AWpA.ret ?_ | (with_reducible refine ARoundsA.succ ?_) | ((first | refine Runs.gkt (fun h9 => ?_) | refine Runs.gkf (fun h9 => ?_) | refine Runs.gnt (fun h9 => ?_) | refine Runs.gnf (fun h9 => ?_) | refine CondP.gt (fun h9 => ?_) | refine CondP.gf (fun h9 => ?_) | refine CondP.gnt (fun h9 => ?_) | refine CondP.gnf (fun h9 => ?_)); (try simp only [h9]); clear h9) | refine CallG.pg [] (c1) ?_ | refine CallG.pg [] (c2) ?_ | refine CallG.dg [] (c1) ?_ | refine CallG.dg [] (c2) ?_); (try simp (maxSteps := 9999999) (disch := omega) only [go_sem, k9]); (try refine cnd ?_)) | ((first | refine CondP.split (fun hif => ?_) (fun hif => ?_) | refine Runs.part (fun hif => ?_) (fun hif => ?_)) <;> ((try simp only [hif]); (try simp only [BL] at hif); (try (have h9 : _ = true := hif; simp only [h9])); (try (have h9 : _ = false := hif; simp only [h9])); (try simp (maxSteps := 9999999) (disch := omega) only [go_sem, k9]); (try refine cnd ?_); (try (exfalso; omega; done)))))); (all_goals (try clear k9)))
    (apply Ret.det []; (focus (first | exact .inl rfl | exact .inr rfl)); (focus (simp (maxSteps := 9999999) (disch := omega) only [go_sem, rowsB_nil]; rfl)); (simp (maxSteps := 9999999) (disch := omega) only [go_sem, rowsB_nil]; (try (repeat' (first | done | trivial | rfl | exact leAs_rfl _ | decide | (refine And.intro ?_ ?_) | (simp; done) | omega | (simp; decide))))))
  rw [hm] at c2
  by_cases hn : jN r < 1 ∨ 512 < jN r
  · have e1 : jst r = .rots := by unfold jst jsz; rw [if_neg h6, if_neg (by rw [hm]; simp), if_pos hn]
    rw [e1] at hjj
    simp only at hjj
    rw [hjj]
    clear e1 hm hjj hj
    generalize jN r = N at *
    (try simp (maxSteps := 9999999) (disch := omega) only [go_sem])
    (have k9 := And.intro @bA_ren (And.intro @hr (And.intro @ht0 (And.intro @g0 (And.intro @g1 (And.intro @g2 (And.intro @g3 (k0))))))); (repeat' (first | (refine AWpA.freeze0 0 2 rfl rfl ?_ ?_; (focus ((try simp (maxSteps := 9999999) (disch := omega) only [go_sem, k9]); first | done | omega))) | refine AWpA.seq ?_ | refine AWpA.block ?_ | (with_reducible refine CondP.tt ?_) | (with_reducible refine CondP.ff ?_) | refine AWpA.cg ?_ | ((first | refine AWpA.rg ?_ | refine AWpA.dg [] [] follows ?_ | refine TailK.tg ?_ | refine AWpA.skip ?_ | refine AWpA.exit ?_ | refine AWpA.ret ?_ | (with_reducible refine ARoundsA.succ ?_) | ((first | refine Runs.gkt (fun h9 => ?_) | refine Runs.gkf (fun h9 => ?_) | refine Runs.gnt (fun h9 => ?_) | refine Runs.gnf (fun h9 => ?_) | refine CondP.gt (fun h9 => ?_) | refine CondP.gf (fun h9 => ?_) | refine CondP.gnt (fun h9 => ?_) | refine CondP.gnf (fun h9 => ?_)); (try simp only [h9]); clear h9) | refine CallG.pg [] (c1) ?_ | refine CallG.pg [] (c2) ?_ | refine CallG.dg [] (c1) ?_ | refine CallG.dg [] (c2) ?_); (try simp (maxSteps := 9999999) (disch := omega) only [go_sem, k9]); (try refine cnd ?_)) | ((first | refine CondP.split (fun hif => ?_) (fun hif => ?_) | refine Runs.part (fun hif => ?_) (fun hif => ?_)) <;> ((try simp only [hif]); (try simp only [BL] at hif); (try (have h9 : _ = true := hif; simp only [h9])); (try (have h9 : _ = false := hif; simp only [h9])); (try simp (maxSteps := 9999999) (disch := omega) only [go_sem, k9]); (try refine cnd ?_); (try (exfalso; omega; done)))))); (all_goals (try clear k9)))
    all_goals first | (exfalso; omega) | (apply Ret.det []; (focus (first | exact .inl rfl | exact .inr rfl)); (focus (simp (maxSteps := 9999999) (disch := omega) only [go_sem, rowsB_nil]; rfl)); (simp (maxSteps := 9999999) (disch := omega) only [go_sem, rowsB_nil]; (try (repeat' (first | done | trivial | rfl | exact leAs_rfl _ | decide | (refine And.intro ?_ ?_) | (simp; done) | omega | (simp; decide))))))
  obtain ⟨n, hn'⟩ : ∃ n : Nat, jN r = (n : Int) := ⟨(jN r).toNat, by omega⟩
  have ez : jsz r = .goes n := by unfold jsz; rw [if_neg h6, if_neg (by rw [hm]; simp), if_neg hn, hn']; rfl
  rw [hn'] at c1 hn hN
  clear hn' hm
  have gn1 : ((n : Int) < 1) = False := eq_false (by omega)
  have gn2 : ((512 : Int) < (n : Int)) = False := eq_false (by omega)
  by_cases hlt : r.length < 10 + n
  · have e1 : jst r = .ends := by unfold jst; rw [ez]; simp only; rw [if_pos hlt]
    rw [e1] at hjj
    simp only at hjj
    rw [hjj]
    clear e1 ez hjj hj
    have g4 : (((b.length - k : Nat) : Int) < 10 + (n : Int)) = True := eq_true (by omega)
    (try simp (maxSteps := 9999999) (disch := omega) only [go_sem])
    (have k9 := And.intro @bA_ren (And.intro @hr (And.intro @ht0 (And.intro @g0 (And.intro @g1 (And.intro @g2 (And.intro @g3 (And.intro @g4 (And.intro @gn1 (And.intro @gn2 (k0)))))))))); (repeat' (first | (refine AWpA.freeze0 0 2 rfl rfl ?_ ?_; (focus ((try simp (maxSteps := 9999999) (disch := omega) only [go_sem, k9]); first | done | omega))) | refine AWpA.seq ?_ | refine AWpA.block ?_ | (with_reducible refine CondP.tt ?_) | (with_reducible refine CondP.ff ?_) | refine AWpA.cg ?_ | ((first | refine AWpA.rg ?_ | refine AWpA.dg [] [] follows ?_ | refine TailK.tg ?_ | refine AWpA.skip ?_ | refine AWpA.exit ?_ | refine AWpA.ret ?_ | (with_reducible refine ARoundsA.succ ?_) | ((first | refine Runs.gkt (fun h9 => ?_) | refine Runs.gkf (fun h9 => ?_) | refine Runs.gnt (fun h9 => ?_) | refine Runs.gnf (fun h9 => ?_) | refine CondP.gt (fun h9 => ?_) | refine CondP.gf (fun h9 => ?_) | refine CondP.gnt (fun h9 => ?_) | refine CondP.gnf (fun h9 => ?_)); (try simp only [h9]); clear h9) | refine CallG.pg [] (c1) ?_ | refine CallG.pg [] (c2) ?_ | refine CallG.dg [] (c1) ?_ | refine CallG.dg [] (c2) ?_); (try simp (maxSteps := 9999999) (disch := omega) only [go_sem, k9]); (try refine cnd ?_)) | ((first | refine CondP.split (fun hif => ?_) (fun hif => ?_) | refine Runs.part (fun hif => ?_) (fun hif => ?_)) <;> ((try simp only [hif]); (try simp only [BL] at hif); (try (have h9 : _ = true := hif; simp only [h9])); (try (have h9 : _ = false := hif; simp only [h9])); (try simp (maxSteps := 9999999) (disch := omega) only [go_sem, k9]); (try refine cnd ?_); (try (exfalso; omega; done)))))); (all_goals (try clear k9)))
    (apply Ret.det []; (focus (first | exact .inl rfl | exact .inr rfl)); (focus (simp (maxSteps := 9999999) (disch := omega) only [go_sem]; rfl)); (simp (maxSteps := 9999999) (disch := omega) only [go_sem]; (try (repeat' (first | done | trivial | rfl | exact leAs_rfl _ | decide | (refine And.intro ?_ ?_) | (simp; done) | omega | (simp; decide))))))
  have g4 : (((b.length - k : Nat) : Int) < 10 + (n : Int)) = False := eq_false (by omega)
  have g5 : (10 + (n : Int)).toNat - 6 = n + 4 := by omega
  have g6 : 10 + n - 6 = n + 4 := by omega
  have g7 : (6 + (n : Int)).toNat - 6 = n := by omega
  have hl4 : ((r.drop 6).take (n + 4)).length = n + 4 := by simp; omega
  have hb4 : ∀ x ∈ (r.drop 6).take (n + 4), 0 ≤ x ∧ x ≤ 255 := fun x hx => hbd x (List.mem_of_mem_drop (List.mem_of_mem_take hx))
  have c3 := rholds_fz hl4 (by omega) hb4
  cases hm : mkdB ((r.drop 6).take (n + 4))
  · have e1 : jst r = .rots := by unfold jst; rw [ez]; simp only; rw [if_neg hlt, if_pos hm]
    rw [e1] at hjj
    simp only at hjj
    rw [hjj]
    rw [hm] at c3
    clear e1 ez hjj hj hm
    (try simp (maxSteps := 9999999) (disch := omega) only [go_sem])
    (have k9 := And.intro @bA_ren (And.intro @hr (And.intro @ht0 (And.intro @g0 (And.intro @g1 (And.intro @g2 (And.intro @g3 (And.intro @g4 (And.intro @g5 (And.intro @g6 (And.intro @gn1 (And.intro @gn2 (k0)))))))))))); (repeat' (first | (refine AWpA.freeze0 0 2 rfl rfl ?_ ?_; (focus ((try simp (maxSteps := 9999999) (disch := omega) only [go_sem, k9]); first | done | omega))) | refine AWpA.seq ?_ | refine AWpA.block ?_ | (with_reducible refine CondP.tt ?_) | (with_reducible refine CondP.ff ?_) | refine AWpA.cg ?_ | ((first | refine AWpA.rg ?_ | refine AWpA.dg [] [] follows ?_ | refine TailK.tg ?_ | refine AWpA.skip ?_ | refine AWpA.exit ?_ | refine AWpA.ret ?_ | (with_reducible refine ARoundsA.succ ?_) | ((first | refine Runs.gkt (fun h9 => ?_) | refine Runs.gkf (fun h9 => ?_) | refine Runs.gnt (fun h9 => ?_) | refine Runs.gnf (fun h9 => ?_) | refine CondP.gt (fun h9 => ?_) | refine CondP.gf (fun h9 => ?_) | refine CondP.gnt (fun h9 => ?_) | refine CondP.gnf (fun h9 => ?_)); (try simp only [h9]); clear h9) | refine CallG.pg [] (c1) ?_ | refine CallG.pg [] (c2) ?_ | refine CallG.pg [] (c3) ?_ | refine CallG.dg [] (c1) ?_ | refine CallG.dg [] (c2) ?_ | refine CallG.dg [] (c3) ?_); (try simp (maxSteps := 9999999) (disch := omega) only [go_sem, k9]); (try refine cnd ?_)) | ((first | refine CondP.split (fun hif => ?_) (fun hif => ?_) | refine Runs.part (fun hif => ?_) (fun hif => ?_)) <;> ((try simp only [hif]); (try simp only [BL] at hif); (try (have h9 : _ = true := hif; simp only [h9])); (try (have h9 : _ = false := hif; simp only [h9])); (try simp (maxSteps := 9999999) (disch := omega) only [go_sem, k9]); (try refine cnd ?_); (try (exfalso; omega; done)))))); (all_goals (try clear k9)))
    (apply Ret.det []; (focus (first | exact .inl rfl | exact .inr rfl)); (focus (simp (maxSteps := 9999999) (disch := omega) only [go_sem, rowsB_nil]; rfl)); (simp (maxSteps := 9999999) (disch := omega) only [go_sem, rowsB_nil]; (try (repeat' (first | done | trivial | rfl | exact leAs_rfl _ | decide | (refine And.intro ?_ ?_) | (simp; done) | omega | (simp; decide))))))
  · have e1 : jst r = .goes n := by unfold jst; rw [ez]; simp only; rw [if_neg hlt, if_neg (by rw [hm]; simp)]
    rw [e1] at hjj
    simp only at hjj
    rw [hm] at c3
    clear e1 ez hj hm
    have hbl : (jbody r n).length = n := jbody_len (by omega)
    unfold jbody at hbl hjj
    have hpl : l.length + 1 ≤ 4294967296 := by omega
    (try simp (maxSteps := 9999999) (disch := omega) only [go_sem])
    (have k9 := And.intro @bA_ren (And.intro @hr (And.intro @ht0 (And.intro @g0 (And.intro @g1 (And.intro @g2 (And.intro @g3 (And.intro @g4 (And.intro @g5 (And.intro @g6 (And.intro @g7 (And.intro @gn1 (And.intro @gn2 (k0))))))))))))); (repeat' (first | refine AWpA.seq ?_ | refine AWpA.block ?_ | (with_reducible refine CondP.tt ?_) | (with_reducible refine CondP.ff ?_) | refine AWpA.cg ?_ | ((first | refine AWpA.rg ?_ | refine AWpA.dg [] [] follows ?_ | refine TailK.tg ?_ | refine AWpA.skip ?_ | refine AWpA.exit ?_ | refine AWpA.ret ?_ | (with_reducible refine ARoundsA.succ ?_) | ((first | refine Runs.gkt (fun h9 => ?_) | refine Runs.gkf (fun h9 => ?_) | refine Runs.gnt (fun h9 => ?_) | refine Runs.gnf (fun h9 => ?_) | refine CondP.gt (fun h9 => ?_) | refine CondP.gf (fun h9 => ?_) | refine CondP.gnt (fun h9 => ?_) | refine CondP.gnf (fun h9 => ?_)); (try simp only [h9]); clear h9) | refine CallG.pg [] (c1) ?_ | refine CallG.pg [] (c2) ?_ | refine CallG.pg [] (c3) ?_ | refine CallG.dg [] (c1) ?_ | refine CallG.dg [] (c2) ?_ | refine CallG.dg [] (c3) ?_); (try simp (maxSteps := 9999999) (disch := omega) only [go_sem, k9]); (try refine cnd ?_)) | ((first | refine CondP.split (fun hif => ?_) (fun hif => ?_) | refine Runs.part (fun hif => ?_) (fun hif => ?_)) <;> ((try simp only [hif]); (try simp only [BL] at hif); (try (have h9 : _ = true := hif; simp only [h9])); (try (have h9 : _ = false := hif; simp only [h9])); (try simp (maxSteps := 9999999) (disch := omega) only [go_sem, k9]); (try refine cnd ?_); (try (exfalso; omega; done)))))); (all_goals (try clear k9)))
    have hdd : r.drop (10 + n) = b.drop (k + (10 + n)) := by rw [← hr, List.drop_drop]
    have hsn : rowsB l ++ [.fz 1 n (bA ((r.drop 6).take n))] = rowsB (l ++ [(r.drop 6).take n]) := by
      have := rowsB_snoc l ((r.drop 6).take n) []
      rw [hbl, List.append_nil] at this
      exact this
    (apply Back.to (l ++ [(r.drop 6).take n], k + (10 + n)) [_]; (focus ((try simp (maxSteps := 9999999) (disch := omega) only [go_sem, bA_ren, hbl, hsn, Int.add_assoc]); first | done | omega)); rotate_left; (focus (simp (maxSteps := 9999999) (disch := omega) only [go_sem, bA_ren, hbl, hsn, Int.add_assoc]; (try (repeat' (first | done | trivial | rfl | exact leAs_rfl _ | decide | (refine And.intro ?_ ?_) | (simp; done) | omega | (simp; decide)))))))
    exact ⟨by simp only; omega, by simp; omega, f, by simp only; omega, hjj⟩
theorem jsame_any {P Q : List AV} {o o' : Nat} {l m : List (List Int)} (s : SegR P o l) (t : SegR Q o' m) (hl : ∀ r ∈ l, ∀ x ∈ r, 0 ≤ x ∧ x ≤ 255) (hm : ∀ r ∈ m, ∀ x ∈ r, 0 ≤ x ∧ x ≤ 255) :
    ACall Try.prog 30 [.sl 0 o l.length 1 none, .sl 1 o' m.length 1 none] [.cells true P, .cells true Q] (Det (Bo (decide (l = m))) [.cells true P, .cells true Q]) := by
  have s1 := s.le
  have s2 := t.le
  have s3 := s.small
  have s4 := t.small
  by_cases hlen : l.length = m.length
  · have g0 : ((l.length : Int) != (m.length : Int)) = false := by simp [hlen]
    refine ACall.startA c30_ok Try.func30 rfl Try.ntmps30 (by kernel_rfl) res30_ok rfl rfl rfl ?_; simp (maxSteps := 9999999) (disch := omega) only [go_sem]
    (have k9 := And.intro @s.ren (And.intro @t.ren (And.intro @g0 (k0))); (repeat' (first | refine AWpA.seq ?_ | refine AWpA.block ?_ | (with_reducible refine CondP.tt ?_) | (with_reducible refine CondP.ff ?_) | refine AWpA.cg ?_ | ((first | refine AWpA.rg ?_ | refine AWpA.dg [] [] follows ?_ | refine TailK.tg ?_ | refine AWpA.skip ?_ | refine AWpA.exit ?_ | refine AWpA.ret ?_ | (with_reducible refine ARoundsA.succ ?_) | ((first | refine Runs.gkt (fun h9 => ?_) | refine Runs.gkf (fun h9 => ?_) | refine Runs.gnt (fun h9 => ?_) | refine Runs.gnf (fun h9 => ?_) | refine CondP.gt (fun h9 => ?_) | refine CondP.gf (fun h9 => ?_) | refine CondP.gnt (fun h9 => ?_) | refine CondP.gnf (fun h9 => ?_)); (try simp only [h9]); clear h9)); (try simp (maxSteps := 9999999) (disch := omega) only [go_sem, k9]); (try refine cnd ?_)) | ((first | refine CondP.split (fun hif => ?_) (fun hif => ?_) | refine Runs.part (fun hif => ?_) (fun hif => ?_)) <;> ((try simp only [hif]); (try simp only [BL] at hif); (try (have h9 : _ = true := hif; simp only [h9])); (try (have h9 : _ = false := hif; simp only [h9])); (try simp (maxSteps := 9999999) (disch := omega) only [go_sem, k9]); (try refine cnd ?_); (try (exfalso; omega; done)))))); (all_goals (try clear k9)))
    (apply AWpA.loopL (fun i : Nat => [(0, .sl 0 o l.length 1 none), (1, .sl 1 o' m.length 1 none), (5, I i)]) (fun i => [.cells true P, .cells true Q]) (fun i => l.length - i) (fun i => i ≤ l.length ∧ l.take i = m.take i) (0) [0, 1]; rotate_left; (focus (simp (maxSteps := 9999999) (disch := omega) only [go_sem, s.ren, t.ren]; (try (repeat' (first | done | trivial | rfl | exact leAs_rfl _ | decide | (refine And.intro ?_ ?_) | (simp; done) | omega | (simp; decide)))))); rotate_right)
    · exact ⟨Nat.zero_le _, rfl⟩
    rintro i ⟨hi, hp⟩
    (try simp only at hi)
    by_cases hin : i < l.length
    · have g1 : ((i : Int) < (l.length : Int)) = True := eq_true (by omega)
      have g6 : ((i : Int) < (m.length : Int)) = True := eq_true (by omega)
      have hin2 : i < m.length := by omega
      have g2 := s.at i hin
      have g3 := t.at i hin2
      have e1 : l.take (i + 1) = l.take i ++ [l[i]] := by rw [List.take_add_one, List.getElem?_eq_getElem hin]; rfl
      have e2 : m.take (i + 1) = m.take i ++ [m[i]] := by rw [List.take_add_one, List.getElem?_eq_getElem hin2]; rfl
      have e3 : l = m → l[i] = m[i] := fun h => by subst h; rfl
      have hb1 := hl _ (List.getElem_mem hin)
      have hb2 := hm _ (List.getElem_mem hin2)
      generalize l[i] = x at g2 e1 e3 hb1
      generalize m[i] = y at g3 e2 e3 hb2
      have g4 : (ByteArray.mk (toB x).toArray != ByteArray.mk (toB y).toArray) = !decide (x = y) := by unfold bne; rw [ba_beq hb1 hb2]
      by_cases hxy : x = y
      · rw [decide_eq_true hxy] at g4
        (try simp (maxSteps := 9999999) (disch := omega) only [go_sem])
        (have k9 := And.intro @g1 (And.intro @g6 (And.intro @s.ren (And.intro @t.ren (And.intro @g2 (And.intro @g3 (And.intro @g4 (k0))))))); (repeat' (first | refine AWpA.seq ?_ | refine AWpA.block ?_ | (with_reducible refine CondP.tt ?_) | (with_reducible refine CondP.ff ?_) | refine AWpA.cg ?_ | ((first | refine AWpA.rg ?_ | refine AWpA.dg [] [] follows ?_ | refine TailK.tg ?_ | refine AWpA.skip ?_ | refine AWpA.exit ?_ | refine AWpA.ret ?_ | (with_reducible refine ARoundsA.succ ?_) | ((first | refine Runs.gkt (fun h9 => ?_) | refine Runs.gkf (fun h9 => ?_) | refine Runs.gnt (fun h9 => ?_) | refine Runs.gnf (fun h9 => ?_) | refine CondP.gt (fun h9 => ?_) | refine CondP.gf (fun h9 => ?_) | refine CondP.gnt (fun h9 => ?_) | refine CondP.gnf (fun h9 => ?_)); (try simp only [h9]); clear h9)); (try simp (maxSteps := 9999999) (disch := omega) only [go_sem, k9]); (try refine cnd ?_)) | ((first | refine CondP.split (fun hif => ?_) (fun hif => ?_) | refine Runs.part (fun hif => ?_) (fun hif => ?_)) <;> ((try simp only [hif]); (try simp only [BL] at hif); (try (have h9 : _ = true := hif; simp only [h9])); (try (have h9 : _ = false := hif; simp only [h9])); (try simp (maxSteps := 9999999) (disch := omega) only [go_sem, k9]); (try refine cnd ?_); (try (exfalso; omega; done)))))); (all_goals (try clear k9)))
        (apply Back.to (i + 1) [0, 1]; (focus ((try simp (maxSteps := 9999999) (disch := omega) only [go_sem, s.ren, t.ren]); first | done | omega)); rotate_left; (focus (simp (maxSteps := 9999999) (disch := omega) only [go_sem, s.ren, t.ren]; (try (repeat' (first | done | trivial | rfl | exact leAs_rfl _ | decide | (refine And.intro ?_ ?_) | (simp; done) | omega | (simp; decide)))))))
        exact ⟨by omega, by rw [e1, e2, hp, hxy]⟩
      · have g5 : decide (l = m) = false := decide_eq_false fun h => hxy (e3 h)
        rw [decide_eq_false hxy] at g4
        (try simp (maxSteps := 9999999) (disch := omega) only [go_sem])
        (have k9 := And.intro @g1 (And.intro @g6 (And.intro @s.ren (And.intro @t.ren (And.intro @g2 (And.intro @g3 (And.intro @g4 (k0))))))); (repeat' (first | refine AWpA.seq ?_ | refine AWpA.block ?_ | (with_reducible refine CondP.tt ?_) | (with_reducible refine CondP.ff ?_) | refine AWpA.cg ?_ | ((first | refine AWpA.rg ?_ | refine AWpA.dg [] [] follows ?_ | refine TailK.tg ?_ | refine AWpA.skip ?_ | refine AWpA.exit ?_ | refine AWpA.ret ?_ | (with_reducible refine ARoundsA.succ ?_) | ((first | refine Runs.gkt (fun h9 => ?_) | refine Runs.gkf (fun h9 => ?_) | refine Runs.gnt (fun h9 => ?_) | refine Runs.gnf (fun h9 => ?_) | refine CondP.gt (fun h9 => ?_) | refine CondP.gf (fun h9 => ?_) | refine CondP.gnt (fun h9 => ?_) | refine CondP.gnf (fun h9 => ?_)); (try simp only [h9]); clear h9)); (try simp (maxSteps := 9999999) (disch := omega) only [go_sem, k9]); (try refine cnd ?_)) | ((first | refine CondP.split (fun hif => ?_) (fun hif => ?_) | refine Runs.part (fun hif => ?_) (fun hif => ?_)) <;> ((try simp only [hif]); (try simp only [BL] at hif); (try (have h9 : _ = true := hif; simp only [h9])); (try (have h9 : _ = false := hif; simp only [h9])); (try simp (maxSteps := 9999999) (disch := omega) only [go_sem, k9]); (try refine cnd ?_); (try (exfalso; omega; done)))))); (all_goals (try clear k9)))
        (apply Ret.det [0, 1]; (focus (first | exact .inl rfl | exact .inr rfl)); (focus (simp (maxSteps := 9999999) (disch := omega) only [go_sem, s.ren, t.ren, g5]; rfl)); (simp (maxSteps := 9999999) (disch := omega) only [go_sem, s.ren, t.ren, g5]; (try (repeat' (first | done | trivial | rfl | exact leAs_rfl _ | decide | (refine And.intro ?_ ?_) | (simp; done) | omega | (simp; decide))))))
    · obtain rfl : i = l.length := by omega
      have g5 : decide (l = m) = true := decide_eq_true (by rw [List.take_length, hlen, List.take_length] at hp; exact hp)
      (try simp (maxSteps := 9999999) (disch := omega) only [go_sem])
      (have k9 := k0; (repeat' (first | refine AWpA.seq ?_ | refine AWpA.block ?_ | (with_reducible refine CondP.tt ?_) | (with_reducible refine CondP.ff ?_) | refine AWpA.cg ?_ | ((first | refine AWpA.rg ?_ | refine AWpA.dg [] [] follows ?_ | refine TailK.tg ?_ | refine AWpA.skip ?_ | refine AWpA.exit ?_ | refine AWpA.ret ?_ | (with_reducible refine ARoundsA.succ ?_) | ((first | refine Runs.gkt (fun h9 => ?_) | refine Runs.gkf (fun h9 => ?_) | refine Runs.gnt (fun h9 => ?_) | refine Runs.gnf (fun h9 => ?_) | refine CondP.gt (fun h9 => ?_) | refine CondP.gf (fun h9 => ?_) | refine CondP.gnt (fun h9 => ?_) | refine CondP.gnf (fun h9 => ?_)); (try simp only [h9]); clear h9)); (try simp (maxSteps := 9999999) (disch := omega) only [go_sem, k9]); (try refine cnd ?_)) | ((first | refine CondP.split (fun hif => ?_) (fun hif => ?_) | refine Runs.part (fun hif => ?_) (fun hif => ?_)) <;> ((try simp only [hif]); (try simp only [BL] at hif); (try (have h9 : _ = true := hif; simp only [h9])); (try (have h9 : _ = false := hif; simp only [h9])); (try simp (maxSteps := 9999999) (disch := omega) only [go_sem, k9]); (try refine cnd ?_); (try (exfalso; omega; done)))))); (all_goals (try clear k9)))
      (apply Ret.det [0, 1]; (focus (first | exact .inl rfl | exact .inr rfl)); (focus (simp (maxSteps := 9999999) (disch := omega) only [go_sem, s.ren, t.ren, g5]; rfl)); (simp (maxSteps := 9999999) (disch := omega) only [go_sem, s.ren, t.ren, g5]; (try (repeat' (first | done | trivial | rfl | exact leAs_rfl _ | decide | (refine And.intro ?_ ?_) | (simp; done) | omega | (simp; decide))))))
  · have g0 : ((l.length : Int) != (m.length : Int)) = true := by simp; omega
    have g5 : decide (l = m) = false := decide_eq_false fun h => hlen (by rw [h])
    refine ACall.startA c30_ok Try.func30 rfl Try.ntmps30 (by kernel_rfl) res30_ok rfl rfl rfl ?_; simp (maxSteps := 9999999) (disch := omega) only [go_sem]
    (have k9 := And.intro @s.ren (And.intro @t.ren (And.intro @g0 (k0))); (repeat' (first | refine AWpA.seq ?_ | refine AWpA.block ?_ | (with_reducible refine CondP.tt ?_) | (with_reducible refine CondP.ff ?_) | refine AWpA.cg ?_ | ((first | refine AWpA.rg ?_ | refine AWpA.dg [] [] follows ?_ | refine TailK.tg ?_ | refine AWpA.skip ?_ | refine AWpA.exit ?_ | refine AWpA.ret ?_ | (with_reducible refine ARoundsA.succ ?_) | ((first | refine Runs.gkt (fun h9 => ?_) | refine Runs.gkf (fun h9 => ?_) | refine Runs.gnt (fun h9 => ?_) | refine Runs.gnf (fun h9 => ?_) | refine CondP.gt (fun h9 => ?_) | refine CondP.gf (fun h9 => ?_) | refine CondP.gnt (fun h9 => ?_) | refine CondP.gnf (fun h9 => ?_)); (try simp only [h9]); clear h9)); (try simp (maxSteps := 9999999) (disch := omega) only [go_sem, k9]); (try refine cnd ?_)) | ((first | refine CondP.split (fun hif => ?_) (fun hif => ?_) | refine Runs.part (fun hif => ?_) (fun hif => ?_)) <;> ((try simp only [hif]); (try simp only [BL] at hif); (try (have h9 : _ = true := hif; simp only [h9])); (try (have h9 : _ = false := hif; simp only [h9])); (try simp (maxSteps := 9999999) (disch := omega) only [go_sem, k9]); (try refine cnd ?_); (try (exfalso; omega; done)))))); (all_goals (try clear k9)))
    (apply Ret.det [0, 1]; (focus (first | exact .inl rfl | exact .inr rfl)); (focus (simp (maxSteps := 9999999) (disch := omega) only [go_sem, s.ren, t.ren, g5]; rfl)); (simp (maxSteps := 9999999) (disch := omega) only [go_sem, s.ren, t.ren, g5]; (try (repeat' (first | done | trivial | rfl | exact leAs_rfl _ | decide | (refine And.intro ?_ ?_) | (simp; done) | omega | (simp; decide))))))
end Go.Proofs.Ythbpdmlbfnjoiaa
