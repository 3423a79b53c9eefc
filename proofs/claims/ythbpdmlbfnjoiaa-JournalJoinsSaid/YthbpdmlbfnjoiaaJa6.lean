/- The walk of JournalReads. -/
import Derived.Test.YthbpdmlbfnjoiaaJa5
namespace Go.Proofs.Ythbpdmlbfnjoiaa
set_option linter.unusedSimpArgs false
set_option linter.unusedVariables false
set_option maxHeartbeats 4000000
open Go Go.Am Go.RowKit Go.ChangeShapes Go.WideShapes Go.ChangeAt Go.Crc
set_option linter.unusedSimpArgs false
set_option maxHeartbeats 4000000
set_option maxRecDepth 100000
/- quidnunc/quidnunclaw07.speaks -/
noncomputable def c24_1 : ACode := .region false [⟨some 0, .move, [.c (.val (.bool false))], none⟩] [] [] [] false [] []
noncomputable def c24_3 : ACode := .region false [⟨some 4, .buildSl 1 1 [(.int .u8 0)] [(0, 1)], [.c (.val (.int .u8 7))], none⟩,
  ⟨some 5, .call 25, [.t 4], none⟩,
  ⟨some 3, .move, [.t 5], none⟩,
  ⟨some 6, .ext 0, [.t 3], none⟩,
  ⟨some 7, .ext 1, [.t 3], none⟩,
  ⟨some 1, .move, [.t 6], none⟩,
  ⟨some 2, .move, [.t 7], none⟩] [] [] [1, 2] true [] []
noncomputable def c24_5 : ACode := .region true [⟨some 8, .move, [.t 2], none⟩,
  ⟨some 9, .bin .eql, [.t 8, .c (.val (.int .i64 0))], none⟩,
  ⟨some 10, .move, [.t 9], none⟩,
  ⟨some 11, .move, [.t 1], some (some 10, true)⟩,
  ⟨some 12, .toStr, [.t 11], some (some 10, true)⟩,
  ⟨some 13, .buildSl 1 1 [(.int .u8 0)] [(0, 1)], [.c (.val (.int .u8 7))], some (some 10, true)⟩,
  ⟨some 14, .call 27, [.t 13], some (some 10, true)⟩,
  ⟨some 15, .toStr, [.t 14], some (some 10, true)⟩,
  ⟨some 16, .bin .eql, [.t 12, .t 15], some (some 10, true)⟩,
  ⟨some 17, .pick, [.t 10, .t 16, .c (.val (.bool false))], none⟩,
  ⟨some 18, .move, [.t 17], none⟩,
  ⟨some 19, .move, [.t 1], some (some 18, true)⟩,
  ⟨some 20, .len, [.t 19], some (some 18, true)⟩,
  ⟨some 21, .bin .eql, [.t 20, .c (.val (.int .i64 11))], some (some 18, true)⟩,
  ⟨some 22, .pick, [.t 18, .t 21, .c (.val (.bool false))], none⟩,
  ⟨some 0, .move, [.t 22], none⟩] [7] [] [0] true [] []
noncomputable def c24_4 : ACode := .seq c24_5 .ret
noncomputable def c24_2 : ACode := .seq c24_3 c24_4
noncomputable def c24_0 : ACode := .seq c24_1 c24_2
noncomputable def code24 : Code := (Try.f24.body).getD .skip
theorem c24_ok : compC Try.prog 23 code24 = some (strip c24_0) := by kernel_rfl
theorem res24_ok : Try.f24.results.toList.mapM (resC Try.prog) = some [(0, none)] := by kernel_rfl
/- quidnunc/quidnunclaw07.few -/
noncomputable def c31_1 : ACode := .region false [⟨some 2, .move, [.c (.val (.bool false))], none⟩] [] [] [0] false [] []
noncomputable def c31_4 : ACode := .region false [⟨some 5, .move, [.t 0], none⟩,
  ⟨some 6, .len, [.t 5], none⟩,
  ⟨some 7, .move, [.c (.val (.int .i64 0))], none⟩] [] [] [0, 5, 6, 7] false [] []
noncomputable def c31_8 : ACode := .region false [⟨some 8, .bin .lss, [.t 7, .t 6], none⟩] [] [] [0, 5, 6, 7, 8] false [] []
noncomputable def c31_10 : ACode := .cond (.t 8) .skip (.exit 0)
noncomputable def c31_14 : ACode := .region false [⟨some 9, .ixS 1, [.t 5, .t 7], none⟩,
  ⟨some 10, .load false 1, [.t 9], none⟩,
  ⟨some 4, .move, [.t 10], none⟩] [] [] [0, 4, 5, 6, 7] false [] []
noncomputable def c31_16 : ACode := .region false [⟨some 11, .move, [.t 4], none⟩,
  ⟨some 12, .len, [.t 11], none⟩,
  ⟨some 13, .bin .gtr, [.t 12, .c (.val (.int .i64 600))], none⟩] [] [] [0, 5, 6, 7, 13] false [] []
noncomputable def c31_19 : ACode := .region false [⟨some 2, .move, [.c (.val (.bool false))], none⟩] [] [] [2] false [] []
noncomputable def c31_18 : ACode := .seq c31_19 .ret
noncomputable def c31_17 : ACode := .cond (.t 13) c31_18 .skip
noncomputable def c31_15 : ACode := .seq c31_16 c31_17
noncomputable def c31_13 : ACode := .seq c31_14 c31_15
noncomputable def c31_12 : ACode := .block 1 c31_13
noncomputable def c31_20 : ACode := .region false [⟨some 14, .bin .add, [.t 7, .c (.val (.int .i64 1))], none⟩,
  ⟨some 7, .move, [.t 14], none⟩] [] [] [0, 5, 6, 7] false [] []
noncomputable def c31_11 : ACode := .seq c31_12 c31_20
noncomputable def c31_9 : ACode := .seq c31_10 c31_11
noncomputable def c31_7 : ACode := .seq c31_8 c31_9
noncomputable def c31_6 : ACode := .loop c31_7
noncomputable def c31_5 : ACode := .block 0 c31_6
noncomputable def c31_3 : ACode := .seq c31_4 c31_5
noncomputable def c31_22 : ACode := .region false [⟨some 15, .move, [.t 0], none⟩,
  ⟨some 16, .len, [.t 15], none⟩,
  ⟨some 17, .bin .leq, [.t 16, .c (.val (.int .i64 20))], none⟩,
  ⟨some 2, .move, [.t 17], none⟩] [] [] [2] false [] []
noncomputable def c31_21 : ACode := .seq c31_22 .ret
noncomputable def c31_2 : ACode := .seq c31_3 c31_21
noncomputable def c31_0 : ACode := .seq c31_1 c31_2
noncomputable def code31 : Code := (Try.f31.body).getD .skip
theorem c31_ok : compC Try.prog 18 code31 = some (strip c31_0) := by kernel_rfl
theorem res31_ok : Try.f31.results.toList.mapM (resC Try.prog) = some [(2, none)] := by kernel_rfl
/- quidnunc/quidnunclaw07.JournalReads -/
noncomputable def c7_1 : ACode := .region false [⟨some 4, .move, [.c (.val (.bool false))], none⟩] [] [] [0, 1] false [] []
noncomputable def c7_4 : ACode := .region false [⟨some 14, .call 24, [], none⟩,
  ⟨some 15, .un .not, [.t 14], none⟩,
  ⟨some 16, .move, [.t 15], none⟩,
  ⟨some 17, .move, [.t 0], some (some 16, false)⟩,
  ⟨some 18, .len, [.t 17], some (some 16, false)⟩,
  ⟨some 19, .bin .gtr, [.t 18, .c (.val (.int .i64 600))], some (some 16, false)⟩,
  ⟨some 20, .pick, [.t 16, .c (.val (.bool true)), .t 19], none⟩,
  ⟨some 21, .move, [.t 20], none⟩,
  ⟨some 22, .move, [.t 1], some (some 21, false)⟩,
  ⟨some 23, .len, [.t 22], some (some 21, false)⟩,
  ⟨some 24, .bin .gtr, [.t 23, .c (.val (.int .i64 2000))], some (some 21, false)⟩,
  ⟨some 25, .pick, [.t 21, .c (.val (.bool true)), .t 24], none⟩] [] [] [0, 1, 25] true [] []
noncomputable def c7_7 : ACode := .region false [⟨some 26, .call 24, [], none⟩,
  ⟨some 4, .move, [.t 26], none⟩] [] [] [4] true [] []
noncomputable def c7_6 : ACode := .seq c7_7 .ret
noncomputable def c7_5 : ACode := .cond (.t 25) c7_6 .skip
noncomputable def c7_3 : ACode := .seq c7_4 c7_5
noncomputable def c7_9 : ACode := .region false [⟨some 28, .move, [.t 0], none⟩,
  ⟨some 29, .call 25, [.t 28], none⟩,
  ⟨some 27, .move, [.t 29], none⟩,
  ⟨some 30, .ext 0, [.t 27], none⟩,
  ⟨some 31, .ext 1, [.t 27], none⟩,
  ⟨some 5, .move, [.t 30], none⟩,
  ⟨some 6, .move, [.t 31], none⟩] [] [] [0, 1, 5, 6] true [] []
noncomputable def c7_11 : ACode := .region false [⟨some 32, .move, [.t 0], none⟩,
  ⟨some 33, .call 26, [.t 32], none⟩,
  ⟨some 7, .move, [.t 33], none⟩] [] [] [0, 1, 5, 6, 7] true [] []
noncomputable def c7_14 : ACode := .region true [⟨some 34, .move, [.t 6], none⟩,
  ⟨some 35, .move, [.t 7], none⟩,
  ⟨some 36, .bin .neq, [.t 34, .t 35], none⟩,
  ⟨some 37, .move, [.t 36], none⟩,
  ⟨some 38, .move, [.t 7], some (some 37, false)⟩,
  ⟨some 39, .bin .eql, [.t 38, .c (.val (.int .i64 0))], some (some 37, false)⟩,
  ⟨some 40, .move, [.t 39], some (some 37, false)⟩,
  ⟨some 41, .move, [.t 5], some (some 40, true)⟩,
  ⟨some 42, .toStr, [.t 41], some (some 40, true)⟩,
  ⟨some 43, .move, [.t 0], some (some 40, true)⟩,
  ⟨some 44, .call 27, [.t 43], some (some 40, true)⟩,
  ⟨some 45, .toStr, [.t 44], some (some 40, true)⟩,
  ⟨some 46, .bin .neq, [.t 42, .t 45], some (some 40, true)⟩,
  ⟨some 47, .pick, [.t 40, .t 46, .c (.val (.bool false))], some (some 37, false)⟩,
  ⟨some 48, .pick, [.t 37, .c (.val (.bool true)), .t 47], none⟩,
  ⟨some 49, .move, [.t 48], none⟩,
  ⟨some 50, .move, [.t 7], some (some 49, false)⟩,
  ⟨some 51, .bin .neq, [.t 50, .c (.val (.int .i64 0))], some (some 49, false)⟩,
  ⟨some 52, .move, [.t 51], some (some 49, false)⟩,
  ⟨some 53, .move, [.t 5], some (some 52, true)⟩,
  ⟨some 54, .len, [.t 53], some (some 52, true)⟩,
  ⟨some 55, .bin .neq, [.t 54, .c (.val (.int .i64 0))], some (some 52, true)⟩,
  ⟨some 56, .pick, [.t 52, .t 55, .c (.val (.bool false))], some (some 49, false)⟩,
  ⟨some 57, .pick, [.t 49, .c (.val (.bool true)), .t 56], none⟩] [11] [] [1, 57] true [] []
noncomputable def c7_17 : ACode := .region false [⟨some 4, .move, [.c (.val (.bool false))], none⟩] [] [] [4] false [] []
noncomputable def c7_16 : ACode := .seq c7_17 .ret
noncomputable def c7_15 : ACode := .cond (.t 57) c7_16 .skip
noncomputable def c7_13 : ACode := .seq c7_14 c7_15
noncomputable def c7_19 : ACode := .region false [⟨some 59, .move, [.t 1], none⟩,
  ⟨some 60, .call 28, [.t 59], none⟩,
  ⟨some 58, .move, [.t 60], none⟩,
  ⟨some 61, .ext 0, [.t 58], none⟩,
  ⟨some 62, .ext 1, [.t 58], none⟩,
  ⟨some 63, .ext 2, [.t 58], none⟩,
  ⟨some 8, .move, [.t 61], none⟩,
  ⟨some 9, .move, [.t 62], none⟩,
  ⟨some 10, .move, [.t 63], none⟩] [] [] [1, 8, 9, 10] true [] []
noncomputable def c7_21 : ACode := .region false [⟨some 65, .move, [.t 1], none⟩,
  ⟨some 66, .call 29, [.t 65], none⟩,
  ⟨some 64, .move, [.t 66], none⟩,
  ⟨some 67, .ext 0, [.t 64], none⟩,
  ⟨some 68, .ext 1, [.t 64], none⟩,
  ⟨some 69, .ext 2, [.t 64], none⟩,
  ⟨some 11, .move, [.t 67], none⟩,
  ⟨some 12, .move, [.t 68], none⟩,
  ⟨some 13, .move, [.t 69], none⟩] [] [] [8, 9, 10, 11, 12, 13] true [] []
noncomputable def c7_23 : ACode := .region false [⟨some 70, .move, [.t 10], none⟩,
  ⟨some 71, .move, [.t 13], none⟩,
  ⟨some 72, .bin .eql, [.t 70, .t 71], none⟩,
  ⟨some 73, .move, [.t 72], none⟩,
  ⟨some 74, .move, [.t 9], some (some 73, true)⟩,
  ⟨some 75, .move, [.t 12], some (some 73, true)⟩,
  ⟨some 76, .bin .eql, [.t 74, .t 75], some (some 73, true)⟩,
  ⟨some 77, .pick, [.t 73, .t 76, .c (.val (.bool false))], none⟩,
  ⟨some 78, .move, [.t 77], none⟩,
  ⟨some 79, .move, [.t 8], some (some 78, true)⟩,
  ⟨some 80, .move, [.t 11], some (some 78, true)⟩,
  ⟨some 81, .call 30, [.t 79, .t 80], some (some 78, true)⟩,
  ⟨some 82, .pick, [.t 78, .t 81, .c (.val (.bool false))], none⟩,
  ⟨some 4, .move, [.t 82], none⟩] [] [] [4] true [] []
noncomputable def c7_22 : ACode := .seq c7_23 .ret
noncomputable def c7_20 : ACode := .seq c7_21 c7_22
noncomputable def c7_18 : ACode := .seq c7_19 c7_20
noncomputable def c7_12 : ACode := .seq c7_13 c7_18
noncomputable def c7_10 : ACode := .seq c7_11 c7_12
noncomputable def c7_8 : ACode := .seq c7_9 c7_10
noncomputable def c7_2 : ACode := .seq c7_3 c7_8
noncomputable def c7_0 : ACode := .seq c7_1 c7_2
noncomputable def code7 : Code := (Try.f7.body).getD .skip
theorem c7_ok : compC Try.prog 83 code7 = some (strip c7_0) := by kernel_rfl
theorem res7_ok : Try.f7.results.toList.mapM (resC Try.prog) = some [(4, none)] := by kernel_rfl
/-- A record of bytes that somebody has. -/
theorem rec_sl {P : List AV} {o : Nat} {l : List Int} (sg : Seg P o l) (hby : ∀ x ∈ l, 0 ≤ x ∧ x ≤ 255) (he : recE l = 0) : ACall Try.prog 25 [.sl 0 o l.length 1 none] [.cells true P] (Det (.tup [fzB (recB l), I 0]) [.cells true P]) := by
  obtain ⟨h0, h1⟩ := recE_0 he
  have hle := sg.le
  have g1 : ((l.length : Int) == 0) = false := by rw [beq_eq_false_iff_ne]; omega
  have g2 : ((512 : Int) < (l.length : Int)) = False := eq_false (by omega)
  have c1 := number_any [] (by simp) 0 (l.length : Int) 2 (by omega)
  have q1 := numL_ok (v := (l.length : Int)) (k := 2) (by decide) (by decide) (by omega) (by omega) []
  rw [show ((2 : Nat) : Int) = 2 from rfl] at q1
  rw [q1.1, q1.2, leI2 (by omega)] at c1
  have hb2 : ∀ x ∈ ([((l.length % 256 : Nat) : Int), ((l.length / 256 : Nat) : Int)] : List Int), 0 ≤ x ∧ x ≤ 255 := by
    intro x hx
    simp only [List.mem_cons, List.not_mem_nil, or_false] at hx
    rcases hx with rfl | rfl <;> omega
  have hr : recB l = recH l.length ++ mkd l := rfl
  have c3 := mark_any false (Seg.all [((l.length % 256 : Nat) : Int), ((l.length / 256 : Nat) : Int)] (by simp)) hb2
  rw [show mkd [((l.length % 256 : Nat) : Int), ((l.length / 256 : Nat) : Int)] = recH l.length from rfl] at c3
  generalize ((l.length % 256 : Nat) : Int) = x0 at *
  generalize ((l.length / 256 : Nat) : Int) = x1 at *
  have c2 := bytes_any [x0, x1] 0 (by simp)
  have c4 := mark_any true sg hby
  have c5 := raw2_any [] (by simp) 0 (Seg.all (recH l.length) (by rw [recH_len]; omega)) (Seg.all (mkd l) (by rw [mkd_length]; omega))
  rw [wput_ok, List.nil_append, ← hr] at c5
  have c6 := bytes_any (recB l) 0 (by rw [recB_len]; omega)
  simp only [recH_len, mkd_length, recB_len, List.length_cons, List.length_nil, List.nil_append, bA_nil, Nat.zero_add, Nat.reduceAdd] at c1 c2 c3 c4 c5 c6
  have hft : (bA (recB l)).take (l.length + 10) = bA (recB l) := List.take_of_length_le (by rw [bA_len, recB_len]; omega)
  have hlr := recB_len l
  clear q1 hb2 hr he
  generalize recB l = B at *
  generalize mkd l = M at *
  generalize recH l.length = Hd at *
  refine ACall.startA c25_ok Try.func25 rfl Try.ntmps25 (by kernel_rfl) res25_ok rfl rfl rfl ?_; simp (maxSteps := 9999999) (disch := omega) only [go_sem]
  refine AWpA.dummy ?_
  refine AWpA.dummy ?_
  (have k9 := And.intro @g1 (And.intro @g2 (And.intro @sg.ren (And.intro @tb_ren (And.intro @tb_lit (And.intro @hft (k0)))))); (repeat' (first | (refine AWpA.freeze0 371 2 rfl rfl ?_ ?_; (focus ((try simp (maxSteps := 9999999) (disch := omega) only [go_sem, k9]); first | done | omega))) | refine AWpA.seq ?_ | refine AWpA.block ?_ | (with_reducible refine CondP.tt ?_) | (with_reducible refine CondP.ff ?_) | refine AWpA.cg ?_ | ((first | refine AWpA.rg ?_ | refine AWpA.dg [] [] follows ?_ | refine TailK.tg ?_ | refine AWpA.skip ?_ | refine AWpA.exit ?_ | refine AWpA.ret ?_ | (with_reducible refine ARoundsA.succ ?_) | ((first | refine Runs.gkt (fun h9 => ?_) | refine Runs.gkf (fun h9 => ?_) | refine Runs.gnt (fun h9 => ?_) | refine Runs.gnf (fun h9 => ?_) | refine CondP.gt (fun h9 => ?_) | refine CondP.gf (fun h9 => ?_) | refine CondP.gnt (fun h9 => ?_) | refine CondP.gnf (fun h9 => ?_)); (try simp only [h9]); clear h9) | refine CallG.pg [179, 1] (c1) ?_ | refine CallG.pg [179, 259] (c2) ?_ | refine CallG.pg [163, 275] (c3) ?_ | refine CallG.pg [163, 0] (c4) ?_ | refine CallG.pg [195, 2, 339, 291, 323] (c5) ?_ | refine CallG.pg [195, 355] (c6) ?_ | refine CallG.dg [179, 1] (c1) ?_ | refine CallG.dg [179, 259] (c2) ?_ | refine CallG.dg [163, 275] (c3) ?_ | refine CallG.dg [163, 0] (c4) ?_ | refine CallG.dg [195, 2, 339, 291, 323] (c5) ?_ | refine CallG.dg [195, 355] (c6) ?_); (try simp (maxSteps := 9999999) (disch := omega) only [go_sem, k9]); (try refine cnd ?_)) | ((first | refine CondP.split (fun hif => ?_) (fun hif => ?_) | refine Runs.part (fun hif => ?_) (fun hif => ?_)) <;> ((try simp only [hif]); (try simp only [BL] at hif); (try (have h9 : _ = true := hif; simp only [h9])); (try (have h9 : _ = false := hif; simp only [h9])); (try simp (maxSteps := 9999999) (disch := omega) only [go_sem, k9]); (try refine cnd ?_); (try (exfalso; omega; done)))))); (all_goals (try clear k9)))
  (apply Ret.det [0]; (focus (first | exact .inl rfl | exact .inr rfl)); (focus (simp (maxSteps := 9999999) (disch := omega) only [go_sem, hlr, sg.ren]; rfl)); (simp (maxSteps := 9999999) (disch := omega) only [go_sem, hlr, sg.ren]; (try (repeat' (first | done | trivial | rfl | exact leAs_rfl _ | decide | (refine And.intro ?_ ?_) | (simp; done) | omega | (simp; decide))))))
theorem rrec_sl {P : List AV} {o : Nat} {l : List Int} (sg : Seg P o l) (hl : l.length ≤ 512) (hby : ∀ x ∈ l, 0 ≤ x ∧ x ≤ 255) : ACall Try.prog 27 [.sl 0 o l.length 1 none] [.cells true P] (Det (fzB (recB l)) [.cells true P]) := by
  have hle := sg.le
  have c1 := refnum_any (l.length : Int) (by omega) 2 (by decide)
  rw [leI2 (by omega), show ((2 : Nat) : Int) = 2 from rfl] at c1
  have hb2 : ∀ x ∈ ([((l.length % 256 : Nat) : Int), ((l.length / 256 : Nat) : Int)] : List Int), 0 ≤ x ∧ x ≤ 255 := by
    intro x hx
    simp only [List.mem_cons, List.not_mem_nil, or_false] at hx
    rcases hx with rfl | rfl <;> omega
  have hr : recB l = recH l.length ++ mkd l := rfl
  have c3 := rmark_any (Seg.all [((l.length % 256 : Nat) : Int), ((l.length / 256 : Nat) : Int)] (by simp)) hb2
  rw [show mkd [((l.length % 256 : Nat) : Int), ((l.length / 256 : Nat) : Int)] = recH l.length from rfl] at c3
  generalize ((l.length % 256 : Nat) : Int) = x0 at *
  generalize ((l.length / 256 : Nat) : Int) = x1 at *
  have c4 := rmark_any sg hby
  simp only [List.length_cons, List.length_nil, Nat.zero_add, Nat.reduceAdd] at c3
  generalize hbo : ((l.length : Int) / 256 ^ 2 == 0) = bo at c1
  have hm := mkd_length l
  have hh := recH_len l.length
  have hlr := recB_len l
  have hsm : l.length + 4 ≤ 1099511627776 := by omega
  rw [hr] at hlr ⊢
  generalize mkd l = M at *
  generalize recH l.length = Hd at *
  have t1 : Hd.take 6 = Hd := List.take_of_length_le (by omega)
  have t2 : M.take (l.length + 4) = M := List.take_of_length_le (by omega)
  clear hr hb2 hbo
  refine ACall.startA c27_ok Try.func27 rfl Try.ntmps27 (by kernel_rfl) res27_ok rfl rfl rfl ?_; simp (maxSteps := 9999999) (disch := omega) only [go_sem]
  (have k9 := And.intro @sg.ren (And.intro @hm (And.intro @hh (And.intro @t1 (And.intro @t2 (k0))))); (repeat' (first | (refine AWpA.freeze0 225 2 rfl rfl ?_ ?_; (focus ((try simp (maxSteps := 9999999) (disch := omega) only [go_sem, k9]); first | done | omega))) | refine AWpA.seq ?_ | refine AWpA.block ?_ | (with_reducible refine CondP.tt ?_) | (with_reducible refine CondP.ff ?_) | refine AWpA.cg ?_ | ((first | refine AWpA.rg ?_ | refine AWpA.dg [] [] follows ?_ | refine TailK.tg ?_ | refine AWpA.skip ?_ | refine AWpA.exit ?_ | refine AWpA.ret ?_ | (with_reducible refine ARoundsA.succ ?_) | ((first | refine Runs.gkt (fun h9 => ?_) | refine Runs.gkf (fun h9 => ?_) | refine Runs.gnt (fun h9 => ?_) | refine Runs.gnf (fun h9 => ?_) | refine CondP.gt (fun h9 => ?_) | refine CondP.gf (fun h9 => ?_) | refine CondP.gnt (fun h9 => ?_) | refine CondP.gnf (fun h9 => ?_)); (try simp only [h9]); clear h9) | refine CallG.pg [] (c1) ?_ | refine CallG.pg [65] (c3) ?_ | refine CallG.pg [0] (c4) ?_ | refine CallG.dg [] (c1) ?_ | refine CallG.dg [65] (c3) ?_ | refine CallG.dg [0] (c4) ?_); (try simp (maxSteps := 9999999) (disch := omega) only [go_sem, k9]); (try refine cnd ?_)) | ((first | refine CondP.split (fun hif => ?_) (fun hif => ?_) | refine Runs.part (fun hif => ?_) (fun hif => ?_)) <;> ((try simp only [hif]); (try simp only [BL] at hif); (try (have h9 : _ = true := hif; simp only [h9])); (try (have h9 : _ = false := hif; simp only [h9])); (try simp (maxSteps := 9999999) (disch := omega) only [go_sem, k9]); (try refine cnd ?_); (try (exfalso; omega; done)))))); (all_goals (try clear k9)))
  (apply Ret.det [0]; (focus (first | exact .inl rfl | exact .inr rfl)); (focus (simp (maxSteps := 9999999) (disch := omega) only [go_sem, hm, hh, sg.ren]; rfl)); (simp (maxSteps := 9999999) (disch := omega) only [go_sem, hm, hh, sg.ren]; (try (repeat' (first | done | trivial | rfl | exact leAs_rfl _ | decide | (refine And.intro ?_ ?_) | (simp; done) | omega | (simp; decide))))))
theorem same_sf {P : List AV} {o : Nat} {l m : List (List Int)} (s : SegR P o l) (hs : m.length ≤ 1099511627776) (hl : ∀ r ∈ l, ∀ x ∈ r, 0 ≤ x ∧ x ≤ 255) (hm : ∀ r ∈ m, ∀ x ∈ r, 0 ≤ x ∧ x ≤ 255) :
    ACall Try.prog 30 [.sl 0 o l.length 1 none, FL m] [.cells true P] (Det (Bo (decide (l = m))) [.cells true P, .gone]) := by
  refine ACall.fzD (v := Bo (decide (l = m))) (H1 := [.cells true P]) (H1' := [.cells true P]) (N := []) (N' := []) 1 1 (by kernel_rfl) rfl rfl (fun n _ o ho hw => ?_) (fun off => ?_) rfl rfl ?_ rfl
  · simp only [List.mem_singleton] at ho; subst ho; simp only [renO, s.ren]
  · exact jsame_any s (SegR.zz off (by omega)) hl hm
  · simp only [List.map_cons, List.map_nil, renO, s.ren]
theorem same_ff {l m : List (List Int)} (hs : l.length ≤ 1099511627776) (hs' : m.length ≤ 1099511627776) (hl : ∀ r ∈ l, ∀ x ∈ r, 0 ≤ x ∧ x ≤ 255) (hm : ∀ r ∈ m, ∀ x ∈ r, 0 ≤ x ∧ x ≤ 255) :
    ACall Try.prog 30 [FL l, FL m] [] (Det (Bo (decide (l = m))) [.gone, .gone]) := by
  refine ACall.fzD (v := Bo (decide (l = m))) (H1 := []) (H1' := []) (N := [.gone]) (N' := [.gone]) 0 0 (by kernel_rfl) rfl rfl (fun _ _ o ho => by cases ho) (fun off => ?_) rfl rfl rfl rfl
  exact same_sf (SegR.zz off (by omega)) hs' hl hm
theorem speaks07_any : ACall Try.prog 24 [] [] (Det (Bo true) []) := by
  have hby : ∀ x ∈ ([7] : List Int), 0 ≤ x ∧ x ≤ 255 := by simp
  have c1 := rec_sl (Seg.all [7] (by simp)) hby (by decide)
  have c2 := rrec_sl (Seg.all [7] (by simp)) (by simp) hby
  have hl : (recB [7]).length = 11 := by rw [recB_len]; rfl
  have hb := ba_self (recB [7])
  simp only [List.length_cons, List.length_nil, Nat.zero_add, bA_cons, bA_nil] at c1 c2
  generalize recB [7] = B at *
  refine ACall.startA c24_ok Try.func24 rfl Try.ntmps24 (by kernel_rfl) res24_ok rfl rfl rfl ?_; simp (maxSteps := 9999999) (disch := omega) only [go_sem]
  (have k9 := And.intro @hl (And.intro @hb (And.intro @bA_ren (k0))); (repeat' (first | refine AWpA.seq ?_ | refine AWpA.block ?_ | (with_reducible refine CondP.tt ?_) | (with_reducible refine CondP.ff ?_) | refine AWpA.cg ?_ | ((first | refine AWpA.rg ?_ | refine AWpA.dg [] [] follows ?_ | refine TailK.tg ?_ | refine AWpA.skip ?_ | refine AWpA.exit ?_ | refine AWpA.ret ?_ | (with_reducible refine ARoundsA.succ ?_) | ((first | refine Runs.gkt (fun h9 => ?_) | refine Runs.gkf (fun h9 => ?_) | refine Runs.gnt (fun h9 => ?_) | refine Runs.gnf (fun h9 => ?_) | refine CondP.gt (fun h9 => ?_) | refine CondP.gf (fun h9 => ?_) | refine CondP.gnt (fun h9 => ?_) | refine CondP.gnf (fun h9 => ?_)); (try simp only [h9]); clear h9) | refine CallG.pg [16] (c1) ?_ | refine CallG.pg [_] (c2) ?_ | refine CallG.dg [16] (c1) ?_ | refine CallG.dg [_] (c2) ?_); (try simp (maxSteps := 9999999) (disch := omega) only [go_sem, k9]); (try refine cnd ?_)) | ((first | refine CondP.split (fun hif => ?_) (fun hif => ?_) | refine Runs.part (fun hif => ?_) (fun hif => ?_)) <;> ((try simp only [hif]); (try simp only [BL] at hif); (try (have h9 : _ = true := hif; simp only [h9])); (try (have h9 : _ = false := hif; simp only [h9])); (try simp (maxSteps := 9999999) (disch := omega) only [go_sem, k9]); (try refine cnd ?_); (try (exfalso; omega; done)))))); (all_goals (try clear k9)))
  (apply Ret.det []; (focus (first | exact .inl rfl | exact .inr rfl)); (focus (simp (maxSteps := 9999999) (disch := omega) only [go_sem]; rfl)); (simp (maxSteps := 9999999) (disch := omega) only [go_sem]; (try (repeat' (first | done | trivial | rfl | exact leAs_rfl _ | decide | (refine And.intro ?_ ?_) | (simp; done) | omega | (simp; decide))))))
theorem jreads_walk (W : World) (x y : Sl Int) (hx : x.ok W 1 (fun n : Int => [.int .u8 n]) (fun n : Int => IntKind.u8.min ≤ n ∧ n ≤ IntKind.u8.max)) (hy : y.ok W 1 (fun n : Int => [.int .u8 n]) (fun n : Int => IntKind.u8.min ≤ n ∧ n ≤ IntKind.u8.max)) :
    Calls Try.prog 7 #[.slice x.ad x.l.length x.cap, .slice y.ad y.l.length y.cap] W fun e W' => e = .returned (.bool true) ∧ Below W.heap.size W W' := by
  have hfx := frz_bytes hx.fz
  have hfy := frz_bytes hy.fz
  have hbx : ∀ c ∈ x.l, 0 ≤ c ∧ c ≤ 255 := hx.all
  have hby : ∀ c ∈ y.l, 0 ≤ c ∧ c ≤ 255 := hy.all
  by_cases h1 : 600 < x.l.length
  · have g1 : ((600 : Int) < (x.l.length : Int)) = True := eq_true (by omega)
    refine top_call c7_ok Try.func7 rfl Try.ntmps7 res7_ok [ .val (.slice x.ad x.l.length x.cap), .val (.slice y.ad y.l.length y.cap)] (by simp) (by (repeat' (first | exact VRs_nil' _ | exact VR_val' _ _ | (refine VRs_cons' ?_ ?_) | (refine VR_agg' (by first | rfl | assumption) ?_; first | assumption | simp [Value.oneCell'])))) ?_; try simp (maxSteps := 9999999) (disch := omega) only [go_sem]
    (have k9 := And.intro @g1 (k0); (repeat' (first | refine AWpA.seq ?_ | refine AWpA.block ?_ | (with_reducible refine CondP.tt ?_) | (with_reducible refine CondP.ff ?_) | refine AWpA.cg ?_ | ((first | refine AWpA.rg ?_ | refine AWpA.dg [] [] follows ?_ | refine TailK.tg ?_ | refine AWpA.skip ?_ | refine AWpA.exit ?_ | refine AWpA.ret ?_ | (with_reducible refine ARoundsA.succ ?_) | ((first | refine Runs.gkt (fun h9 => ?_) | refine Runs.gkf (fun h9 => ?_) | refine Runs.gnt (fun h9 => ?_) | refine Runs.gnf (fun h9 => ?_) | refine CondP.gt (fun h9 => ?_) | refine CondP.gf (fun h9 => ?_) | refine CondP.gnt (fun h9 => ?_) | refine CondP.gnf (fun h9 => ?_)); (try simp only [h9]); clear h9) | refine CallG.pg [] (speaks07_any) ?_ | refine CallG.dg [] (speaks07_any) ?_); (try simp (maxSteps := 9999999) (disch := omega) only [go_sem, k9]); (try refine cnd ?_)) | ((first | refine CondP.split (fun hif => ?_) (fun hif => ?_) | refine Runs.part (fun hif => ?_) (fun hif => ?_)) <;> ((try simp only [hif]); (try simp only [BL] at hif); (try (have h9 : _ = true := hif; simp only [h9])); (try (have h9 : _ = false := hif; simp only [h9])); (try simp (maxSteps := 9999999) (disch := omega) only [go_sem, k9]); (try refine cnd ?_); (try (exfalso; omega; done)))))); (all_goals (try clear k9)))
    (refine TopPost.of (by first | exact .inl rfl | exact .inr rfl) (by (try simp (maxSteps := 9999999) (disch := omega) only [go_sem]); rfl) ?_; (try simp (maxSteps := 9999999) (disch := omega) only [go_sem]); (try (first | trivial | decide | (simp; done))))
  have g1 : ((600 : Int) < (x.l.length : Int)) = False := eq_false (by omega)
  by_cases h2 : 2000 < y.l.length
  · have g2 : ((2000 : Int) < (y.l.length : Int)) = True := eq_true (by omega)
    refine top_call c7_ok Try.func7 rfl Try.ntmps7 res7_ok [ .val (.slice x.ad x.l.length x.cap), .val (.slice y.ad y.l.length y.cap)] (by simp) (by (repeat' (first | exact VRs_nil' _ | exact VR_val' _ _ | (refine VRs_cons' ?_ ?_) | (refine VR_agg' (by first | rfl | assumption) ?_; first | assumption | simp [Value.oneCell'])))) ?_; try simp (maxSteps := 9999999) (disch := omega) only [go_sem]
    (have k9 := And.intro @g1 (And.intro @g2 (k0)); (repeat' (first | refine AWpA.seq ?_ | refine AWpA.block ?_ | (with_reducible refine CondP.tt ?_) | (with_reducible refine CondP.ff ?_) | refine AWpA.cg ?_ | ((first | refine AWpA.rg ?_ | refine AWpA.dg [] [] follows ?_ | refine TailK.tg ?_ | refine AWpA.skip ?_ | refine AWpA.exit ?_ | refine AWpA.ret ?_ | (with_reducible refine ARoundsA.succ ?_) | ((first | refine Runs.gkt (fun h9 => ?_) | refine Runs.gkf (fun h9 => ?_) | refine Runs.gnt (fun h9 => ?_) | refine Runs.gnf (fun h9 => ?_) | refine CondP.gt (fun h9 => ?_) | refine CondP.gf (fun h9 => ?_) | refine CondP.gnt (fun h9 => ?_) | refine CondP.gnf (fun h9 => ?_)); (try simp only [h9]); clear h9) | refine CallG.pg [] (speaks07_any) ?_ | refine CallG.dg [] (speaks07_any) ?_); (try simp (maxSteps := 9999999) (disch := omega) only [go_sem, k9]); (try refine cnd ?_)) | ((first | refine CondP.split (fun hif => ?_) (fun hif => ?_) | refine Runs.part (fun hif => ?_) (fun hif => ?_)) <;> ((try simp only [hif]); (try simp only [BL] at hif); (try (have h9 : _ = true := hif; simp only [h9])); (try (have h9 : _ = false := hif; simp only [h9])); (try simp (maxSteps := 9999999) (disch := omega) only [go_sem, k9]); (try refine cnd ?_); (try (exfalso; omega; done)))))); (all_goals (try clear k9)))
    (refine TopPost.of (by first | exact .inl rfl | exact .inr rfl) (by (try simp (maxSteps := 9999999) (disch := omega) only [go_sem]); rfl) ?_; (try simp (maxSteps := 9999999) (disch := omega) only [go_sem]); (try (first | trivial | decide | (simp; done))))
  have g2 : ((2000 : Int) < (y.l.length : Int)) = False := eq_false (by omega)
  refine top_call c7_ok Try.func7 rfl Try.ntmps7 res7_ok [ .val (.slice x.ad x.l.length x.cap), .val (.slice y.ad y.l.length y.cap)] (by simp) (by (repeat' (first | exact VRs_nil' _ | exact VR_val' _ _ | (refine VRs_cons' ?_ ?_) | (refine VR_agg' (by first | rfl | assumption) ?_; first | assumption | simp [Value.oneCell'])))) ?_; try simp (maxSteps := 9999999) (disch := omega) only [go_sem]
  refine AWpA.frzT 0 rfl hfx ?_
  refine AWpA.frzT 1 rfl hfy ?_
  obtain ⟨_, _, _, l⟩ := x
  obtain ⟨_, _, _, b⟩ := y
  simp only at *
  clear hfx hfy hx hy
  have c1 := rec_any l (by omega) hbx
  have c2 := rchk_any l (by omega)
  have c3 := jread_any b (by omega) hby
  have c4 := rread_any b (by omega) hby
  obtain ⟨i1, i2, i3⟩ := jread_inv b
  have i4 := jread_sub hby
  have c5 := same_ff (l := (jread b).1) (m := (jread b).1) (by omega) (by omega) i4 i4
  rw [decide_eq_true rfl] at c5
  generalize (jread b).1 = R at *
  generalize (jread b).2.1 = K at *
  generalize (jread b).2.2 = Z at *
  by_cases he : recE l = 0
  · have e2 : recR l = recB l := by unfold recR; rw [if_pos he]
    rw [he, e2] at c1
    rw [he] at c2
    have c6 := rrec_any l (recE_0 he).2 hbx
    have hs := ba_self (recB l)
    generalize recB l = B at *
    (have k9 := And.intro @g1 (And.intro @g2 (And.intro @hs (And.intro @bA_ren (And.intro @rowsB_ren (k0))))); (repeat' (first | refine AWpA.seq ?_ | refine AWpA.block ?_ | (with_reducible refine CondP.tt ?_) | (with_reducible refine CondP.ff ?_) | refine AWpA.cg ?_ | ((first | refine AWpA.rg ?_ | refine AWpA.dg [] [] follows ?_ | refine TailK.tg ?_ | refine AWpA.skip ?_ | refine AWpA.exit ?_ | refine AWpA.ret ?_ | (with_reducible refine ARoundsA.succ ?_) | ((first | refine Runs.gkt (fun h9 => ?_) | refine Runs.gkf (fun h9 => ?_) | refine Runs.gnt (fun h9 => ?_) | refine Runs.gnf (fun h9 => ?_) | refine CondP.gt (fun h9 => ?_) | refine CondP.gf (fun h9 => ?_) | refine CondP.gnt (fun h9 => ?_) | refine CondP.gnf (fun h9 => ?_)); (try simp only [h9]); clear h9) | refine CallG.pg [] (speaks07_any) ?_ | refine CallG.pg [] (c1) ?_ | refine CallG.pg [] (c2) ?_ | refine CallG.pg [] (c6) ?_ | refine CallG.pg [] (c3) ?_ | refine CallG.pg [] (c4) ?_ | refine CallG.pg [] (c5) ?_ | refine CallG.dg [] (speaks07_any) ?_ | refine CallG.dg [] (c1) ?_ | refine CallG.dg [] (c2) ?_ | refine CallG.dg [] (c6) ?_ | refine CallG.dg [] (c3) ?_ | refine CallG.dg [] (c4) ?_ | refine CallG.dg [] (c5) ?_); (try simp (maxSteps := 9999999) (disch := omega) only [go_sem, k9]); (try refine cnd ?_)) | ((first | refine CondP.split (fun hif => ?_) (fun hif => ?_) | refine Runs.part (fun hif => ?_) (fun hif => ?_)) <;> ((try simp only [hif]); (try simp only [BL] at hif); (try (have h9 : _ = true := hif; simp only [h9])); (try (have h9 : _ = false := hif; simp only [h9])); (try simp (maxSteps := 9999999) (disch := omega) only [go_sem, k9]); (try refine cnd ?_); (try (exfalso; omega; done)))))); (all_goals (try clear k9)))
    all_goals (refine TopPost.of (by first | exact .inl rfl | exact .inr rfl) (by (try simp (maxSteps := 9999999) (disch := omega) only [go_sem]); rfl) ?_; (try simp (maxSteps := 9999999) (disch := omega) only [go_sem]); (try (first | trivial | decide | (simp; done))))
  · have e2 : recR l = [] := by unfold recR; rw [if_neg he]
    have he1 : (recE l == 0) = false := by rw [beq_eq_false_iff_ne]; exact he
    have he2 : (recE l != 0) = true := by rw [bne_iff_ne]; exact he
    rw [e2] at c1
    generalize recE l = E at *
    (have k9 := And.intro @g1 (And.intro @g2 (And.intro @he1 (And.intro @he2 (And.intro @bA_ren (And.intro @rowsB_ren (k0)))))); (repeat' (first | refine AWpA.seq ?_ | refine AWpA.block ?_ | (with_reducible refine CondP.tt ?_) | (with_reducible refine CondP.ff ?_) | refine AWpA.cg ?_ | ((first | refine AWpA.rg ?_ | refine AWpA.dg [] [] follows ?_ | refine TailK.tg ?_ | refine AWpA.skip ?_ | refine AWpA.exit ?_ | refine AWpA.ret ?_ | (with_reducible refine ARoundsA.succ ?_) | ((first | refine Runs.gkt (fun h9 => ?_) | refine Runs.gkf (fun h9 => ?_) | refine Runs.gnt (fun h9 => ?_) | refine Runs.gnf (fun h9 => ?_) | refine CondP.gt (fun h9 => ?_) | refine CondP.gf (fun h9 => ?_) | refine CondP.gnt (fun h9 => ?_) | refine CondP.gnf (fun h9 => ?_)); (try simp only [h9]); clear h9) | refine CallG.pg [] (speaks07_any) ?_ | refine CallG.pg [] (c1) ?_ | refine CallG.pg [] (c2) ?_ | refine CallG.pg [] (c3) ?_ | refine CallG.pg [] (c4) ?_ | refine CallG.pg [] (c5) ?_ | refine CallG.dg [] (speaks07_any) ?_ | refine CallG.dg [] (c1) ?_ | refine CallG.dg [] (c2) ?_ | refine CallG.dg [] (c3) ?_ | refine CallG.dg [] (c4) ?_ | refine CallG.dg [] (c5) ?_); (try simp (maxSteps := 9999999) (disch := omega) only [go_sem, k9]); (try refine cnd ?_)) | ((first | refine CondP.split (fun hif => ?_) (fun hif => ?_) | refine Runs.part (fun hif => ?_) (fun hif => ?_)) <;> ((try simp only [hif]); (try simp only [BL] at hif); (try (have h9 : _ = true := hif; simp only [h9])); (try (have h9 : _ = false := hif; simp only [h9])); (try simp (maxSteps := 9999999) (disch := omega) only [go_sem, k9]); (try refine cnd ?_); (try (exfalso; omega; done)))))); (all_goals (try clear k9)))
    all_goals (refine TopPost.of (by first | exact .inl rfl | exact .inr rfl) (by (try simp (maxSteps := 9999999) (disch := omega) only [go_sem]); rfl) ?_; (try simp (maxSteps := 9999999) (disch := omega) only [go_sem]); (try (first | trivial | decide | (simp; done))))
end Go.Proofs.Ythbpdmlbfnjoiaa
