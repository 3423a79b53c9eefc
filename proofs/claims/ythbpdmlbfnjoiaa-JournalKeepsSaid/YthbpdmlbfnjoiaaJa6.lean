/- The walk of JournalReads. -/
import Derived.Test.YthbpdmlbfnjoiaaJa5
namespace Go.Proofs.Ythbpdmlbfnjoiaa
set_option linter.unusedSimpArgs false
set_option linter.unusedVariables false
set_option maxHeartbeats 4000000
open Go Go.Am Go.RowKit Go.ChangeShapes Go.WideShapes Go.ChangeAt Go.Crc
set_option linter.unusedSimpArgs false
set_option maxHeartbeats 4000000
set_option maxRecDepth 100000
/- quidnunc/quidnunclaw07.speaks -/
noncomputable def c24_1 : ACode := .region false [⟨some 0, .move, [.c (.val (.bool false))], none⟩] [] [] [] false [] []
noncomputable def c24_3 : ACode := .region false [⟨some 4, .buildSl 1 1 [(.int .u8 0)] [(0, 1)], [.c (.val (.int .u8 7))], none⟩,
  ⟨some 5, .call 25, [.t 4], none⟩,
  ⟨some 3, .move, [.t 5], none⟩,
  ⟨some 6, .ext 0, [.t 3], none⟩,
  ⟨some 7, .ext 1, [.t 3], none⟩,
  ⟨some 1, .move, [.t 6], none⟩,
  ⟨some 2, .move, [.t 7], none⟩] [] [] [1, 2] true [] []
noncomputable def c24_5 : ACode := .region true [⟨some 8, .move, [.t 2], none⟩,
  ⟨some 9, .bin .eql, [.t 8, .c (.val (.int .i64 0))], none⟩,
  ⟨some 10, .move, [.t 9], none⟩,
  ⟨some 11, .move, [.t 1], some (some 10, true)⟩,
  ⟨some 12, .toStr, [.t 11], some (some 10, true)⟩,
  ⟨some 13, .buildSl 1 1 [(.int .u8 0)] [(0, 1)], [.c (.val (.int .u8 7))], some (some 10, true)⟩,
  ⟨some 14, .call 27, [.t 13], some (some 10, true)⟩,
  ⟨some 15, .toStr, [.t 14], some (some 10, true)⟩,
  ⟨some 16, .bin .eql, [.t 12, .t 15], some (some 10, true)⟩,
  ⟨some 17, .pick, [.t 10, .t 16, .c (.val (.bool false))], none⟩,
  ⟨some 18, .move, [.t 17], none⟩,
  ⟨some 19, .move, [.t 1], some (some 18, true)⟩,
  ⟨some 20, .len, [.t 19], some (some 18, true)⟩,
  ⟨some 21, .bin .eql, [.t 20, .c (.val (.int .i64 11))], some (some 18, true)⟩,
  ⟨some 22, .pick, [.t 18, .t 21, .c (.val (.bool false))], none⟩,
  ⟨some 0, .move, [.t 22], none⟩] [7] [] [0] true [] []
noncomputable def c24_4 : ACode := .seq c24_5 .ret
noncomputable def c24_2 : ACode := .seq c24_3 c24_4
noncomputable def c24_0 : ACode := .seq c24_1 c24_2
noncomputable def code24 : Code := (Try.f24.body).getD .skip
theorem c24_ok : compC Try.prog 23 code24 = some (strip c24_0) := by kernel_rfl
theorem res24_ok : Try.f24.results.toList.mapM (resC Try.prog) = some [(0, none)] := by kernel_rfl
/- quidnunc/quidnunclaw07.few -/
noncomputable def c31_1 : ACode := .region false [⟨some 2, .move, [.c (.val (.bool false))], none⟩] [] [] [0] false [] []
noncomputable def c31_4 : ACode := .region false [⟨some 5, .move, [.t 0], none⟩,
  ⟨some 6, .len, [.t 5], none⟩,
  ⟨some 7, .move, [.c (.val (.int .i64 0))], none⟩] [] [] [0, 5, 6, 7] false [] []
noncomputable def c31_8 : ACode := .region false [⟨some 8, .bin .lss, [.t 7, .t 6], none⟩] [] [] [0, 5, 6, 7, 8] false [] []
noncomputable def c31_10 : ACode := .cond (.t 8) .skip (.exit 0)
noncomputable def c31_14 : ACode := .region false [⟨some 9, .ixS 1, [.t 5, .t 7], none⟩,
  ⟨some 10, .load false 1, [.t 9], none⟩,
  ⟨some 4, .move, [.t 10], none⟩] [] [] [0, 4, 5, 6, 7] false [] []
noncomputable def c31_16 : ACode := .region false [⟨some 11, .move, [.t 4], none⟩,
  ⟨some 12, .len, [.t 11], none⟩,
  ⟨some 13, .bin .gtr, [.t 12, .c (.val (.int .i64 600))], none⟩] [] [] [0, 5, 6, 7, 13] false [] []
noncomputable def c31_19 : ACode := .region false [⟨some 2, .move, [.c (.val (.bool false))], none⟩] [] [] [2] false [] []
noncomputable def c31_18 : ACode := .seq c31_19 .ret
noncomputable def c31_17 : ACode := .cond (.t 13) c31_18 .skip
noncomputable def c31_15 : ACode := .seq c31_16 c31_17
noncomputable def c31_13 : ACode := .seq c31_14 c31_15
noncomputable def c31_12 : ACode := .block 1 c31_13
noncomputable def c31_20 : ACode := .region false [⟨some 14, .bin .add, [.t 7, .c (.val (.int .i64 1))], none⟩,
  ⟨some 7, .move, [.t 14], none⟩] [] [] [0, 5, 6, 7] false [] []
noncomputable def c31_11 : ACode := .seq c31_12 c31_20
noncomputable def c31_9 : ACode := .seq c31_10 c31_11
noncomputable def c31_7 : ACode := .seq c31_8 c31_9
noncomputable def c31_6 : ACode := .loop c31_7
noncomputable def c31_5 : ACode := .block 0 c31_6
noncomputable def c31_3 : ACode := .seq c31_4 c31_5
noncomputable def c31_22 : ACode := .region false [⟨some 15, .move, [.t 0], none⟩,
  ⟨some 16, .len, [.t 15], none⟩,
  ⟨some 17, .bin .leq, [.t 16, .c (.val (.int .i64 20))], none⟩,
  ⟨some 2, .move, [.t 17], none⟩] [] [] [2] false [] []
noncomputable def c31_21 : ACode := .seq c31_22 .ret
noncomputable def c31_2 : ACode := .seq c31_3 c31_21
noncomputable def c31_0 : ACode := .seq c31_1 c31_2
noncomputable def code31 : Code := (Try.f31.body).getD .skip
theorem c31_ok : compC Try.prog 18 code31 = some (strip c31_0) := by kernel_rfl
theorem res31_ok : Try.f31.results.toList.mapM (resC Try.prog) = some [(2, none)] := by kernel_rfl
/-- A record of bytes that somebody has. -/
theorem rec_sl {P : List AV} {o : Nat} {l : List Int} (sg : Seg P o l) (hby : ∀ x ∈ l, 0 ≤ x ∧ x ≤ 255) (he : recE l = 0) : ACall Try.prog 25 [.sl 0 o l.length 1 none] [.cells true P] (Det (.tup [fzB (recB l), I 0]) [.cells true P]) := by
  obtain ⟨h0, h1⟩ := recE_0 he
  have hle := sg.le
  have g1 : ((l.length : Int) == 0) = false := by rw [beq_eq_false_iff_ne]; omega
  have g2 : ((512 : Int) < (l.length : Int)) = False := eq_false (by omega)
  have c1 := number_any [] (by simp) 0 (l.length : Int) 2 (by omega)
  have q1 := numL_ok (v := (l.length : Int)) (k := 2) (by decide) (by decide) (by omega) (by omega) []
  rw [show ((2 : Nat) : Int) = 2 from rfl] at q1
  rw [q1.1, q1.2, leI2 (by omega)] at c1
  have hb2 : ∀ x ∈ ([((l.length % 256 : Nat) : Int), ((l.length / 256 : Nat) : Int)] : List Int), 0 ≤ x ∧ x ≤ 255 := by
    intro x hx
    simp only [List.mem_cons, List.not_mem_nil, or_false] at hx
    rcases hx with rfl | rfl <;> omega
  have hr : recB l = recH l.length ++ mkd l := rfl
  have c3 := mark_any false (Seg.all [((l.length % 256 : Nat) : Int), ((l.length / 256 : Nat) : Int)] (by simp)) hb2
  rw [show mkd [((l.length % 256 : Nat) : Int), ((l.length / 256 : Nat) : Int)] = recH l.length from rfl] at c3
  generalize ((l.length % 256 : Nat) : Int) = x0 at *
  generalize ((l.length / 256 : Nat) : Int) = x1 at *
  have c2 := bytes_any [x0, x1] 0 (by simp)
  have c4 := mark_any true sg hby
  have c5 := raw2_any [] (by simp) 0 (Seg.all (recH l.length) (by rw [recH_len]; omega)) (Seg.all (mkd l) (by rw [mkd_length]; omega))
  rw [wput_ok, List.nil_append, ← hr] at c5
  have c6 := bytes_any (recB l) 0 (by rw [recB_len]; omega)
  simp only [recH_len, mkd_length, recB_len, List.length_cons, List.length_nil, List.nil_append, bA_nil, Nat.zero_add, Nat.reduceAdd] at c1 c2 c3 c4 c5 c6
  have hft : (bA (recB l)).take (l.length + 10) = bA (recB l) := List.take_of_length_le (by rw [bA_len, recB_len]; omega)
  have hlr := recB_len l
  clear q1 hb2 hr he
  generalize recB l = B at *
  generalize mkd l = M at *
  generalize recH l.length = Hd at *
  refine ACall.startA c25_ok Try.func25 rfl Try.ntmps25 (by kernel_rfl) res25_ok rfl rfl rfl ?_; simp (maxSteps := 9999999) (disch := omega) only [go_sem]
  refine AWpA.dummy ?_
  refine AWpA.dummy ?_
  (have k9 := And.intro @g1 (And.intro @g2 (And.intro @sg.ren (And.intro @tb_ren (And.intro @tb_lit (And.intro @hft (k0)))))); (repeat' (first | (refine AWpA.freeze0 371 2 rfl rfl ?_ ?_; (focus ((try simp (maxSteps := 9999999) (disch := omega) only [go_sem, k9]); first | done | omega))) | refine AWpA.seq ?_ | refine AWpA.block ?_ | (with_reducible refine CondP.tt ?_) | (with_reducible refine CondP.ff ?_) | refine AWpA.cg ?_ | ((first | refine AWpA.rg ?_ | refine AWpA.dg [] [] follows ?_ | refine TailK.tg ?_ | refine AWpA.skip ?_ | refine AWpA.exit ?_ | refine AWpA.ret ?_ | (with_reducible refine ARoundsA.succ ?_) | ((first | refine Runs.gkt (fun h9 => ?_) | refine Runs.gkf (fun h9 => ?_) | refine Runs.gnt (fun h9 => ?_) | refine Runs.gnf (fun h9 => ?_) | refine CondP.gt (fun h9 => ?_) | refine CondP.gf (fun h9 => ?_) | refine CondP.gnt (fun h9 => ?_) | refine CondP.gnf (fun h9 => ?_)); (try simp only [h9]); clear h9) | refine CallG.pg [179, 1] (c1) ?_ | refine CallG.pg [179, 259] (c2) ?_ | refine CallG.pg [163, 275] (c3) ?_ | refine CallG.pg [163, 0] (c4) ?_ | refine CallG.pg [195, 2, 339, 291, 323] (c5) ?_ | refine CallG.pg [195, 355] (c6) ?_ | refine CallG.dg [179, 1] (c1) ?_ | refine CallG.dg [179, 259] (c2) ?_ | refine CallG.dg [163, 275] (c3) ?_ | refine CallG.dg [163, 0] (c4) ?_ | refine CallG.dg [195, 2, 339, 291, 323] (c5) ?_ | refine CallG.dg [195, 355] (c6) ?_); (try simp (maxSteps := 9999999) (disch := omega) only [go_sem, k9]); (try refine cnd ?_)) | ((first | refine CondP.split (fun hif => ?_) (fun hif => ?_) | refine Runs.part (fun hif => ?_) (fun hif => ?_)) <;> ((try simp only [hif]); (try simp only [BL] at hif); (try (have h9 : _ = true := hif; simp only [h9])); (try (have h9 : _ = false := hif; simp only [h9])); (try simp (maxSteps := 9999999) (disch := omega) only [go_sem, k9]); (try refine cnd ?_); (try (exfalso; omega; done)))))); (all_goals (try clear k9)))
  (apply Ret.det [0]; (focus (first | exact .inl rfl | exact .inr rfl)); (focus (simp (maxSteps := 9999999) (disch := omega) only [go_sem, hlr, sg.ren]; rfl)); (simp (maxSteps := 9999999) (disch := omega) only [go_sem, hlr, sg.ren]; (try (repeat' (first | done | trivial | rfl | exact leAs_rfl _ | decide | (refine And.intro ?_ ?_) | (simp; done) | omega | (simp; decide))))))
theorem rrec_sl {P : List AV} {o : Nat} {l : List Int} (sg : Seg P o l) (hl : l.length ≤ 512) (hby : ∀ x ∈ l, 0 ≤ x ∧ x ≤ 255) : ACall Try.prog 27 [.sl 0 o l.length 1 none] [.cells true P] (Det (fzB (recB l)) [.cells true P]) := by
  have hle := sg.le
  have c1 := refnum_any (l.length : Int) (by omega) 2 (by decide)
  rw [leI2 (by omega), show ((2 : Nat) : Int) = 2 from rfl] at c1
  have hb2 : ∀ x ∈ ([((l.length % 256 : Nat) : Int), ((l.length / 256 : Nat) : Int)] : List Int), 0 ≤ x ∧ x ≤ 255 := by
    intro x hx
    simp only [List.mem_cons, List.not_mem_nil, or_false] at hx
    rcases hx with rfl | rfl <;> omega
  have hr : recB l = recH l.length ++ mkd l := rfl
  have c3 := rmark_any (Seg.all [((l.length % 256 : Nat) : Int), ((l.length / 256 : Nat) : Int)] (by simp)) hb2
  rw [show mkd [((l.length % 256 : Nat) : Int), ((l.length / 256 : Nat) : Int)] = recH l.length from rfl] at c3
  generalize ((l.length % 256 : Nat) : Int) = x0 at *
  generalize ((l.length / 256 : Nat) : Int) = x1 at *
  have c4 := rmark_any sg hby
  simp only [List.length_cons, List.length_nil, Nat.zero_add, Nat.reduceAdd] at c3
  generalize hbo : ((l.length : Int) / 256 ^ 2 == 0) = bo at c1
  have hm := mkd_length l
  have hh := recH_len l.length
  have hlr := recB_len l
  have hsm : l.length + 4 ≤ 1099511627776 := by omega
  rw [hr] at hlr ⊢
  generalize mkd l = M at *
  generalize recH l.length = Hd at *
  have t1 : Hd.take 6 = Hd := List.take_of_length_le (by omega)
  have t2 : M.take (l.length + 4) = M := List.take_of_length_le (by omega)
  clear hr hb2 hbo
  refine ACall.startA c27_ok Try.func27 rfl Try.ntmps27 (by kernel_rfl) res27_ok rfl rfl rfl ?_; simp (maxSteps := 9999999) (disch := omega) only [go_sem]
  (have k9 := And.intro @sg.ren (And.intro @hm (And.intro @hh (And.intro @t1 (And.intro @t2 (k0))))); (repeat' (first | (refine AWpA.freeze0 225 2 rfl rfl ?_ ?_; (focus ((try simp (maxSteps := 9999999) (disch := omega) only [go_sem, k9]); first | done | omega))) | refine AWpA.seq ?_ | refine AWpA.block ?_ | (with_reducible refine CondP.tt ?_) | (with_reducible refine CondP.ff ?_) | refine AWpA.cg ?_ | ((first | refine AWpA.rg ?_ | refine AWpA.dg [] [] follows ?_ | refine TailK.tg ?_ | refine AWpA.skip ?_ | refine AWpA.exit ?_ | refine AWpA.ret ?_ | (with_reducible refine ARoundsA.succ ?_) | ((first | refine Runs.gkt (fun h9 => ?_) | refine Runs.gkf (fun h9 => ?_) | refine Runs.gnt (fun h9 => ?_) | refine Runs.gnf (fun h9 => ?_) | refine CondP.gt (fun h9 => ?_) | refine CondP.gf (fun h9 => ?_) | refine CondP.gnt (fun h9 => ?_) | refine CondP.gnf (fun h9 => ?_)); (try simp only [h9]); clear h9) | refine CallG.pg [] (c1) ?_ | refine CallG.pg [65] (c3) ?_ | refine CallG.pg [0] (c4) ?_ | refine CallG.dg [] (c1) ?_ | refine CallG.dg [65] (c3) ?_ | refine CallG.dg [0] (c4) ?_); (try simp (maxSteps := 9999999) (disch := omega) only [go_sem, k9]); (try refine cnd ?_)) | ((first | refine CondP.split (fun hif => ?_) (fun hif => ?_) | refine Runs.part (fun hif => ?_) (fun hif => ?_)) <;> ((try simp only [hif]); (try simp only [BL] at hif); (try (have h9 : _ = true := hif; simp only [h9])); (try (have h9 : _ = false := hif; simp only [h9])); (try simp (maxSteps := 9999999) (disch := omega) only [go_sem, k9]); (try refine cnd ?_); (try (exfalso; omega; done)))))); (all_goals (try clear k9)))
  (apply Ret.det [0]; (focus (first | exact .inl rfl | exact .inr rfl)); (focus (simp (maxSteps := 9999999) (disch := omega) only [go_sem, hm, hh, sg.ren]; rfl)); (simp (maxSteps := 9999999) (disch := omega) only [go_sem, hm, hh, sg.ren]; (try (repeat' (first | done | trivial | rfl | exact leAs_rfl _ | decide | (refine And.intro ?_ ?_) | (simp; done) | omega | (simp; decide))))))
theorem same_sf {P : List AV} {o : Nat} {l m : List (List Int)} (s : SegR P o l) (hs : m.length ≤ 1099511627776) (hl : ∀ r ∈ l, ∀ x ∈ r, 0 ≤ x ∧ x ≤ 255) (hm : ∀ r ∈ m, ∀ x ∈ r, 0 ≤ x ∧ x ≤ 255) :
    ACall Try.prog 30 [.sl 0 o l.length 1 none, FL m] [.cells true P] (Det (Bo (decide (l = m))) [.cells true P, .gone]) := by
  refine ACall.fzD (v := Bo (decide (l = m))) (H1 := [.cells true P]) (H1' := [.cells true P]) (N := []) (N' := []) 1 1 (by kernel_rfl) rfl rfl (fun n _ o ho hw => ?_) (fun off => ?_) rfl rfl ?_ rfl
  · simp only [List.mem_singleton] at ho; subst ho; simp only [renO, s.ren]
  · exact jsame_any s (SegR.zz off (by omega)) hl hm
  · simp only [List.map_cons, List.map_nil, renO, s.ren]
theorem same_ff {l m : List (List Int)} (hs : l.length ≤ 1099511627776) (hs' : m.length ≤ 1099511627776) (hl : ∀ r ∈ l, ∀ x ∈ r, 0 ≤ x ∧ x ≤ 255) (hm : ∀ r ∈ m, ∀ x ∈ r, 0 ≤ x ∧ x ≤ 255) :
    ACall Try.prog 30 [FL l, FL m] [] (Det (Bo (decide (l = m))) [.gone, .gone]) := by
  refine ACall.fzD (v := Bo (decide (l = m))) (H1 := []) (H1' := []) (N := [.gone]) (N' := [.gone]) 0 0 (by kernel_rfl) rfl rfl (fun _ _ o ho => by cases ho) (fun off => ?_) rfl rfl rfl rfl
  exact same_sf (SegR.zz off (by omega)) hs' hl hm
theorem speaks07_any : ACall Try.prog 24 [] [] (Det (Bo true) []) := by
  have hby : ∀ x ∈ ([7] : List Int), 0 ≤ x ∧ x ≤ 255 := by simp
  have c1 := rec_sl (Seg.all [7] (by simp)) hby (by decide)
  have c2 := rrec_sl (Seg.all [7] (by simp)) (by simp) hby
  have hl : (recB [7]).length = 11 := by rw [recB_len]; rfl
  have hb := ba_self (recB [7])
  simp only [List.length_cons, List.length_nil, Nat.zero_add, bA_cons, bA_nil] at c1 c2
  generalize recB [7] = B at *
  refine ACall.startA c24_ok Try.func24 rfl Try.ntmps24 (by kernel_rfl) res24_ok rfl rfl rfl ?_; simp (maxSteps := 9999999) (disch := omega) only [go_sem]
  (have k9 := And.intro @hl (And.intro @hb (And.intro @bA_ren (k0))); (repeat' (first | refine AWpA.seq ?_ | refine AWpA.block ?_ | (with_reducible refine CondP.tt ?_) | (with_reducible refine CondP.ff ?_) | refine AWpA.cg ?_ | ((first | refine AWpA.rg ?_ | refine AWpA.dg [] [] follows ?_ | refine TailK.tg ?_ | refine AWpA.skip ?_ | refine AWpA.exit ?_ | refine AWpA.ret ?_ | (with_reducible refine ARoundsA.succ ?_) | ((first | refine Runs.gkt (fun h9 => ?_) | refine Runs.gkf (fun h9 => ?_) | refine Runs.gnt (fun h9 => ?_) | refine Runs.gnf (fun h9 => ?_) | refine CondP.gt (fun h9 => ?_) | refine CondP.gf (fun h9 => ?_) | refine CondP.gnt (fun h9 => ?_) | refine CondP.gnf (fun h9 => ?_)); (try simp only [h9]); clear h9) | refine CallG.pg [16] (c1) ?_ | refine CallG.pg [_] (c2) ?_ | refine CallG.dg [16] (c1) ?_ | refine CallG.dg [_] (c2) ?_); (try simp (maxSteps := 9999999) (disch := omega) only [go_sem, k9]); (try refine cnd ?_)) | ((first | refine CondP.split (fun hif => ?_) (fun hif => ?_) | refine Runs.part (fun hif => ?_) (fun hif => ?_)) <;> ((try simp only [hif]); (try simp only [BL] at hif); (try (have h9 : _ = true := hif; simp only [h9])); (try (have h9 : _ = false := hif; simp only [h9])); (try simp (maxSteps := 9999999) (disch := omega) only [go_sem, k9]); (try refine cnd ?_); (try (exfalso; omega; done)))))); (all_goals (try clear k9)))
  (apply Ret.det []; (focus (first | exact .inl rfl | exact .inr rfl)); (focus (simp (maxSteps := 9999999) (disch := omega) only [go_sem]; rfl)); (simp (maxSteps := 9999999) (disch := omega) only [go_sem]; (try (repeat' (first | done | trivial | rfl | exact leAs_rfl _ | decide | (refine And.intro ?_ ?_) | (simp; done) | omega | (simp; decide))))))
end Go.Proofs.Ythbpdmlbfnjoiaa
