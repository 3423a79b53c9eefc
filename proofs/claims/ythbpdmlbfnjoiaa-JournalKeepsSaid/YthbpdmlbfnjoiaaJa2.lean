/- Contracts: a record's bytes. -/
import Derived.Test.YthbpdmlbfnjoiaaJa1
namespace Go.Proofs.Ythbpdmlbfnjoiaa
set_option linter.unusedSimpArgs false
set_option linter.unusedVariables false
set_option maxHeartbeats 4000000
open Go Go.Am Go.RowKit Go.Crc
set_option linter.unusedSimpArgs false
set_option maxHeartbeats 4000000
set_option maxRecDepth 100000
/- quidnunc/journal.Record -/
noncomputable def c25_1 : ACode := .region false [⟨some 2, .move, [.c (.val (.slice none 0 0))], none⟩,
  ⟨some 3, .move, [.c (.val (.int .i64 0))], none⟩] [] [] [0] false [] []
noncomputable def c25_5 : ACode := .region false [⟨some 8, .move, [.t 0], none⟩,
  ⟨some 9, .len, [.t 8], none⟩,
  ⟨some 10, .bin .eql, [.t 9, .c (.val (.int .i64 0))], none⟩,
  ⟨some 7, .move, [.t 10], none⟩] [] [] [0, 7] false [] []
noncomputable def c25_8 : ACode := .region false [⟨some 2, .move, [.c (.val (.slice none 0 0))], none⟩,
  ⟨some 3, .move, [.c (.val (.int .i64 1))], none⟩] [] [] [2, 3] false [] []
noncomputable def c25_7 : ACode := .seq c25_8 .ret
noncomputable def c25_10 : ACode := .region false [⟨some 12, .move, [.t 0], none⟩,
  ⟨some 13, .len, [.t 12], none⟩,
  ⟨some 14, .bin .gtr, [.t 13, .c (.val (.int .i64 512))], none⟩,
  ⟨some 11, .move, [.t 14], none⟩] [] [] [0, 11] false [] []
noncomputable def c25_13 : ACode := .region false [⟨some 2, .move, [.c (.val (.slice none 0 0))], none⟩,
  ⟨some 3, .move, [.c (.val (.int .i64 7))], none⟩] [] [] [2, 3] false [] []
noncomputable def c25_12 : ACode := .seq c25_13 .ret
noncomputable def c25_11 : ACode := .cond (.t 11) c25_12 .skip
noncomputable def c25_9 : ACode := .seq c25_10 c25_11
noncomputable def c25_6 : ACode := .cond (.t 7) c25_7 c25_9
noncomputable def c25_4 : ACode := .seq c25_5 c25_6
noncomputable def c25_3 : ACode := .block 0 c25_4
noncomputable def c25_15 : ACode := .region false [⟨some 4, .alloc [(.int .u32 0), (.int .i32 0), (.int .u32 0), (.int .u32 0), (.int .u32 0), (.int .u32 0), (.int .u32 0), (.int .u32 0), (.int .u32 0), (.int .u32 0), (.int .u32 0), (.int .u32 0), (.int .u32 0), (.int .u32 0), (.int .u32 0), (.int .u32 0), (.int .u32 0), (.int .u32 0), (.int .u32 0), (.int .u32 0), (.int .u32 0), (.int .u32 0), (.int .u32 0), (.int .u32 0), (.int .u32 0), (.int .u32 0), (.int .u32 0), (.int .u32 0), (.int .u32 0), (.int .u32 0), (.int .u32 0), (.int .u32 0), (.int .u32 0), (.int .u32 0), (.int .u32 0), (.int .u32 0), (.int .u32 0), (.int .u32 0), (.int .u32 0), (.int .u32 0), (.int .u32 0), (.int .u32 0), (.int .u32 0), (.int .u32 0), (.int .u32 0), (.int .u32 0), (.int .u32 0), (.int .u32 0), (.int .u32 0), (.int .u32 0), (.int .u32 0), (.int .u32 0), (.int .u32 0), (.int .u32 0), (.int .u32 0), (.int .u32 0), (.int .u32 0), (.int .u32 0), (.int .u32 0), (.int .u32 0), (.int .u32 0), (.int .u32 0), (.int .u32 0), (.int .u32 0), (.int .u32 0), (.int .u32 0), (.int .u32 0), (.int .u32 0), (.int .u32 0), (.int .u32 0), (.int .u32 0), (.int .u32 0), (.int .u32 0), (.int .u32 0), (.int .u32 0), (.int .u32 0), (.int .u32 0), (.int .u32 0), (.int .u32 0), (.int .u32 0), (.int .u32 0), (.int .u32 0), (.int .u32 0), (.int .u32 0), (.int .u32 0), (.int .u32 0), (.int .u32 0), (.int .u32 0), (.int .u32 0), (.int .u32 0), (.int .u32 0), (.int .u32 0), (.int .u32 0), (.int .u32 0), (.int .u32 0), (.int .u32 0), (.int .u32 0), (.int .u32 0), (.int .u32 0), (.int .u32 0), (.int .u32 0), (.int .u32 0), (.int .u32 0), (.int .u32 0), (.int .u32 0), (.int .u32 0), (.int .u32 0), (.int .u32 0), (.int .u32 0), (.int .u32 0), (.int .u32 0), (.int .u32 0), (.int .u32 0), (.int .u32 0), (.int .u32 0), (.int .u32 0), (.int .u32 0), (.int .u32 0), (.int .u32 0), (.int .u32 0), (.int .u32 0), (.int .u32 0), (.int .u32 0), (.int .u32 0), (.int .u32 0), (.int .u32 0), (.int .u32 0), (.int .u32 0), (.int .u32 0), (.int .u32 0), (.int .u32 0), (.int .u32 0), (.int .u32 0), (.int .u32 0), (.int .u32 0), (.int .u32 0), (.int .u32 0), (.int .u32 0), (.int .u32 0), (.int .u32 0), (.int .u32 0), (.int .u32 0), (.int .u32 0), (.int .u32 0), (.int .u32 0), (.int .u32 0), (.int .u32 0), (.int .u32 0), (.int .u32 0), (.int .u32 0), (.int .u32 0), (.int .u32 0), (.int .u32 0), (.int .u32 0), (.int .u32 0), (.int .u32 0), (.int .u32 0), (.int .u32 0), (.int .u32 0), (.int .u32 0), (.int .u32 0), (.int .u32 0), (.int .u32 0), (.int .u32 0), (.int .u32 0), (.int .u32 0), (.int .u32 0), (.int .u32 0), (.int .u32 0), (.int .u32 0), (.int .u32 0), (.int .u32 0), (.int .u32 0), (.int .u32 0), (.int .u32 0), (.int .u32 0), (.int .u32 0), (.int .u32 0), (.int .u32 0), (.int .u32 0), (.int .u32 0), (.int .u32 0), (.int .u32 0), (.int .u32 0), (.int .u32 0), (.int .u32 0), (.int .u32 0), (.int .u32 0), (.int .u32 0), (.int .u32 0), (.int .u32 0), (.int .u32 0), (.int .u32 0), (.int .u32 0), (.int .u32 0), (.int .u32 0), (.int .u32 0), (.int .u32 0), (.int .u32 0), (.int .u32 0), (.int .u32 0), (.int .u32 0), (.int .u32 0), (.int .u32 0), (.int .u32 0), (.int .u32 0), (.int .u32 0), (.int .u32 0), (.int .u32 0), (.int .u32 0), (.int .u32 0), (.int .u32 0), (.int .u32 0), (.int .u32 0), (.int .u32 0), (.int .u32 0), (.int .u32 0), (.int .u32 0), (.int .u32 0), (.int .u32 0), (.int .u32 0), (.int .u32 0), (.int .u32 0), (.int .u32 0), (.int .u32 0), (.int .u32 0), (.int .u32 0), (.int .u32 0), (.int .u32 0), (.int .u32 0), (.int .u32 0), (.int .u32 0), (.int .u32 0), (.int .u32 0), (.int .u32 0), (.int .u32 0), (.int .u32 0), (.int .u32 0), (.int .u32 0), (.int .u32 0), (.int .u32 0), (.int .u32 0), (.int .u32 0), (.int .u32 0), (.int .u32 0), (.int .u32 0), (.int .u32 0), (.int .u32 0), (.int .u32 0), (.int .u32 0), (.int .u32 0), (.int .u32 0), (.int .u32 0), (.int .u32 0), (.int .u32 0), (.int .u32 0), (.int .u32 0), (.int .u32 0), (.int .u32 0)], [], none⟩] [] [] [0, 4] true [] []
noncomputable def c25_17 : ACode := .region false [⟨some 5, .alloc [(.slice none 0 0), (.int .i64 0)], [], none⟩,
  ⟨some 6, .alloc [(.slice none 0 0), (.int .i64 0)], [], none⟩] [] [] [0, 4, 5, 6] true [] []
noncomputable def c25_19 : ACode := .region false [⟨some 15, .move, [.t 0], none⟩,
  ⟨some 16, .len, [.t 15], none⟩,
  ⟨some 17, .conv .u64, [.t 16], none⟩,
  ⟨some 18, .call 52, [.t 5, .t 17, .c (.val (.int .i64 2))], none⟩] [] [] [0, 4, 5, 6] true [] []
noncomputable def c25_21 : ACode := .region false [⟨some 19, .call 55, [.t 5], none⟩,
  ⟨some 20, .call 53, [.t 4, .t 19], none⟩,
  ⟨some 21, .move, [.t 0], none⟩,
  ⟨some 22, .call 53, [.t 4, .t 21], none⟩,
  ⟨some 23, .buildSl 1 2 [(.slice none 0 0)] [(0, 1), (1, 1)], [.t 20, .t 22], none⟩,
  ⟨some 24, .call 54, [.t 6, .t 23], none⟩,
  ⟨some 25, .call 55, [.t 24], none⟩,
  ⟨some 2, .move, [.t 25], none⟩,
  ⟨some 3, .move, [.c (.val (.int .i64 0))], none⟩] [] [] [2, 3] true [] []
noncomputable def c25_20 : ACode := .seq c25_21 .ret
noncomputable def c25_18 : ACode := .seq c25_19 c25_20
noncomputable def c25_16 : ACode := .seq c25_17 c25_18
noncomputable def c25_14 : ACode := .seq c25_15 c25_16
noncomputable def c25_2 : ACode := .seq c25_3 c25_14
noncomputable def c25_0 : ACode := .seq c25_1 c25_2
noncomputable def code25 : Code := (Try.f25.body).getD .skip
theorem c25_ok : compC Try.prog 26 code25 = some (strip c25_0) := by kernel_rfl
theorem res25_ok : Try.f25.results.toList.mapM (resC Try.prog) = some [(2, none), (3, none)] := by kernel_rfl
/- quidnunc/quidnuncref07.Check -/
noncomputable def c26_1 : ACode := .region false [⟨some 2, .move, [.c (.val (.int .i64 0))], none⟩] [] [] [0] false [] []
noncomputable def c26_4 : ACode := .region false [⟨some 3, .move, [.t 0], none⟩,
  ⟨some 4, .len, [.t 3], none⟩,
  ⟨some 5, .bin .eql, [.t 4, .c (.val (.int .i64 0))], none⟩] [] [] [0, 5] false [] []
noncomputable def c26_7 : ACode := .region false [⟨some 2, .move, [.c (.val (.int .i64 1))], none⟩] [] [] [2] false [] []
noncomputable def c26_6 : ACode := .seq c26_7 .ret
noncomputable def c26_5 : ACode := .cond (.t 5) c26_6 .skip
noncomputable def c26_3 : ACode := .seq c26_4 c26_5
noncomputable def c26_10 : ACode := .region false [⟨some 6, .move, [.t 0], none⟩,
  ⟨some 7, .len, [.t 6], none⟩,
  ⟨some 8, .bin .gtr, [.t 7, .c (.val (.int .i64 512))], none⟩] [] [] [8] false [] []
noncomputable def c26_13 : ACode := .region false [⟨some 2, .move, [.c (.val (.int .i64 7))], none⟩] [] [] [2] false [] []
noncomputable def c26_12 : ACode := .seq c26_13 .ret
noncomputable def c26_11 : ACode := .cond (.t 8) c26_12 .skip
noncomputable def c26_9 : ACode := .seq c26_10 c26_11
noncomputable def c26_15 : ACode := .region false [⟨some 2, .move, [.c (.val (.int .i64 0))], none⟩] [] [] [2] false [] []
noncomputable def c26_14 : ACode := .seq c26_15 .ret
noncomputable def c26_8 : ACode := .seq c26_9 c26_14
noncomputable def c26_2 : ACode := .seq c26_3 c26_8
noncomputable def c26_0 : ACode := .seq c26_1 c26_2
noncomputable def code26 : Code := (Try.f26.body).getD .skip
theorem c26_ok : compC Try.prog 9 code26 = some (strip c26_0) := by kernel_rfl
theorem res26_ok : Try.f26.results.toList.mapM (resC Try.prog) = some [(2, none)] := by kernel_rfl
/- quidnunc/quidnuncref07.Record -/
noncomputable def c27_1 : ACode := .region false [⟨some 2, .move, [.c (.val (.slice none 0 0))], none⟩] [] [] [0] false [] []
noncomputable def c27_3 : ACode := .region false [⟨some 6, .move, [.t 0], none⟩,
  ⟨some 7, .len, [.t 6], none⟩,
  ⟨some 8, .conv .u64, [.t 7], none⟩,
  ⟨some 9, .call 59, [.t 8, .c (.val (.int .i64 2))], none⟩,
  ⟨some 5, .move, [.t 9], none⟩,
  ⟨some 10, .ext 0, [.t 5], none⟩,
  ⟨some 11, .ext 1, [.t 5], none⟩,
  ⟨some 3, .move, [.t 10], none⟩,
  ⟨some 4, .move, [.t 11], none⟩] [] [] [0, 3] true [] []
noncomputable def c27_5 : ACode := .region false [⟨some 12, .move, [.t 3], none⟩,
  ⟨some 13, .call 44, [.t 12], none⟩,
  ⟨some 14, .move, [.t 0], none⟩,
  ⟨some 15, .call 44, [.t 14], none⟩,
  ⟨some 16, .append 1 1 false, [.t 13, .t 15], none⟩,
  ⟨some 2, .move, [.t 16], none⟩] [] [] [2] true [] []
noncomputable def c27_4 : ACode := .seq c27_5 .ret
noncomputable def c27_2 : ACode := .seq c27_3 c27_4
noncomputable def c27_0 : ACode := .seq c27_1 c27_2
noncomputable def code27 : Code := (Try.f27.body).getD .skip
theorem c27_ok : compC Try.prog 17 code27 = some (strip c27_0) := by kernel_rfl
theorem res27_ok : Try.f27.results.toList.mapM (resC Try.prog) = some [(2, none)] := by kernel_rfl
theorem hrTb (d : Bool) {m : Nat} : ∀ n, m < n → ∀ o ∈ [AObj.cells false (tb d)], o.own = false → renO (rotL m n) o = o := fun n _ o ho hw => by
  simp only [List.mem_singleton] at ho; subst ho; cases hw
theorem mark_fz (d : Bool) {l : List Int} (hl : l.length ≤ 1099511627776) (hby : ∀ x ∈ l, 0 ≤ x ∧ x ≤ 255) :
    ACall Try.prog 53 [.ptr 0 0, fzB l] [.cells false (tb d)] (Det (.sl 1 0 (l.length + 4) 1 none) [.cells false (tb true), .cells false (bA (mkd l)), .gone]) := by
  refine ACall.fzD (v := .sl 2 0 (l.length + 4) 1 none) (H1 := [.cells false (tb true)]) (H1' := [.cells false (tb true)]) (N := [.cells false (bA (mkd l))]) (N' := [.cells false (bA (mkd l))]) 1 1 (by kernel_rfl) rfl rfl (hrTb d) (fun off => ?_) rfl rfl ?_ ?_
  · have sg := Seg.rows (off := off) hl
    rw [rows_bA] at sg
    exact mark_any d sg hby
  · simp only [List.map_cons, List.map_nil, renO, tb_ren]
  · simp only [List.map_cons, List.map_nil, renO, bA_ren]
theorem rmark_fz {l : List Int} (hl : l.length ≤ 1099511627776) (hby : ∀ x ∈ l, 0 ≤ x ∧ x ≤ 255) :
    ACall Try.prog 44 [fzB l] [] (Det (.sl 0 0 (l.length + 4) 1 none) [.cells false (bA (mkd l)), .gone]) := by
  refine ACall.fzD (v := .sl 1 0 (l.length + 4) 1 none) (H1 := []) (H1' := []) (N := [.cells false (bA (mkd l))]) (N' := [.cells false (bA (mkd l))]) 0 0 (by kernel_rfl) rfl rfl (fun _ _ o ho => by cases ho) (fun off => ?_) rfl rfl rfl ?_
  · have sg := Seg.rows (off := off) hl
    rw [rows_bA] at sg
    exact rmark_any sg hby
  · simp only [List.map_cons, List.map_nil, renO, bA_ren]
theorem raw2_any (l : List Int) (hl : l.length ≤ 1099511627776) (err : Int) {P1 : List AV} {o1 : Nat} {l1 : List Int} (s1 : Seg P1 o1 l1) {P2 : List AV} {o2 : Nat} {l2 : List Int} (s2 : Seg P2 o2 l2) : ACall Try.prog 54 [.ptr 0 0, .sl 2 0 2 1 none] [WrO 1 l.length err, .cells false (bA l), .cells true [.sl 3 o1 l1.length 1 none, .sl 4 o2 l2.length 1 none], .cells true P1, .cells true P2] (Det (.ptr 0 0) [WrO 5 (wput err l (l1 ++ l2)).length err, .gone, .cells true [.sl 3 o1 l1.length 1 none, .sl 4 o2 l2.length 1 none], .cells true P1, .cells true P2, .cells false (bA (wput err l (l1 ++ l2)))]) := by
  refine ACall.startA c54_ok Try.func54 rfl Try.ntmps54 (by kernel_rfl) res54_ok rfl rfl rfl ?_; simp (maxSteps := 9999999) (disch := omega) only [go_sem]
  (have k9 := And.intro @s1.ren (And.intro @s2.ren (k0)); (repeat' (first | refine AWpA.seq ?_ | refine AWpA.block ?_ | (with_reducible refine CondP.tt ?_) | (with_reducible refine CondP.ff ?_) | refine AWpA.cg ?_ | ((first | refine AWpA.rg ?_ | refine AWpA.dg [] [] follows ?_ | refine TailK.tg ?_ | refine AWpA.skip ?_ | refine AWpA.exit ?_ | refine AWpA.ret ?_ | (with_reducible refine ARoundsA.succ ?_) | ((first | refine Runs.gkt (fun h9 => ?_) | refine Runs.gkf (fun h9 => ?_) | refine Runs.gnt (fun h9 => ?_) | refine Runs.gnf (fun h9 => ?_) | refine CondP.gt (fun h9 => ?_) | refine CondP.gf (fun h9 => ?_) | refine CondP.gnt (fun h9 => ?_) | refine CondP.gnf (fun h9 => ?_)); (try simp only [h9]); clear h9) | refine CallG.pg [0, 1, 2, 3, 4] (put2_any l hl err s1 s2) ?_ | refine CallG.dg [0, 1, 2, 3, 4] (put2_any l hl err s1 s2) ?_); (try simp (maxSteps := 9999999) (disch := omega) only [go_sem, k9]); (try refine cnd ?_)) | ((first | refine CondP.split (fun hif => ?_) (fun hif => ?_) | refine Runs.part (fun hif => ?_) (fun hif => ?_)) <;> ((try simp only [hif]); (try simp only [BL] at hif); (try (have h9 : _ = true := hif; simp only [h9])); (try (have h9 : _ = false := hif; simp only [h9])); (try simp (maxSteps := 9999999) (disch := omega) only [go_sem, k9]); (try refine cnd ?_); (try (exfalso; omega; done)))))); (all_goals (try clear k9)))
  (apply Ret.det [0, 1, 2, 3, 4, _]; (focus (first | exact .inl rfl | exact .inr rfl)); (focus (simp (maxSteps := 9999999) (disch := omega) only [go_sem, s1.ren, s2.ren]; rfl)); (simp (maxSteps := 9999999) (disch := omega) only [go_sem, s1.ren, s2.ren]; (try (repeat' (first | done | trivial | rfl | exact leAs_rfl _ | decide | (refine And.intro ?_ ?_) | (simp; done) | omega | (simp; decide))))))
theorem rchk_any (l : List Int) (hl : l.length ≤ 1099511627776) : ACall Try.prog 26 [fzB l] [] (Det (I (recE l)) []) := by
  unfold recE
  by_cases h0 : l.length = 0
  · rw [if_pos h0]
    have g1 : ((l.length : Int) == 0) = true := by simp [h0]
    refine ACall.startA c26_ok Try.func26 rfl Try.ntmps26 (by kernel_rfl) res26_ok rfl rfl rfl ?_; simp (maxSteps := 9999999) (disch := omega) only [go_sem]
    (have k9 := And.intro @g1 (And.intro @bA_ren (k0)); (repeat' (first | refine AWpA.seq ?_ | refine AWpA.block ?_ | (with_reducible refine CondP.tt ?_) | (with_reducible refine CondP.ff ?_) | refine AWpA.cg ?_ | ((first | refine AWpA.rg ?_ | refine AWpA.dg [] [] follows ?_ | refine TailK.tg ?_ | refine AWpA.skip ?_ | refine AWpA.exit ?_ | refine AWpA.ret ?_ | (with_reducible refine ARoundsA.succ ?_) | ((first | refine Runs.gkt (fun h9 => ?_) | refine Runs.gkf (fun h9 => ?_) | refine Runs.gnt (fun h9 => ?_) | refine Runs.gnf (fun h9 => ?_) | refine CondP.gt (fun h9 => ?_) | refine CondP.gf (fun h9 => ?_) | refine CondP.gnt (fun h9 => ?_) | refine CondP.gnf (fun h9 => ?_)); (try simp only [h9]); clear h9)); (try simp (maxSteps := 9999999) (disch := omega) only [go_sem, k9]); (try refine cnd ?_)) | ((first | refine CondP.split (fun hif => ?_) (fun hif => ?_) | refine Runs.part (fun hif => ?_) (fun hif => ?_)) <;> ((try simp only [hif]); (try simp only [BL] at hif); (try (have h9 : _ = true := hif; simp only [h9])); (try (have h9 : _ = false := hif; simp only [h9])); (try simp (maxSteps := 9999999) (disch := omega) only [go_sem, k9]); (try refine cnd ?_); (try (exfalso; omega; done)))))); (all_goals (try clear k9)))
    (apply Ret.det []; (focus (first | exact .inl rfl | exact .inr rfl)); (focus (simp (maxSteps := 9999999) (disch := omega) only [go_sem]; rfl)); (simp (maxSteps := 9999999) (disch := omega) only [go_sem]; (try (repeat' (first | done | trivial | rfl | exact leAs_rfl _ | decide | (refine And.intro ?_ ?_) | (simp; done) | omega | (simp; decide))))))
  · rw [if_neg h0]
    have g1 : ((l.length : Int) == 0) = false := by rw [beq_eq_false_iff_ne]; omega
    by_cases h1 : 512 < l.length
    · rw [if_pos h1]
      have g2 : ((512 : Int) < (l.length : Int)) = True := eq_true (by omega)
      refine ACall.startA c26_ok Try.func26 rfl Try.ntmps26 (by kernel_rfl) res26_ok rfl rfl rfl ?_; simp (maxSteps := 9999999) (disch := omega) only [go_sem]
      (have k9 := And.intro @g1 (And.intro @g2 (And.intro @bA_ren (k0))); (repeat' (first | refine AWpA.seq ?_ | refine AWpA.block ?_ | (with_reducible refine CondP.tt ?_) | (with_reducible refine CondP.ff ?_) | refine AWpA.cg ?_ | ((first | refine AWpA.rg ?_ | refine AWpA.dg [] [] follows ?_ | refine TailK.tg ?_ | refine AWpA.skip ?_ | refine AWpA.exit ?_ | refine AWpA.ret ?_ | (with_reducible refine ARoundsA.succ ?_) | ((first | refine Runs.gkt (fun h9 => ?_) | refine Runs.gkf (fun h9 => ?_) | refine Runs.gnt (fun h9 => ?_) | refine Runs.gnf (fun h9 => ?_) | refine CondP.gt (fun h9 => ?_) | refine CondP.gf (fun h9 => ?_) | refine CondP.gnt (fun h9 => ?_) | refine CondP.gnf (fun h9 => ?_)); (try simp only [h9]); clear h9)); (try simp (maxSteps := 9999999) (disch := omega) only [go_sem, k9]); (try refine cnd ?_)) | ((first | refine CondP.split (fun hif => ?_) (fun hif => ?_) | refine Runs.part (fun hif => ?_) (fun hif => ?_)) <;> ((try simp only [hif]); (try simp only [BL] at hif); (try (have h9 : _ = true := hif; simp only [h9])); (try (have h9 : _ = false := hif; simp only [h9])); (try simp (maxSteps := 9999999) (disch := omega) only [go_sem, k9]); (try refine cnd ?_); (try (exfalso; omega; done)))))); (all_goals (try clear k9)))
      (apply Ret.det []; (focus (first | exact .inl rfl | exact .inr rfl)); (focus (simp (maxSteps := 9999999) (disch := omega) only [go_sem]; rfl)); (simp (maxSteps := 9999999) (disch := omega) only [go_sem]; (try (repeat' (first | done | trivial | rfl | exact leAs_rfl _ | decide | (refine And.intro ?_ ?_) | (simp; done) | omega | (simp; decide))))))
    · rw [if_neg h1]
      have g2 : ((512 : Int) < (l.length : Int)) = False := eq_false (by omega)
      refine ACall.startA c26_ok Try.func26 rfl Try.ntmps26 (by kernel_rfl) res26_ok rfl rfl rfl ?_; simp (maxSteps := 9999999) (disch := omega) only [go_sem]
      (have k9 := And.intro @g1 (And.intro @g2 (And.intro @bA_ren (k0))); (repeat' (first | refine AWpA.seq ?_ | refine AWpA.block ?_ | (with_reducible refine CondP.tt ?_) | (with_reducible refine CondP.ff ?_) | refine AWpA.cg ?_ | ((first | refine AWpA.rg ?_ | refine AWpA.dg [] [] follows ?_ | refine TailK.tg ?_ | refine AWpA.skip ?_ | refine AWpA.exit ?_ | refine AWpA.ret ?_ | (with_reducible refine ARoundsA.succ ?_) | ((first | refine Runs.gkt (fun h9 => ?_) | refine Runs.gkf (fun h9 => ?_) | refine Runs.gnt (fun h9 => ?_) | refine Runs.gnf (fun h9 => ?_) | refine CondP.gt (fun h9 => ?_) | refine CondP.gf (fun h9 => ?_) | refine CondP.gnt (fun h9 => ?_) | refine CondP.gnf (fun h9 => ?_)); (try simp only [h9]); clear h9)); (try simp (maxSteps := 9999999) (disch := omega) only [go_sem, k9]); (try refine cnd ?_)) | ((first | refine CondP.split (fun hif => ?_) (fun hif => ?_) | refine Runs.part (fun hif => ?_) (fun hif => ?_)) <;> ((try simp only [hif]); (try simp only [BL] at hif); (try (have h9 : _ = true := hif; simp only [h9])); (try (have h9 : _ = false := hif; simp only [h9])); (try simp (maxSteps := 9999999) (disch := omega) only [go_sem, k9]); (try refine cnd ?_); (try (exfalso; omega; done)))))); (all_goals (try clear k9)))
      (apply Ret.det []; (focus (first | exact .inl rfl | exact .inr rfl)); (focus (simp (maxSteps := 9999999) (disch := omega) only [go_sem]; rfl)); (simp (maxSteps := 9999999) (disch := omega) only [go_sem]; (try (repeat' (first | done | trivial | rfl | exact leAs_rfl _ | decide | (refine And.intro ?_ ?_) | (simp; done) | omega | (simp; decide))))))
theorem rec_any (l : List Int) (hl : l.length ≤ 1099511627776) (hby : ∀ x ∈ l, 0 ≤ x ∧ x ≤ 255) : ACall Try.prog 25 [fzB l] [] (Det (.tup [fzB (recR l), I (recE l)]) []) := by
  by_cases h0 : l.length = 0
  · have e : recE l = 1 := by unfold recE; rw [if_pos h0]
    have e2 : recR l = [] := by unfold recR; rw [e]; rfl
    have g1 : ((l.length : Int) == 0) = true := by simp [h0]
    rw [e, e2]
    refine ACall.startA c25_ok Try.func25 rfl Try.ntmps25 (by kernel_rfl) res25_ok rfl rfl rfl ?_; simp (maxSteps := 9999999) (disch := omega) only [go_sem]
    (have k9 := And.intro @g1 (And.intro @bA_ren (k0)); (repeat' (first | refine AWpA.seq ?_ | refine AWpA.block ?_ | (with_reducible refine CondP.tt ?_) | (with_reducible refine CondP.ff ?_) | refine AWpA.cg ?_ | ((first | refine AWpA.rg ?_ | refine AWpA.dg [] [] follows ?_ | refine TailK.tg ?_ | refine AWpA.skip ?_ | refine AWpA.exit ?_ | refine AWpA.ret ?_ | (with_reducible refine ARoundsA.succ ?_) | ((first | refine Runs.gkt (fun h9 => ?_) | refine Runs.gkf (fun h9 => ?_) | refine Runs.gnt (fun h9 => ?_) | refine Runs.gnf (fun h9 => ?_) | refine CondP.gt (fun h9 => ?_) | refine CondP.gf (fun h9 => ?_) | refine CondP.gnt (fun h9 => ?_) | refine CondP.gnf (fun h9 => ?_)); (try simp only [h9]); clear h9)); (try simp (maxSteps := 9999999) (disch := omega) only [go_sem, k9]); (try refine cnd ?_)) | ((first | refine CondP.split (fun hif => ?_) (fun hif => ?_) | refine Runs.part (fun hif => ?_) (fun hif => ?_)) <;> ((try simp only [hif]); (try simp only [BL] at hif); (try (have h9 : _ = true := hif; simp only [h9])); (try (have h9 : _ = false := hif; simp only [h9])); (try simp (maxSteps := 9999999) (disch := omega) only [go_sem, k9]); (try refine cnd ?_); (try (exfalso; omega; done)))))); (all_goals (try clear k9)))
    (apply Ret.det []; (focus (first | exact .inl rfl | exact .inr rfl)); (focus (simp (maxSteps := 9999999) (disch := omega) only [go_sem, bA_nil]; rfl)); (simp (maxSteps := 9999999) (disch := omega) only [go_sem, bA_nil]; (try (repeat' (first | done | trivial | rfl | exact leAs_rfl _ | decide | (refine And.intro ?_ ?_) | (simp; done) | omega | (simp; decide))))))
  have g1 : ((l.length : Int) == 0) = false := by rw [beq_eq_false_iff_ne]; omega
  by_cases h1 : 512 < l.length
  · have e : recE l = 7 := by unfold recE; rw [if_neg h0, if_pos h1]
    have e2 : recR l = [] := by unfold recR; rw [e]; rfl
    have g2 : ((512 : Int) < (l.length : Int)) = True := eq_true (by omega)
    rw [e, e2]
    refine ACall.startA c25_ok Try.func25 rfl Try.ntmps25 (by kernel_rfl) res25_ok rfl rfl rfl ?_; simp (maxSteps := 9999999) (disch := omega) only [go_sem]
    (have k9 := And.intro @g1 (And.intro @g2 (And.intro @bA_ren (k0))); (repeat' (first | refine AWpA.seq ?_ | refine AWpA.block ?_ | (with_reducible refine CondP.tt ?_) | (with_reducible refine CondP.ff ?_) | refine AWpA.cg ?_ | ((first | refine AWpA.rg ?_ | refine AWpA.dg [] [] follows ?_ | refine TailK.tg ?_ | refine AWpA.skip ?_ | refine AWpA.exit ?_ | refine AWpA.ret ?_ | (with_reducible refine ARoundsA.succ ?_) | ((first | refine Runs.gkt (fun h9 => ?_) | refine Runs.gkf (fun h9 => ?_) | refine Runs.gnt (fun h9 => ?_) | refine Runs.gnf (fun h9 => ?_) | refine CondP.gt (fun h9 => ?_) | refine CondP.gf (fun h9 => ?_) | refine CondP.gnt (fun h9 => ?_) | refine CondP.gnf (fun h9 => ?_)); (try simp only [h9]); clear h9)); (try simp (maxSteps := 9999999) (disch := omega) only [go_sem, k9]); (try refine cnd ?_)) | ((first | refine CondP.split (fun hif => ?_) (fun hif => ?_) | refine Runs.part (fun hif => ?_) (fun hif => ?_)) <;> ((try simp only [hif]); (try simp only [BL] at hif); (try (have h9 : _ = true := hif; simp only [h9])); (try (have h9 : _ = false := hif; simp only [h9])); (try simp (maxSteps := 9999999) (disch := omega) only [go_sem, k9]); (try refine cnd ?_); (try (exfalso; omega; done)))))); (all_goals (try clear k9)))
    (apply Ret.det []; (focus (first | exact .inl rfl | exact .inr rfl)); (focus (simp (maxSteps := 9999999) (disch := omega) only [go_sem, bA_nil]; rfl)); (simp (maxSteps := 9999999) (disch := omega) only [go_sem, bA_nil]; (try (repeat' (first | done | trivial | rfl | exact leAs_rfl _ | decide | (refine And.intro ?_ ?_) | (simp; done) | omega | (simp; decide))))))
  have e : recE l = 0 := recE_of (by omega) (by omega)
  have e2 : recR l = recB l := by unfold recR; rw [if_pos e]
  have g2 : ((512 : Int) < (l.length : Int)) = False := eq_false (by omega)
  rw [e, e2]
  have c1 := number_any [] (by simp) 0 (l.length : Int) 2 (by omega)
  have q1 := numL_ok (v := (l.length : Int)) (k := 2) (by decide) (by decide) (by omega) (by omega) []
  rw [show ((2 : Nat) : Int) = 2 from rfl] at q1
  rw [q1.1, q1.2, leI2 (by omega)] at c1
  have hb2 : ∀ x ∈ ([((l.length % 256 : Nat) : Int), ((l.length / 256 : Nat) : Int)] : List Int), 0 ≤ x ∧ x ≤ 255 := by
    intro x hx
    simp only [List.mem_cons, List.not_mem_nil, or_false] at hx
    rcases hx with rfl | rfl <;> omega
  have hr : recB l = recH l.length ++ mkd l := rfl
  have c3 := mark_any false (Seg.all [((l.length % 256 : Nat) : Int), ((l.length / 256 : Nat) : Int)] (by simp)) hb2
  rw [show mkd [((l.length % 256 : Nat) : Int), ((l.length / 256 : Nat) : Int)] = recH l.length from rfl] at c3
  generalize ((l.length % 256 : Nat) : Int) = x0 at *
  generalize ((l.length / 256 : Nat) : Int) = x1 at *
  have c2 := bytes_any [x0, x1] 0 (by simp)
  have c4 := mark_fz true hl hby
  have c5 := raw2_any [] (by simp) 0 (Seg.all (recH l.length) (by rw [recH_len]; omega)) (Seg.all (mkd l) (by rw [mkd_length]; omega))
  rw [wput_ok, List.nil_append, ← hr] at c5
  have c6 := bytes_any (recB l) 0 (by rw [recB_len]; omega)
  simp only [recH_len, mkd_length, recB_len, List.length_cons, List.length_nil, List.nil_append, bA_nil, Nat.zero_add, Nat.reduceAdd] at c1 c2 c3 c4 c5 c6
  have hft : (bA (recB l)).take (l.length + 10) = bA (recB l) := List.take_of_length_le (by rw [bA_len, recB_len]; omega)
  have hlr := recB_len l
  clear q1 hb2 hr
  generalize recB l = B at *
  generalize mkd l = M at *
  generalize recH l.length = Hd at *
  refine ACall.startA c25_ok Try.func25 rfl Try.ntmps25 (by kernel_rfl) res25_ok rfl rfl rfl ?_; simp (maxSteps := 9999999) (disch := omega) only [go_sem]
  refine AWpA.dummy ?_
  refine AWpA.dummy ?_
  (have k9 := And.intro @g1 (And.intro @g2 (And.intro @bA_ren (And.intro @tb_ren (And.intro @tb_lit (And.intro @hft (k0)))))); (repeat' (first | (refine AWpA.freeze0 370 2 rfl rfl ?_ ?_; (focus ((try simp (maxSteps := 9999999) (disch := omega) only [go_sem, k9]); first | done | omega))) | refine AWpA.seq ?_ | refine AWpA.block ?_ | (with_reducible refine CondP.tt ?_) | (with_reducible refine CondP.ff ?_) | refine AWpA.cg ?_ | ((first | refine AWpA.rg ?_ | refine AWpA.dg [] [] follows ?_ | refine TailK.tg ?_ | refine AWpA.skip ?_ | refine AWpA.exit ?_ | refine AWpA.ret ?_ | (with_reducible refine ARoundsA.succ ?_) | ((first | refine Runs.gkt (fun h9 => ?_) | refine Runs.gkf (fun h9 => ?_) | refine Runs.gnt (fun h9 => ?_) | refine Runs.gnf (fun h9 => ?_) | refine CondP.gt (fun h9 => ?_) | refine CondP.gf (fun h9 => ?_) | refine CondP.gnt (fun h9 => ?_) | refine CondP.gnf (fun h9 => ?_)); (try simp only [h9]); clear h9) | refine CallG.pg [178, 0] (c1) ?_ | refine CallG.pg [178, 258] (c2) ?_ | refine CallG.pg [162, 274] (c3) ?_ | refine CallG.pg [162] (c4) ?_ | refine CallG.pg [194, 1, 338, 290, 322] (c5) ?_ | refine CallG.pg [194, 354] (c6) ?_ | refine CallG.dg [178, 0] (c1) ?_ | refine CallG.dg [178, 258] (c2) ?_ | refine CallG.dg [162, 274] (c3) ?_ | refine CallG.dg [162] (c4) ?_ | refine CallG.dg [194, 1, 338, 290, 322] (c5) ?_ | refine CallG.dg [194, 354] (c6) ?_); (try simp (maxSteps := 9999999) (disch := omega) only [go_sem, k9]); (try refine cnd ?_)) | ((first | refine CondP.split (fun hif => ?_) (fun hif => ?_) | refine Runs.part (fun hif => ?_) (fun hif => ?_)) <;> ((try simp only [hif]); (try simp only [BL] at hif); (try (have h9 : _ = true := hif; simp only [h9])); (try (have h9 : _ = false := hif; simp only [h9])); (try simp (maxSteps := 9999999) (disch := omega) only [go_sem, k9]); (try refine cnd ?_); (try (exfalso; omega; done)))))); (all_goals (try clear k9)))
  (apply Ret.det []; (focus (first | exact .inl rfl | exact .inr rfl)); (focus (simp (maxSteps := 9999999) (disch := omega) only [go_sem, hlr]; rfl)); (simp (maxSteps := 9999999) (disch := omega) only [go_sem, hlr]; (try (repeat' (first | done | trivial | rfl | exact leAs_rfl _ | decide | (refine And.intro ?_ ?_) | (simp; done) | omega | (simp; decide))))))
theorem rrec_any (l : List Int) (hl : l.length ≤ 512) (hby : ∀ x ∈ l, 0 ≤ x ∧ x ≤ 255) : ACall Try.prog 27 [fzB l] [] (Det (fzB (recB l)) []) := by
  have c1 := refnum_any (l.length : Int) (by omega) 2 (by decide)
  rw [leI2 (by omega), show ((2 : Nat) : Int) = 2 from rfl] at c1
  have hb2 : ∀ x ∈ ([((l.length % 256 : Nat) : Int), ((l.length / 256 : Nat) : Int)] : List Int), 0 ≤ x ∧ x ≤ 255 := by
    intro x hx
    simp only [List.mem_cons, List.not_mem_nil, or_false] at hx
    rcases hx with rfl | rfl <;> omega
  have hr : recB l = recH l.length ++ mkd l := rfl
  have c3 := rmark_any (Seg.all [((l.length % 256 : Nat) : Int), ((l.length / 256 : Nat) : Int)] (by simp)) hb2
  rw [show mkd [((l.length % 256 : Nat) : Int), ((l.length / 256 : Nat) : Int)] = recH l.length from rfl] at c3
  generalize ((l.length % 256 : Nat) : Int) = x0 at *
  generalize ((l.length / 256 : Nat) : Int) = x1 at *
  have c4 := rmark_fz (l := l) (by omega) hby
  simp only [List.length_cons, List.length_nil, Nat.zero_add, Nat.reduceAdd] at c3
  generalize hbo : ((l.length : Int) / 256 ^ 2 == 0) = bo at c1
  have hm := mkd_length l
  have hh := recH_len l.length
  have hlr := recB_len l
  have hsm : l.length + 4 ≤ 1099511627776 := by omega
  rw [hr] at hlr ⊢
  generalize mkd l = M at *
  generalize recH l.length = Hd at *
  have t1 : Hd.take 6 = Hd := List.take_of_length_le (by omega)
  have t2 : M.take (l.length + 4) = M := List.take_of_length_le (by omega)
  clear hr hb2 hbo
  refine ACall.startA c27_ok Try.func27 rfl Try.ntmps27 (by kernel_rfl) res27_ok rfl rfl rfl ?_; simp (maxSteps := 9999999) (disch := omega) only [go_sem]
  (have k9 := And.intro @bA_ren (And.intro @hm (And.intro @hh (And.intro @t1 (And.intro @t2 (k0))))); (repeat' (first | (refine AWpA.freeze0 224 2 rfl rfl ?_ ?_; (focus ((try simp (maxSteps := 9999999) (disch := omega) only [go_sem, k9]); first | done | omega))) | refine AWpA.seq ?_ | refine AWpA.block ?_ | (with_reducible refine CondP.tt ?_) | (with_reducible refine CondP.ff ?_) | refine AWpA.cg ?_ | ((first | refine AWpA.rg ?_ | refine AWpA.dg [] [] follows ?_ | refine TailK.tg ?_ | refine AWpA.skip ?_ | refine AWpA.exit ?_ | refine AWpA.ret ?_ | (with_reducible refine ARoundsA.succ ?_) | ((first | refine Runs.gkt (fun h9 => ?_) | refine Runs.gkf (fun h9 => ?_) | refine Runs.gnt (fun h9 => ?_) | refine Runs.gnf (fun h9 => ?_) | refine CondP.gt (fun h9 => ?_) | refine CondP.gf (fun h9 => ?_) | refine CondP.gnt (fun h9 => ?_) | refine CondP.gnf (fun h9 => ?_)); (try simp only [h9]); clear h9) | refine CallG.pg [] (c1) ?_ | refine CallG.pg [64] (c3) ?_ | refine CallG.pg [] (c4) ?_ | refine CallG.dg [] (c1) ?_ | refine CallG.dg [64] (c3) ?_ | refine CallG.dg [] (c4) ?_); (try simp (maxSteps := 9999999) (disch := omega) only [go_sem, k9]); (try refine cnd ?_)) | ((first | refine CondP.split (fun hif => ?_) (fun hif => ?_) | refine Runs.part (fun hif => ?_) (fun hif => ?_)) <;> ((try simp only [hif]); (try simp only [BL] at hif); (try (have h9 : _ = true := hif; simp only [h9])); (try (have h9 : _ = false := hif; simp only [h9])); (try simp (maxSteps := 9999999) (disch := omega) only [go_sem, k9]); (try refine cnd ?_); (try (exfalso; omega; done)))))); (all_goals (try clear k9)))
  (apply Ret.det []; (focus (first | exact .inl rfl | exact .inr rfl)); (focus (simp (maxSteps := 9999999) (disch := omega) only [go_sem, hm, hh]; rfl)); (simp (maxSteps := 9999999) (disch := omega) only [go_sem, hm, hh]; (try (repeat' (first | done | trivial | rfl | exact leAs_rfl _ | decide | (refine And.intro ?_ ?_) | (simp; done) | omega | (simp; decide))))))
end Go.Proofs.Ythbpdmlbfnjoiaa
