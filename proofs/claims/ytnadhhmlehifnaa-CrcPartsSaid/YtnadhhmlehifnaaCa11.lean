/- The walk of CrcParts. -/
import Derived.Test.YtnadhhmlehifnaaCo7
import Derived.Test.YtnadhhmlehifnaaFb
namespace Go.Proofs.Ytnadhhmlehifnaa
set_option linter.unusedSimpArgs false
set_option linter.unusedVariables false
set_option maxHeartbeats 4000000
open Go Go.Am Go.RowKit Go.ChangeShapes Go.WideShapes Go.ChangeAt Go.Crc
set_option maxRecDepth 100000
/- quidnunc/quidnunclaw02.CrcParts -/
noncomputable def c7_1 : ACode := .region false [⟨some 2, .move, [.c (.val (.bool false))], none⟩] [] [] [0] false [] []
noncomputable def c7_4 : ACode := .region false [⟨some 8, .call 27, [], none⟩,
  ⟨some 9, .un .not, [.t 8], none⟩,
  ⟨some 10, .move, [.t 9], none⟩,
  ⟨some 11, .move, [.t 0], some (some 10, false)⟩,
  ⟨some 12, .len, [.t 11], some (some 10, false)⟩,
  ⟨some 13, .bin .gtr, [.t 12, .c (.val (.int .i64 30))], some (some 10, false)⟩,
  ⟨some 14, .pick, [.t 10, .c (.val (.bool true)), .t 13], none⟩] [] [] [0, 14] true [] []
noncomputable def c7_7 : ACode := .region false [⟨some 15, .call 27, [], none⟩,
  ⟨some 2, .move, [.t 15], none⟩] [] [] [2] true [] []
noncomputable def c7_6 : ACode := .seq c7_7 .ret
noncomputable def c7_5 : ACode := .cond (.t 14) c7_6 .skip
noncomputable def c7_3 : ACode := .seq c7_4 c7_5
noncomputable def c7_9 : ACode := .region false [⟨some 3, .alloc [(.int .u32 0), (.int .i32 0), (.int .u32 0), (.int .u32 0), (.int .u32 0), (.int .u32 0), (.int .u32 0), (.int .u32 0), (.int .u32 0), (.int .u32 0), (.int .u32 0), (.int .u32 0), (.int .u32 0), (.int .u32 0), (.int .u32 0), (.int .u32 0), (.int .u32 0), (.int .u32 0), (.int .u32 0), (.int .u32 0), (.int .u32 0), (.int .u32 0), (.int .u32 0), (.int .u32 0), (.int .u32 0), (.int .u32 0), (.int .u32 0), (.int .u32 0), (.int .u32 0), (.int .u32 0), (.int .u32 0), (.int .u32 0), (.int .u32 0), (.int .u32 0), (.int .u32 0), (.int .u32 0), (.int .u32 0), (.int .u32 0), (.int .u32 0), (.int .u32 0), (.int .u32 0), (.int .u32 0), (.int .u32 0), (.int .u32 0), (.int .u32 0), (.int .u32 0), (.int .u32 0), (.int .u32 0), (.int .u32 0), (.int .u32 0), (.int .u32 0), (.int .u32 0), (.int .u32 0), (.int .u32 0), (.int .u32 0), (.int .u32 0), (.int .u32 0), (.int .u32 0), (.int .u32 0), (.int .u32 0), (.int .u32 0), (.int .u32 0), (.int .u32 0), (.int .u32 0), (.int .u32 0), (.int .u32 0), (.int .u32 0), (.int .u32 0), (.int .u32 0), (.int .u32 0), (.int .u32 0), (.int .u32 0), (.int .u32 0), (.int .u32 0), (.int .u32 0), (.int .u32 0), (.int .u32 0), (.int .u32 0), (.int .u32 0), (.int .u32 0), (.int .u32 0), (.int .u32 0), (.int .u32 0), (.int .u32 0), (.int .u32 0), (.int .u32 0), (.int .u32 0), (.int .u32 0), (.int .u32 0), (.int .u32 0), (.int .u32 0), (.int .u32 0), (.int .u32 0), (.int .u32 0), (.int .u32 0), (.int .u32 0), (.int .u32 0), (.int .u32 0), (.int .u32 0), (.int .u32 0), (.int .u32 0), (.int .u32 0), (.int .u32 0), (.int .u32 0), (.int .u32 0), (.int .u32 0), (.int .u32 0), (.int .u32 0), (.int .u32 0), (.int .u32 0), (.int .u32 0), (.int .u32 0), (.int .u32 0), (.int .u32 0), (.int .u32 0), (.int .u32 0), (.int .u32 0), (.int .u32 0), (.int .u32 0), (.int .u32 0), (.int .u32 0), (.int .u32 0), (.int .u32 0), (.int .u32 0), (.int .u32 0), (.int .u32 0), (.int .u32 0), (.int .u32 0), (.int .u32 0), (.int .u32 0), (.int .u32 0), (.int .u32 0), (.int .u32 0), (.int .u32 0), (.int .u32 0), (.int .u32 0), (.int .u32 0), (.int .u32 0), (.int .u32 0), (.int .u32 0), (.int .u32 0), (.int .u32 0), (.int .u32 0), (.int .u32 0), (.int .u32 0), (.int .u32 0), (.int .u32 0), (.int .u32 0), (.int .u32 0), (.int .u32 0), (.int .u32 0), (.int .u32 0), (.int .u32 0), (.int .u32 0), (.int .u32 0), (.int .u32 0), (.int .u32 0), (.int .u32 0), (.int .u32 0), (.int .u32 0), (.int .u32 0), (.int .u32 0), (.int .u32 0), (.int .u32 0), (.int .u32 0), (.int .u32 0), (.int .u32 0), (.int .u32 0), (.int .u32 0), (.int .u32 0), (.int .u32 0), (.int .u32 0), (.int .u32 0), (.int .u32 0), (.int .u32 0), (.int .u32 0), (.int .u32 0), (.int .u32 0), (.int .u32 0), (.int .u32 0), (.int .u32 0), (.int .u32 0), (.int .u32 0), (.int .u32 0), (.int .u32 0), (.int .u32 0), (.int .u32 0), (.int .u32 0), (.int .u32 0), (.int .u32 0), (.int .u32 0), (.int .u32 0), (.int .u32 0), (.int .u32 0), (.int .u32 0), (.int .u32 0), (.int .u32 0), (.int .u32 0), (.int .u32 0), (.int .u32 0), (.int .u32 0), (.int .u32 0), (.int .u32 0), (.int .u32 0), (.int .u32 0), (.int .u32 0), (.int .u32 0), (.int .u32 0), (.int .u32 0), (.int .u32 0), (.int .u32 0), (.int .u32 0), (.int .u32 0), (.int .u32 0), (.int .u32 0), (.int .u32 0), (.int .u32 0), (.int .u32 0), (.int .u32 0), (.int .u32 0), (.int .u32 0), (.int .u32 0), (.int .u32 0), (.int .u32 0), (.int .u32 0), (.int .u32 0), (.int .u32 0), (.int .u32 0), (.int .u32 0), (.int .u32 0), (.int .u32 0), (.int .u32 0), (.int .u32 0), (.int .u32 0), (.int .u32 0), (.int .u32 0), (.int .u32 0), (.int .u32 0), (.int .u32 0), (.int .u32 0), (.int .u32 0), (.int .u32 0), (.int .u32 0), (.int .u32 0), (.int .u32 0), (.int .u32 0), (.int .u32 0), (.int .u32 0), (.int .u32 0), (.int .u32 0), (.int .u32 0), (.int .u32 0), (.int .u32 0), (.int .u32 0), (.int .u32 0), (.int .u32 0), (.int .u32 0), (.int .u32 0), (.int .u32 0)], [], none⟩] [] [] [0, 3] true [] []
noncomputable def c7_11 : ACode := .region false [⟨some 4, .move, [.c (.val (.slice none 0 0))], none⟩] [] [] [0, 3, 4] false [] []
noncomputable def c7_13 : ACode := .region false [⟨some 5, .move, [.c (.val (.int .u32 0))], none⟩] [] [] [0, 3, 4, 5] false [] []
noncomputable def c7_16 : ACode := .region false [⟨some 16, .move, [.t 0], none⟩,
  ⟨some 17, .len, [.t 16], none⟩,
  ⟨some 18, .move, [.c (.val (.int .i64 0))], none⟩] [] [] [0, 3, 4, 5, 16, 17, 18] false [] []
noncomputable def c7_20 : ACode := .region false [⟨some 19, .bin .lss, [.t 18, .t 17], none⟩] [] [] [0, 3, 4, 5, 16, 17, 18, 19] false [] []
noncomputable def c7_22 : ACode := .cond (.t 19) .skip (.exit 0)
noncomputable def c7_26 : ACode := .region false [⟨some 20, .ixS 1, [.t 16, .t 18], none⟩,
  ⟨some 21, .load false 1, [.t 20], none⟩,
  ⟨some 7, .move, [.t 21], none⟩] [] [] [0, 3, 4, 5, 7, 16, 17, 18] false [] []
noncomputable def c7_29 : ACode := .region false [⟨some 22, .move, [.t 7], none⟩,
  ⟨some 23, .len, [.t 22], none⟩,
  ⟨some 24, .bin .gtr, [.t 23, .c (.val (.int .i64 30))], none⟩] [] [] [0, 3, 4, 5, 7, 16, 17, 18, 24] false [] []
noncomputable def c7_32 : ACode := .region false [⟨some 2, .move, [.c (.val (.bool true))], none⟩] [] [] [2] false [] []
noncomputable def c7_31 : ACode := .seq c7_32 .ret
noncomputable def c7_30 : ACode := .cond (.t 24) c7_31 .skip
noncomputable def c7_28 : ACode := .seq c7_29 c7_30
noncomputable def c7_34 : ACode := .region false [⟨some 25, .move, [.t 4], none⟩,
  ⟨some 26, .move, [.t 7], none⟩,
  ⟨some 27, .append 1 1 false, [.t 25, .t 26], none⟩,
  ⟨some 4, .move, [.t 27], none⟩] [] [] [0, 3, 4, 5, 7, 16, 17, 18] true [] []
noncomputable def c7_35 : ACode := .region false [⟨some 28, .move, [.t 5], none⟩,
  ⟨some 29, .move, [.t 7], none⟩,
  ⟨some 30, .call 28, [.t 3, .t 28, .t 29], none⟩,
  ⟨some 5, .move, [.t 30], none⟩] [] [] [0, 3, 4, 5, 16, 17, 18] true [] []
noncomputable def c7_33 : ACode := .seq c7_34 c7_35
noncomputable def c7_27 : ACode := .seq c7_28 c7_33
noncomputable def c7_25 : ACode := .seq c7_26 c7_27
noncomputable def c7_24 : ACode := .block 1 c7_25
noncomputable def c7_36 : ACode := .region false [⟨some 31, .bin .add, [.t 18, .c (.val (.int .i64 1))], none⟩,
  ⟨some 18, .move, [.t 31], none⟩] [] [] [0, 3, 4, 5, 16, 17, 18] false [] []
noncomputable def c7_23 : ACode := .seq c7_24 c7_36
noncomputable def c7_21 : ACode := .seq c7_22 c7_23
noncomputable def c7_19 : ACode := .seq c7_20 c7_21
noncomputable def c7_18 : ACode := .loop c7_19
noncomputable def c7_17 : ACode := .block 0 c7_18
noncomputable def c7_15 : ACode := .seq c7_16 c7_17
noncomputable def c7_38 : ACode := .region false [⟨some 32, .move, [.t 0], none⟩,
  ⟨some 33, .call 29, [.t 3, .t 32], none⟩,
  ⟨some 34, .move, [.t 4], none⟩,
  ⟨some 35, .buildSl 1 1 [(.slice none 0 0)] [(0, 1)], [.t 34], none⟩,
  ⟨some 36, .call 29, [.t 3, .t 35], none⟩,
  ⟨some 37, .bin .eql, [.t 33, .t 36], none⟩,
  ⟨some 38, .move, [.t 37], none⟩,
  ⟨some 39, .move, [.t 5], some (some 38, true)⟩,
  ⟨some 40, .move, [.t 4], some (some 38, true)⟩,
  ⟨some 41, .buildSl 1 1 [(.slice none 0 0)] [(0, 1)], [.t 40], some (some 38, true)⟩,
  ⟨some 42, .call 29, [.t 3, .t 41], some (some 38, true)⟩,
  ⟨some 43, .bin .eql, [.t 39, .t 42], some (some 38, true)⟩,
  ⟨some 44, .pick, [.t 38, .t 43, .c (.val (.bool false))], none⟩,
  ⟨some 2, .move, [.t 44], none⟩] [] [] [2] true [] []
noncomputable def c7_37 : ACode := .seq c7_38 .ret
noncomputable def c7_14 : ACode := .seq c7_15 c7_37
noncomputable def c7_12 : ACode := .seq c7_13 c7_14
noncomputable def c7_10 : ACode := .seq c7_11 c7_12
noncomputable def c7_8 : ACode := .seq c7_9 c7_10
noncomputable def c7_2 : ACode := .seq c7_3 c7_8
noncomputable def c7_0 : ACode := .seq c7_1 c7_2
noncomputable def code7 : Code := (Try.f7.body).getD .skip
theorem c7_ok : compC Try.prog 45 code7 = some (strip c7_0) := by kernel_rfl
theorem res7_ok : Try.f7.results.toList.mapM (resC Try.prog) = some [(2, none)] := by kernel_rfl
theorem more_fz (d : Bool) (s : R) {l : List Int} (hl : l.length ≤ 1099511627776) (hby : ∀ x ∈ l, 0 ≤ x ∧ x ≤ 255) :
    ACall Try.prog 28 [.ptr 0 0, U32 s.toNat, fzB l] [.cells false (tb d)] (Det (U32 (more s l).toNat) [.cells false (tb true), .gone]) := by
  refine ACall.fzD (v := U32 (more s l).toNat) (H1 := [.cells false (tb true)]) (H1' := [.cells false (tb true)]) (N := []) (N' := []) 1 2 (by kernel_rfl) rfl rfl (fun n _ o ho hw => ?_) (fun off => ?_) rfl rfl ?_ rfl
  · simp only [List.mem_singleton] at ho; subst ho; cases hw
  · have sg := Seg.rows (off := off) hl
    rw [rows_bA] at sg
    exact more_any d s sg hby
  · simp only [List.map_cons, List.map_nil, renO, tb_ren]
theorem ofs_any {P : List AV} {o : Nat} {ls : List (List Int)} (sg : SegR P o ls) (hby : ∀ l ∈ ls, l.length ≤ 1099511627776 ∧ ∀ x ∈ l, 0 ≤ x ∧ x ≤ 255) (d : Bool) :
    ACall Try.prog 29 [.ptr 0 0, .sl 1 o ls.length 1 none] [.cells false (tb d), .cells true P] (Det (U32 (sum ls.flatten).toNat) [.cells false (tb (d || decide (0 < ls.length))), .cells true P]) := by
  have hle := sg.le
  have hsm := sg.small
  refine ACall.startA c29_ok Try.func29 rfl Try.ntmps29 (by kernel_rfl) res29_ok rfl rfl rfl ?_; simp (maxSteps := 9999999) (disch := omega) only [go_sem]
  (repeat' (first | refine AWpA.seq ?_ | refine AWpA.block ?_ | (with_reducible refine CondP.tt ?_) | (with_reducible refine CondP.ff ?_) | refine AWpA.condv (by simp (maxSteps := 9999999) (disch := omega) only [go_sem, tb_ren, sg.ren]; rfl) ?_ | ((first | (apply AWpA.region; (focus (simp (maxSteps := 9999999) (disch := omega) only [go_sem, tb_ren, sg.ren]; rfl))) | (apply AWpA.draw [] [] follows; (focus (first | rfl | decide)); (focus (simp (maxSteps := 9999999) (disch := omega) only [go_sem, tb_ren, sg.ren]; rfl)); (focus (simp (maxSteps := 9999999) (disch := omega) only [go_sem, tb_ren, sg.ren]; first | done | trivial)); (focus (simp (maxSteps := 9999999) (disch := omega) only [go_sem, tb_ren, sg.ren]; rfl))) | (apply TailK.go; (focus (simp (maxSteps := 9999999) (disch := omega) only [go_sem, tb_ren, sg.ren]; rfl))) | refine AWpA.skip ?_ | refine AWpA.exit ?_ | refine AWpA.ret ?_ | (with_reducible refine ARoundsA.succ ?_) | ((first | refine Runs.kt (by assumption) (fun h9 => ?_) | refine Runs.kf (by assumption) (fun h9 => ?_) | refine Runs.nt (by assumption) (fun h9 => ?_) | refine Runs.nf (by assumption) (fun h9 => ?_) | refine CondP.ht (by assumption) (fun h9 => ?_) | refine CondP.hf (by assumption) (fun h9 => ?_) | refine CondP.nt (by assumption) (fun h9 => ?_) | refine CondP.nf (by assumption) (fun h9 => ?_)); (try simp only [h9]); clear h9)); (try simp (maxSteps := 9999999) (disch := omega) only [go_sem, tb_ren, sg.ren]); (try (refine And.intro ?_ ?_; (focus (first | omega | (simp only [go_sem]; done) | (simp; done) | (simp; omega) | assumption))))) | ((first | refine CondP.split (fun hif => ?_) (fun hif => ?_) | refine Runs.part (fun hif => ?_) (fun hif => ?_)) <;> ((try simp only [hif]); (try simp only [decide_eq_true_eq, decide_eq_false_iff_not, Bool.not_eq_true, Bool.not_eq_false, Bool.not_eq_true', Bool.not_eq_false', beq_iff_eq, bne_iff_ne, bne_eq_false_iff_eq, beq_eq_false_iff_ne, ne_eq, Bool.and_eq_true, Bool.or_eq_true, Bool.or_eq_false_iff] at hif); (try (have h9 : _ = true := hif; simp only [h9])); (try (have h9 : _ = false := hif; simp only [h9])); (try simp (maxSteps := 9999999) (disch := omega) only [go_sem, tb_ren, sg.ren]); (try (refine And.intro ?_ ?_; (focus (first | omega | (simp only [go_sem]; done) | (simp; done) | (simp; omega) | assumption)))); (try (exfalso; omega; done))))))
  (apply AWpA.loopL (fun i : Nat => [(0, .ptr 0 0), (5, U32 (sum (ls.take i).flatten).toNat), (8, .sl 1 o ls.length 1 none), (9, I ls.length), (10, I i)]) (fun i => [.cells false (tb (d || decide (0 < i))), .cells true P]) (fun i => ls.length - i) (fun i => i ≤ ls.length) (0) [0, 1]; rotate_left; (focus (simp (maxSteps := 9999999) (disch := omega) only [go_sem, sg.ren, tb_ren, List.take_zero, List.flatten_nil, Nat.lt_irrefl, decide_false, Bool.or_false]; (try (repeat' (first | done | trivial | rfl | exact leAs_rfl _ | decide | (refine And.intro ?_ ?_) | (simp; done) | omega | (simp; decide)))))); rotate_right)
  · exact Nat.zero_le _
  rintro i hi
  (try simp only at hi)
  by_cases hin : i < ls.length
  · have g1 : ((i : Int) < (ls.length : Int)) = True := eq_true (by omega)
    have hb := hby ls[i] (List.getElem_mem hin)
    have g2 := sg.at i hin
    have g3 : sum (ls.take (i + 1)).flatten = more (sum (ls.take i).flatten) ls[i] := by
      rw [List.take_add_one, List.getElem?_eq_getElem hin]
      simp only [Option.toList_some, List.flatten_append, List.flatten_cons, List.flatten_nil, List.append_nil, sum_app]
    generalize ls[i] = c at hb g2 g3
    have hm := more_fz (d || decide (0 < i)) (sum (ls.take i).flatten) hb.1 hb.2
    rw [← g3] at hm
    have g4 : (d || decide (0 < i + 1)) = true := by simp
    (try simp (maxSteps := 9999999) (disch := omega) only [go_sem])
    (repeat' (first | refine AWpA.seq ?_ | refine AWpA.block ?_ | (with_reducible refine CondP.tt ?_) | (with_reducible refine CondP.ff ?_) | refine AWpA.condv (by simp (maxSteps := 9999999) (disch := omega) only [go_sem, g1, sg.ren, tb_ren, g2, bA_ren]; rfl) ?_ | ((first | (apply AWpA.region; (focus (simp (maxSteps := 9999999) (disch := omega) only [go_sem, g1, sg.ren, tb_ren, g2, bA_ren]; rfl))) | (apply AWpA.draw [] [] follows; (focus (first | rfl | decide)); (focus (simp (maxSteps := 9999999) (disch := omega) only [go_sem, g1, sg.ren, tb_ren, g2, bA_ren]; rfl)); (focus (simp (maxSteps := 9999999) (disch := omega) only [go_sem, g1, sg.ren, tb_ren, g2, bA_ren]; first | done | trivial)); (focus (simp (maxSteps := 9999999) (disch := omega) only [go_sem, g1, sg.ren, tb_ren, g2, bA_ren]; rfl))) | (apply TailK.go; (focus (simp (maxSteps := 9999999) (disch := omega) only [go_sem, g1, sg.ren, tb_ren, g2, bA_ren]; rfl))) | refine AWpA.skip ?_ | refine AWpA.exit ?_ | refine AWpA.ret ?_ | (with_reducible refine ARoundsA.succ ?_) | ((first | refine Runs.kt (by assumption) (fun h9 => ?_) | refine Runs.kf (by assumption) (fun h9 => ?_) | refine Runs.nt (by assumption) (fun h9 => ?_) | refine Runs.nf (by assumption) (fun h9 => ?_) | refine CondP.ht (by assumption) (fun h9 => ?_) | refine CondP.hf (by assumption) (fun h9 => ?_) | refine CondP.nt (by assumption) (fun h9 => ?_) | refine CondP.nf (by assumption) (fun h9 => ?_)); (try simp only [h9]); clear h9) | ((first | (with_reducible apply CallG.plain1 [0] (hm)) | (with_reducible apply CallG.draw1 [0] (hm))); (focus ((try refine And.intro (leAs_of_eq rfl) ?_); (try refine And.intro (leOL_of_eq rfl) ?_); simp (maxSteps := 9999999) (disch := omega) only [go_sem, g1, sg.ren, tb_ren, g2, bA_ren]; first | done | (repeat' (first | rfl | (refine And.intro ?_ ?_))))); (focus (simp (maxSteps := 9999999) (disch := omega) only [go_sem, g1, sg.ren, tb_ren, g2, bA_ren]; rfl)))); (try simp (maxSteps := 9999999) (disch := omega) only [go_sem, g1, sg.ren, tb_ren, g2, bA_ren]); (try (refine And.intro ?_ ?_; (focus (first | omega | (simp only [go_sem]; done) | (simp; done) | (simp; omega) | assumption))))) | ((first | refine CondP.split (fun hif => ?_) (fun hif => ?_) | refine Runs.part (fun hif => ?_) (fun hif => ?_)) <;> ((try simp only [hif]); (try simp only [decide_eq_true_eq, decide_eq_false_iff_not, Bool.not_eq_true, Bool.not_eq_false, Bool.not_eq_true', Bool.not_eq_false', beq_iff_eq, bne_iff_ne, bne_eq_false_iff_eq, beq_eq_false_iff_ne, ne_eq, Bool.and_eq_true, Bool.or_eq_true, Bool.or_eq_false_iff] at hif); (try (have h9 : _ = true := hif; simp only [h9])); (try (have h9 : _ = false := hif; simp only [h9])); (try simp (maxSteps := 9999999) (disch := omega) only [go_sem, g1, sg.ren, tb_ren, g2, bA_ren]); (try (refine And.intro ?_ ?_; (focus (first | omega | (simp only [go_sem]; done) | (simp; done) | (simp; omega) | assumption)))); (try (exfalso; omega; done))))))
    (apply Back.to (i + 1) [0, 1]; (focus ((try simp (maxSteps := 9999999) (disch := omega) only [go_sem, g4, sg.ren, tb_ren]); first | done | omega)); rotate_left; (focus (simp (maxSteps := 9999999) (disch := omega) only [go_sem, g4, sg.ren, tb_ren]; (try (repeat' (first | done | trivial | rfl | exact leAs_rfl _ | decide | (refine And.intro ?_ ?_) | (simp; done) | omega | (simp; decide)))))))
    omega
  · obtain rfl : i = ls.length := by omega
    (try simp (maxSteps := 9999999) (disch := omega) only [go_sem])
    (repeat' (first | refine AWpA.seq ?_ | refine AWpA.block ?_ | (with_reducible refine CondP.tt ?_) | (with_reducible refine CondP.ff ?_) | refine AWpA.condv (by simp (maxSteps := 9999999) (disch := omega) only [go_sem, List.take_length]; rfl) ?_ | ((first | (apply AWpA.region; (focus (simp (maxSteps := 9999999) (disch := omega) only [go_sem, List.take_length]; rfl))) | (apply AWpA.draw [] [] follows; (focus (first | rfl | decide)); (focus (simp (maxSteps := 9999999) (disch := omega) only [go_sem, List.take_length]; rfl)); (focus (simp (maxSteps := 9999999) (disch := omega) only [go_sem, List.take_length]; first | done | trivial)); (focus (simp (maxSteps := 9999999) (disch := omega) only [go_sem, List.take_length]; rfl))) | (apply TailK.go; (focus (simp (maxSteps := 9999999) (disch := omega) only [go_sem, List.take_length]; rfl))) | refine AWpA.skip ?_ | refine AWpA.exit ?_ | refine AWpA.ret ?_ | (with_reducible refine ARoundsA.succ ?_) | ((first | refine Runs.kt (by assumption) (fun h9 => ?_) | refine Runs.kf (by assumption) (fun h9 => ?_) | refine Runs.nt (by assumption) (fun h9 => ?_) | refine Runs.nf (by assumption) (fun h9 => ?_) | refine CondP.ht (by assumption) (fun h9 => ?_) | refine CondP.hf (by assumption) (fun h9 => ?_) | refine CondP.nt (by assumption) (fun h9 => ?_) | refine CondP.nf (by assumption) (fun h9 => ?_)); (try simp only [h9]); clear h9)); (try simp (maxSteps := 9999999) (disch := omega) only [go_sem, List.take_length]); (try (refine And.intro ?_ ?_; (focus (first | omega | (simp only [go_sem]; done) | (simp; done) | (simp; omega) | assumption))))) | ((first | refine CondP.split (fun hif => ?_) (fun hif => ?_) | refine Runs.part (fun hif => ?_) (fun hif => ?_)) <;> ((try simp only [hif]); (try simp only [decide_eq_true_eq, decide_eq_false_iff_not, Bool.not_eq_true, Bool.not_eq_false, Bool.not_eq_true', Bool.not_eq_false', beq_iff_eq, bne_iff_ne, bne_eq_false_iff_eq, beq_eq_false_iff_ne, ne_eq, Bool.and_eq_true, Bool.or_eq_true, Bool.or_eq_false_iff] at hif); (try (have h9 : _ = true := hif; simp only [h9])); (try (have h9 : _ = false := hif; simp only [h9])); (try simp (maxSteps := 9999999) (disch := omega) only [go_sem, List.take_length]); (try (refine And.intro ?_ ?_; (focus (first | omega | (simp only [go_sem]; done) | (simp; done) | (simp; omega) | assumption)))); (try (exfalso; omega; done))))))
    (apply Ret.det [0, 1]; (focus (first | exact .inl rfl | exact .inr rfl)); (focus (simp (maxSteps := 9999999) (disch := omega) only [go_sem, sg.ren, tb_ren]; rfl)); (simp (maxSteps := 9999999) (disch := omega) only [go_sem, sg.ren, tb_ren]; (try (repeat' (first | done | trivial | rfl | exact leAs_rfl _ | decide | (refine And.intro ?_ ?_) | (simp; done) | omega | (simp; decide))))))
theorem flat_small {ls : List (List Int)} (h : ls.length ≤ 30) (k : ∀ l ∈ ls, l.length ≤ 30) : ls.flatten.length ≤ 900 := by
  have : ∀ (ls : List (List Int)), (∀ l ∈ ls, l.length ≤ 30) → ls.flatten.length ≤ 30 * ls.length := by
    intro ls
    induction ls with
    | nil => simp
    | cons l ls ih =>
      intro k
      have h1 := k l (by simp)
      have h2 := ih fun x hx => k x (by simp [hx])
      simp only [List.flatten_cons, List.length_append, List.length_cons]
      omega
  have := this ls k
  omega
theorem crcParts_walk (W : World) (bl : Sl (Sl Int)) (ht : bl.ok W 1 (fun s : Sl Int => s.rep) (Sl.ok W 1 (fun n : Int => [.int .u8 n]) (fun n : Int => IntKind.u8.min ≤ n ∧ n ≤ IntKind.u8.max))) :
    Calls Try.prog 7 #[.slice bl.ad bl.l.length bl.cap] W fun e W' => e = .returned (.bool true) ∧ Below W.heap.size W W' := by
  obtain ⟨ad, off, cap, l0⟩ := bl
  have hz := ht.fz
  have hall := ht.all
  have hln := ht.len
  simp only at hz hall hln
  by_cases h30 : 30 < l0.length
  · have h1 : ((30 : Int) < (l0.length : Int)) = True := eq_true (by omega)
    refine top_call c7_ok Try.func7 rfl Try.ntmps7 res7_ok [ .val (.slice ad l0.length cap)] (by simp) (by (repeat' (first | exact VRs_nil' _ | exact VR_val' _ _ | (refine VRs_cons' ?_ ?_) | (refine VR_agg' (by first | rfl | assumption) ?_; first | assumption | simp [Value.oneCell'])))) ?_; try simp (maxSteps := 9999999) (disch := omega) only [go_sem]
    (repeat' (first | refine AWpA.seq ?_ | refine AWpA.block ?_ | (with_reducible refine CondP.tt ?_) | (with_reducible refine CondP.ff ?_) | refine AWpA.condv (by simp (maxSteps := 9999999) (disch := omega) only [go_sem, h1]; rfl) ?_ | ((first | (apply AWpA.region; (focus (simp (maxSteps := 9999999) (disch := omega) only [go_sem, h1]; rfl))) | (apply AWpA.draw [] [] follows; (focus (first | rfl | decide)); (focus (simp (maxSteps := 9999999) (disch := omega) only [go_sem, h1]; rfl)); (focus (simp (maxSteps := 9999999) (disch := omega) only [go_sem, h1]; first | done | trivial)); (focus (simp (maxSteps := 9999999) (disch := omega) only [go_sem, h1]; rfl))) | (apply TailK.go; (focus (simp (maxSteps := 9999999) (disch := omega) only [go_sem, h1]; rfl))) | refine AWpA.skip ?_ | refine AWpA.exit ?_ | refine AWpA.ret ?_ | (with_reducible refine ARoundsA.succ ?_) | ((first | refine Runs.kt (by assumption) (fun h9 => ?_) | refine Runs.kf (by assumption) (fun h9 => ?_) | refine Runs.nt (by assumption) (fun h9 => ?_) | refine Runs.nf (by assumption) (fun h9 => ?_) | refine CondP.ht (by assumption) (fun h9 => ?_) | refine CondP.hf (by assumption) (fun h9 => ?_) | refine CondP.nt (by assumption) (fun h9 => ?_) | refine CondP.nf (by assumption) (fun h9 => ?_)); (try simp only [h9]); clear h9) | ((first | (with_reducible apply CallG.plain1 [] (speaks02_any)) | (with_reducible apply CallG.draw1 [] (speaks02_any))); (focus ((try refine And.intro (leAs_of_eq rfl) ?_); (try refine And.intro (leOL_of_eq rfl) ?_); simp (maxSteps := 9999999) (disch := omega) only [go_sem, h1]; first | done | (repeat' (first | rfl | (refine And.intro ?_ ?_))))); (focus (simp (maxSteps := 9999999) (disch := omega) only [go_sem, h1]; rfl)))); (try simp (maxSteps := 9999999) (disch := omega) only [go_sem, h1]); (try (refine And.intro ?_ ?_; (focus (first | omega | (simp only [go_sem]; done) | (simp; done) | (simp; omega) | assumption))))) | ((first | refine CondP.split (fun hif => ?_) (fun hif => ?_) | refine Runs.part (fun hif => ?_) (fun hif => ?_)) <;> ((try simp only [hif]); (try simp only [decide_eq_true_eq, decide_eq_false_iff_not, Bool.not_eq_true, Bool.not_eq_false, Bool.not_eq_true', Bool.not_eq_false', beq_iff_eq, bne_iff_ne, bne_eq_false_iff_eq, beq_eq_false_iff_ne, ne_eq, Bool.and_eq_true, Bool.or_eq_true, Bool.or_eq_false_iff] at hif); (try (have h9 : _ = true := hif; simp only [h9])); (try (have h9 : _ = false := hif; simp only [h9])); (try simp (maxSteps := 9999999) (disch := omega) only [go_sem, h1]); (try (refine And.intro ?_ ?_; (focus (first | omega | (simp only [go_sem]; done) | (simp; done) | (simp; omega) | assumption)))); (try (exfalso; omega; done))))))
    (refine TopPost.of (by first | exact .inl rfl | exact .inr rfl) (by (try simp (maxSteps := 9999999) (disch := omega) only [go_sem]); rfl) ?_; (try simp (maxSteps := 9999999) (disch := omega) only [go_sem]); (try (first | trivial | decide | (simp; done))))
  have h1 : ((30 : Int) < (l0.length : Int)) = False := eq_false (by omega)
  have sg : SegR (rowsC off (fun s : Sl Int => [fzB s.l]) l0) off (l0.map (·.l)) := SegR.rows (fun _ => rfl) (by omega)
  have hby0 : ∀ l ∈ l0.map (·.l), ∀ x ∈ l, 0 ≤ x ∧ x ≤ 255 := by
    intro l hl
    obtain ⟨s, hs, rfl⟩ := List.mem_map.1 hl
    exact (hall s hs).all
  refine top_call c7_ok Try.func7 rfl Try.ntmps7 res7_ok [ .val (.slice ad l0.length cap)] (by simp) (by (repeat' (first | exact VRs_nil' _ | exact VR_val' _ _ | (refine VRs_cons' ?_ ?_) | (refine VR_agg' (by first | rfl | assumption) ?_; first | assumption | simp [Value.oneCell'])))) ?_; try simp (maxSteps := 9999999) (disch := omega) only [go_sem]
  refine AWpA.thawT 0 (fun s : Sl Int => [.val (.slice s.ad s.l.length s.cap)]) hz (fun _ => rfl) rfl ?_
  refine AWpA.frzO 0 rfl (frz_rows fun s hs => (hall s hs).fz) ?_
  have hl0 : l0.length = (l0.map (·.l)).length := by simp
  rw [hl0] at h1 h30 ⊢
  clear hz hall hln hl0
  generalize rowsC off (fun s : Sl Int => [fzB s.l]) l0 = P at sg
  generalize l0.map (·.l) = ls at *
  have hle := sg.le
  (repeat' (first | refine AWpA.seq ?_ | refine AWpA.block ?_ | (with_reducible refine CondP.tt ?_) | (with_reducible refine CondP.ff ?_) | refine AWpA.condv (by simp (maxSteps := 9999999) (disch := omega) only [go_sem, h1, sg.ren, tb_ren, tb_lit]; rfl) ?_ | ((first | (apply AWpA.region; (focus (simp (maxSteps := 9999999) (disch := omega) only [go_sem, h1, sg.ren, tb_ren, tb_lit]; rfl))) | (apply AWpA.draw [] [] follows; (focus (first | rfl | decide)); (focus (simp (maxSteps := 9999999) (disch := omega) only [go_sem, h1, sg.ren, tb_ren, tb_lit]; rfl)); (focus (simp (maxSteps := 9999999) (disch := omega) only [go_sem, h1, sg.ren, tb_ren, tb_lit]; first | done | trivial)); (focus (simp (maxSteps := 9999999) (disch := omega) only [go_sem, h1, sg.ren, tb_ren, tb_lit]; rfl))) | (apply TailK.go; (focus (simp (maxSteps := 9999999) (disch := omega) only [go_sem, h1, sg.ren, tb_ren, tb_lit]; rfl))) | refine AWpA.skip ?_ | refine AWpA.exit ?_ | refine AWpA.ret ?_ | (with_reducible refine ARoundsA.succ ?_) | ((first | refine Runs.kt (by assumption) (fun h9 => ?_) | refine Runs.kf (by assumption) (fun h9 => ?_) | refine Runs.nt (by assumption) (fun h9 => ?_) | refine Runs.nf (by assumption) (fun h9 => ?_) | refine CondP.ht (by assumption) (fun h9 => ?_) | refine CondP.hf (by assumption) (fun h9 => ?_) | refine CondP.nt (by assumption) (fun h9 => ?_) | refine CondP.nf (by assumption) (fun h9 => ?_)); (try simp only [h9]); clear h9) | ((first | (with_reducible apply CallG.plain1 [] (speaks02_any)) | (with_reducible apply CallG.draw1 [] (speaks02_any))); (focus ((try refine And.intro (leAs_of_eq rfl) ?_); (try refine And.intro (leOL_of_eq rfl) ?_); simp (maxSteps := 9999999) (disch := omega) only [go_sem, h1, sg.ren, tb_ren, tb_lit]; first | done | (repeat' (first | rfl | (refine And.intro ?_ ?_))))); (focus (simp (maxSteps := 9999999) (disch := omega) only [go_sem, h1, sg.ren, tb_ren, tb_lit]; rfl)))); (try simp (maxSteps := 9999999) (disch := omega) only [go_sem, h1, sg.ren, tb_ren, tb_lit]); (try (refine And.intro ?_ ?_; (focus (first | omega | (simp only [go_sem]; done) | (simp; done) | (simp; omega) | assumption))))) | ((first | refine CondP.split (fun hif => ?_) (fun hif => ?_) | refine Runs.part (fun hif => ?_) (fun hif => ?_)) <;> ((try simp only [hif]); (try simp only [decide_eq_true_eq, decide_eq_false_iff_not, Bool.not_eq_true, Bool.not_eq_false, Bool.not_eq_true', Bool.not_eq_false', beq_iff_eq, bne_iff_ne, bne_eq_false_iff_eq, beq_eq_false_iff_ne, ne_eq, Bool.and_eq_true, Bool.or_eq_true, Bool.or_eq_false_iff] at hif); (try (have h9 : _ = true := hif; simp only [h9])); (try (have h9 : _ = false := hif; simp only [h9])); (try simp (maxSteps := 9999999) (disch := omega) only [go_sem, h1, sg.ren, tb_ren, tb_lit]); (try (refine And.intro ?_ ?_; (focus (first | omega | (simp only [go_sem]; done) | (simp; done) | (simp; omega) | assumption)))); (try (exfalso; omega; done))))))
  refine AWpA.dummy ?_
  (apply AWpA.loopL (fun i : Nat => [(0, .sl 0 off ls.length 1 none), (3, .ptr 1 0), (4, .sl 2 0 (ls.take i).flatten.length 1 none), (5, U32 (sum (ls.take i).flatten).toNat), (16, .sl 0 off ls.length 1 none), (17, I ls.length), (18, I i)]) (fun i => [.cells true P, .cells false (tb (decide (0 < i))), .cells false (bA (ls.take i).flatten)]) (fun i => ls.length - i) (fun i => i ≤ ls.length ∧ ∀ l ∈ ls.take i, l.length ≤ 30) (0) [0, 129, 225]; rotate_left; (focus (simp (maxSteps := 9999999) (disch := omega) only [go_sem, sg.ren, tb_ren, List.take_zero, List.flatten_nil, Nat.lt_irrefl, decide_false, List.length_nil, bA_nil]; (try (repeat' (first | done | trivial | rfl | exact leAs_rfl _ | decide | (refine And.intro ?_ ?_) | (simp; done) | omega | (simp; decide)))))); rotate_right)
  · exact ⟨Nat.zero_le _, by simp⟩
  rintro i ⟨hi, hs30⟩
  (try simp only at hi hs30)
  have hF := flat_small (ls := ls.take i) (by rw [List.length_take]; omega) hs30
  by_cases hin : i < ls.length
  · have g1 : ((i : Int) < (ls.length : Int)) = True := eq_true (by omega)
    have hb := hby0 ls[i] (List.getElem_mem hin)
    have g2 := sg.at i hin
    have g3 : (ls.take (i + 1)).flatten = (ls.take i).flatten ++ ls[i] := by
      rw [List.take_add_one, List.getElem?_eq_getElem hin]
      simp only [Option.toList_some, List.flatten_append, List.flatten_cons, List.flatten_nil, List.append_nil]
    have g5 : ls[i].length ≤ 30 → ∀ l ∈ ls.take (i + 1), l.length ≤ 30 := by
      intro h l hl
      rw [List.take_add_one, List.getElem?_eq_getElem hin] at hl
      rcases List.mem_append.1 hl with hl | hl
      · exact hs30 l hl
      · simp at hl; subst hl; exact h
    generalize ls[i] = c at hb g2 g3 g5
    generalize (ls.take i).flatten = F at g3 hF
    by_cases hc : 30 < c.length
    · have g6 : ((30 : Int) < (c.length : Int)) = True := eq_true (by omega)
      (try simp (maxSteps := 9999999) (disch := omega) only [go_sem])
      (repeat' (first | refine AWpA.seq ?_ | refine AWpA.block ?_ | (with_reducible refine CondP.tt ?_) | (with_reducible refine CondP.ff ?_) | refine AWpA.condv (by simp (maxSteps := 9999999) (disch := omega) only [go_sem, g1, g6, sg.ren, tb_ren, g2, bA_ren]; rfl) ?_ | ((first | (apply AWpA.region; (focus (simp (maxSteps := 9999999) (disch := omega) only [go_sem, g1, g6, sg.ren, tb_ren, g2, bA_ren]; rfl))) | (apply AWpA.draw [] [] follows; (focus (first | rfl | decide)); (focus (simp (maxSteps := 9999999) (disch := omega) only [go_sem, g1, g6, sg.ren, tb_ren, g2, bA_ren]; rfl)); (focus (simp (maxSteps := 9999999) (disch := omega) only [go_sem, g1, g6, sg.ren, tb_ren, g2, bA_ren]; first | done | trivial)); (focus (simp (maxSteps := 9999999) (disch := omega) only [go_sem, g1, g6, sg.ren, tb_ren, g2, bA_ren]; rfl))) | (apply TailK.go; (focus (simp (maxSteps := 9999999) (disch := omega) only [go_sem, g1, g6, sg.ren, tb_ren, g2, bA_ren]; rfl))) | refine AWpA.skip ?_ | refine AWpA.exit ?_ | refine AWpA.ret ?_ | (with_reducible refine ARoundsA.succ ?_) | ((first | refine Runs.kt (by assumption) (fun h9 => ?_) | refine Runs.kf (by assumption) (fun h9 => ?_) | refine Runs.nt (by assumption) (fun h9 => ?_) | refine Runs.nf (by assumption) (fun h9 => ?_) | refine CondP.ht (by assumption) (fun h9 => ?_) | refine CondP.hf (by assumption) (fun h9 => ?_) | refine CondP.nt (by assumption) (fun h9 => ?_) | refine CondP.nf (by assumption) (fun h9 => ?_)); (try simp only [h9]); clear h9)); (try simp (maxSteps := 9999999) (disch := omega) only [go_sem, g1, g6, sg.ren, tb_ren, g2, bA_ren]); (try (refine And.intro ?_ ?_; (focus (first | omega | (simp only [go_sem]; done) | (simp; done) | (simp; omega) | assumption))))) | ((first | refine CondP.split (fun hif => ?_) (fun hif => ?_) | refine Runs.part (fun hif => ?_) (fun hif => ?_)) <;> ((try simp only [hif]); (try simp only [decide_eq_true_eq, decide_eq_false_iff_not, Bool.not_eq_true, Bool.not_eq_false, Bool.not_eq_true', Bool.not_eq_false', beq_iff_eq, bne_iff_ne, bne_eq_false_iff_eq, beq_eq_false_iff_ne, ne_eq, Bool.and_eq_true, Bool.or_eq_true, Bool.or_eq_false_iff] at hif); (try (have h9 : _ = true := hif; simp only [h9])); (try (have h9 : _ = false := hif; simp only [h9])); (try simp (maxSteps := 9999999) (disch := omega) only [go_sem, g1, g6, sg.ren, tb_ren, g2, bA_ren]); (try (refine And.intro ?_ ?_; (focus (first | omega | (simp only [go_sem]; done) | (simp; done) | (simp; omega) | assumption)))); (try (exfalso; omega; done))))))
      (refine TopPost.of (by first | exact .inl rfl | exact .inr rfl) (by (try simp (maxSteps := 9999999) (disch := omega) only [go_sem]); rfl) ?_; (try simp (maxSteps := 9999999) (disch := omega) only [go_sem]); (try (first | trivial | decide | (simp; done))))
    have g6 : ((30 : Int) < (c.length : Int)) = False := eq_false (by omega)
    have hm := more_fz (decide (0 < i)) (sum F) (l := c) (by omega) hb
    rw [← sum_app] at hm
    have g4 : decide (0 < i + 1) = true := by simp
    (try simp (maxSteps := 9999999) (disch := omega) only [go_sem])
    (repeat' (first | refine AWpA.seq ?_ | refine AWpA.block ?_ | (with_reducible refine CondP.tt ?_) | (with_reducible refine CondP.ff ?_) | refine AWpA.condv (by simp (maxSteps := 9999999) (disch := omega) only [go_sem, g1, g6, sg.ren, tb_ren, g2, bA_ren]; rfl) ?_ | ((first | (apply AWpA.region; (focus (simp (maxSteps := 9999999) (disch := omega) only [go_sem, g1, g6, sg.ren, tb_ren, g2, bA_ren]; rfl))) | (apply AWpA.draw [1] [] follows; (focus (first | rfl | decide)); (focus (simp (maxSteps := 9999999) (disch := omega) only [go_sem, g1, g6, sg.ren, tb_ren, g2, bA_ren]; rfl)); (focus (simp (maxSteps := 9999999) (disch := omega) only [go_sem, g1, g6, sg.ren, tb_ren, g2, bA_ren]; first | done | trivial)); (focus (simp (maxSteps := 9999999) (disch := omega) only [go_sem, g1, g6, sg.ren, tb_ren, g2, bA_ren]; rfl))) | (apply TailK.go; (focus (simp (maxSteps := 9999999) (disch := omega) only [go_sem, g1, g6, sg.ren, tb_ren, g2, bA_ren]; rfl))) | refine AWpA.skip ?_ | refine AWpA.exit ?_ | refine AWpA.ret ?_ | (with_reducible refine ARoundsA.succ ?_) | ((first | refine Runs.kt (by assumption) (fun h9 => ?_) | refine Runs.kf (by assumption) (fun h9 => ?_) | refine Runs.nt (by assumption) (fun h9 => ?_) | refine Runs.nf (by assumption) (fun h9 => ?_) | refine CondP.ht (by assumption) (fun h9 => ?_) | refine CondP.hf (by assumption) (fun h9 => ?_) | refine CondP.nt (by assumption) (fun h9 => ?_) | refine CondP.nf (by assumption) (fun h9 => ?_)); (try simp only [h9]); clear h9) | ((first | (with_reducible apply CallG.plain1 [1] (hm)) | (with_reducible apply CallG.draw1 [1] (hm))); (focus ((try refine And.intro (leAs_of_eq rfl) ?_); (try refine And.intro (leOL_of_eq rfl) ?_); simp (maxSteps := 9999999) (disch := omega) only [go_sem, g1, g6, sg.ren, tb_ren, g2, bA_ren]; first | done | (repeat' (first | rfl | (refine And.intro ?_ ?_))))); (focus (simp (maxSteps := 9999999) (disch := omega) only [go_sem, g1, g6, sg.ren, tb_ren, g2, bA_ren]; rfl)))); (try simp (maxSteps := 9999999) (disch := omega) only [go_sem, g1, g6, sg.ren, tb_ren, g2, bA_ren]); (try (refine And.intro ?_ ?_; (focus (first | omega | (simp only [go_sem]; done) | (simp; done) | (simp; omega) | assumption))))) | ((first | refine CondP.split (fun hif => ?_) (fun hif => ?_) | refine Runs.part (fun hif => ?_) (fun hif => ?_)) <;> ((try simp only [hif]); (try simp only [decide_eq_true_eq, decide_eq_false_iff_not, Bool.not_eq_true, Bool.not_eq_false, Bool.not_eq_true', Bool.not_eq_false', beq_iff_eq, bne_iff_ne, bne_eq_false_iff_eq, beq_eq_false_iff_ne, ne_eq, Bool.and_eq_true, Bool.or_eq_true, Bool.or_eq_false_iff] at hif); (try (have h9 : _ = true := hif; simp only [h9])); (try (have h9 : _ = false := hif; simp only [h9])); (try simp (maxSteps := 9999999) (disch := omega) only [go_sem, g1, g6, sg.ren, tb_ren, g2, bA_ren]); (try (refine And.intro ?_ ?_; (focus (first | omega | (simp only [go_sem]; done) | (simp; done) | (simp; omega) | assumption)))); (try (exfalso; omega; done))))))
    (apply Back.to (i + 1) [0, 1, 147]; (focus ((try simp (maxSteps := 9999999) (disch := omega) only [go_sem, g3, g4, sg.ren, tb_ren]); first | done | omega)); rotate_left; (focus (simp (maxSteps := 9999999) (disch := omega) only [go_sem, g3, g4, sg.ren, tb_ren]; (try (repeat' (first | done | trivial | rfl | exact leAs_rfl _ | decide | (refine And.intro ?_ ?_) | (simp; done) | omega | (simp; decide)))))))
    exact ⟨by omega, g5 (by omega)⟩
  · obtain rfl : i = ls.length := by omega
    rw [List.take_length] at hF hs30
    have hbF : ∀ x ∈ ls.flatten, 0 ≤ x ∧ x ≤ 255 := fun x hx => by
      obtain ⟨l, hl, hx⟩ := List.mem_flatten.1 hx
      exact hby0 l hl x hx
    have ho := ofs_any sg (fun l hl => ⟨by have := hs30 l hl; omega, hby0 l hl⟩) (decide (0 < ls.length))
    rw [Bool.or_self] at ho
    have sF := Seg.all ls.flatten (by omega)
    have o1 := of1_any (decide (0 < ls.length)) sF hbF
    have o2 := of1_any true sF hbF
    generalize decide (0 < ls.length) = d at *
    (try simp (maxSteps := 9999999) (disch := omega) only [go_sem])
    (repeat' (first | refine AWpA.seq ?_ | refine AWpA.block ?_ | (with_reducible refine CondP.tt ?_) | (with_reducible refine CondP.ff ?_) | refine AWpA.condv (by simp (maxSteps := 9999999) (disch := omega) only [go_sem, List.take_length, sg.ren, tb_ren]; rfl) ?_ | ((first | (apply AWpA.region; (focus (simp (maxSteps := 9999999) (disch := omega) only [go_sem, List.take_length, sg.ren, tb_ren]; rfl))) | (apply AWpA.draw [1] [] follows; (focus (first | rfl | decide)); (focus (simp (maxSteps := 9999999) (disch := omega) only [go_sem, List.take_length, sg.ren, tb_ren]; rfl)); (focus (simp (maxSteps := 9999999) (disch := omega) only [go_sem, List.take_length, sg.ren, tb_ren]; first | done | trivial)); (focus (simp (maxSteps := 9999999) (disch := omega) only [go_sem, List.take_length, sg.ren, tb_ren]; rfl))) | (apply TailK.go; (focus (simp (maxSteps := 9999999) (disch := omega) only [go_sem, List.take_length, sg.ren, tb_ren]; rfl))) | refine AWpA.skip ?_ | refine AWpA.exit ?_ | refine AWpA.ret ?_ | (with_reducible refine ARoundsA.succ ?_) | ((first | refine Runs.kt (by assumption) (fun h9 => ?_) | refine Runs.kf (by assumption) (fun h9 => ?_) | refine Runs.nt (by assumption) (fun h9 => ?_) | refine Runs.nf (by assumption) (fun h9 => ?_) | refine CondP.ht (by assumption) (fun h9 => ?_) | refine CondP.hf (by assumption) (fun h9 => ?_) | refine CondP.nt (by assumption) (fun h9 => ?_) | refine CondP.nf (by assumption) (fun h9 => ?_)); (try simp only [h9]); clear h9) | ((first | (with_reducible apply CallG.plain1 [1, 0] (ho)) | (with_reducible apply CallG.draw1 [1, 0] (ho))); (focus ((try refine And.intro (leAs_of_eq rfl) ?_); (try refine And.intro (leOL_of_eq rfl) ?_); simp (maxSteps := 9999999) (disch := omega) only [go_sem, List.take_length, sg.ren, tb_ren]; first | done | (repeat' (first | rfl | (refine And.intro ?_ ?_))))); (focus (simp (maxSteps := 9999999) (disch := omega) only [go_sem, List.take_length, sg.ren, tb_ren]; rfl))) | ((first | (with_reducible apply CallG.plain1 [1, 67, 2] (o1)) | (with_reducible apply CallG.draw1 [1, 67, 2] (o1))); (focus ((try refine And.intro (leAs_of_eq rfl) ?_); (try refine And.intro (leOL_of_eq rfl) ?_); simp (maxSteps := 9999999) (disch := omega) only [go_sem, List.take_length, sg.ren, tb_ren]; first | done | (repeat' (first | rfl | (refine And.intro ?_ ?_))))); (focus (simp (maxSteps := 9999999) (disch := omega) only [go_sem, List.take_length, sg.ren, tb_ren]; rfl))) | ((first | (with_reducible apply CallG.plain1 [1, 163, 2] (o2)) | (with_reducible apply CallG.draw1 [1, 163, 2] (o2))); (focus ((try refine And.intro (leAs_of_eq rfl) ?_); (try refine And.intro (leOL_of_eq rfl) ?_); simp (maxSteps := 9999999) (disch := omega) only [go_sem, List.take_length, sg.ren, tb_ren]; first | done | (repeat' (first | rfl | (refine And.intro ?_ ?_))))); (focus (simp (maxSteps := 9999999) (disch := omega) only [go_sem, List.take_length, sg.ren, tb_ren]; rfl)))); (try simp (maxSteps := 9999999) (disch := omega) only [go_sem, List.take_length, sg.ren, tb_ren]); (try (refine And.intro ?_ ?_; (focus (first | omega | (simp only [go_sem]; done) | (simp; done) | (simp; omega) | assumption))))) | ((first | refine CondP.split (fun hif => ?_) (fun hif => ?_) | refine Runs.part (fun hif => ?_) (fun hif => ?_)) <;> ((try simp only [hif]); (try simp only [decide_eq_true_eq, decide_eq_false_iff_not, Bool.not_eq_true, Bool.not_eq_false, Bool.not_eq_true', Bool.not_eq_false', beq_iff_eq, bne_iff_ne, bne_eq_false_iff_eq, beq_eq_false_iff_ne, ne_eq, Bool.and_eq_true, Bool.or_eq_true, Bool.or_eq_false_iff] at hif); (try (have h9 : _ = true := hif; simp only [h9])); (try (have h9 : _ = false := hif; simp only [h9])); (try simp (maxSteps := 9999999) (disch := omega) only [go_sem, List.take_length, sg.ren, tb_ren]); (try (refine And.intro ?_ ?_; (focus (first | omega | (simp only [go_sem]; done) | (simp; done) | (simp; omega) | assumption)))); (try (exfalso; omega; done))))))
    (refine TopPost.of (by first | exact .inl rfl | exact .inr rfl) (by (try simp (maxSteps := 9999999) (disch := omega) only [go_sem]); rfl) ?_; (try simp (maxSteps := 9999999) (disch := omega) only [go_sem]); (try (first | trivial | decide | (simp; done))))
end Go.Proofs.Ytnadhhmlehifnaa
