/- The walk of OctetsBack. -/
import Derived.Test.YteggjhihpjjloaaAo18
namespace Go.Proofs.Yteggjhihpjjloaa
set_option linter.unusedSimpArgs false
set_option linter.unusedVariables false
set_option maxHeartbeats 4000000
open Go Go.Am Go.RowKit Go.ChangeShapes Go.WideShapes Go.ChangeAt
set_option maxRecDepth 100000
/- quidnunc/quidnunclaw01.OctetsBack -/
noncomputable def c11_1 : ACode := .region false [⟨some 2, .move, [.c (.val (.bool false))], none⟩] [] [] [0] false [] []
noncomputable def c11_4 : ACode := .region false [⟨some 10, .call 33, [], none⟩,
  ⟨some 11, .un .not, [.t 10], none⟩,
  ⟨some 12, .move, [.t 11], none⟩,
  ⟨some 13, .move, [.t 0], some (some 12, false)⟩,
  ⟨some 14, .call 34, [.t 13], some (some 12, false)⟩,
  ⟨some 15, .un .not, [.t 14], some (some 12, false)⟩,
  ⟨some 16, .pick, [.t 12, .c (.val (.bool true)), .t 15], none⟩] [] [] [0, 16] true [] []
noncomputable def c11_7 : ACode := .region false [⟨some 17, .call 33, [], none⟩,
  ⟨some 2, .move, [.t 17], none⟩] [] [] [2] true [] []
noncomputable def c11_6 : ACode := .seq c11_7 .ret
noncomputable def c11_5 : ACode := .cond (.t 16) c11_6 .skip
noncomputable def c11_3 : ACode := .seq c11_4 c11_5
noncomputable def c11_9 : ACode := .region false [⟨some 3, .alloc [(.slice none 0 0), (.int .i64 0)], [], none⟩] [] [] [0, 3] true [] []
noncomputable def c11_12 : ACode := .region false [⟨some 18, .move, [.t 0], none⟩,
  ⟨some 19, .len, [.t 18], none⟩,
  ⟨some 20, .move, [.c (.val (.int .i64 0))], none⟩] [] [] [0, 3, 18, 19, 20] false [] []
noncomputable def c11_16 : ACode := .region false [⟨some 21, .bin .lss, [.t 20, .t 19], none⟩] [] [] [0, 3, 18, 19, 20, 21] false [] []
noncomputable def c11_18 : ACode := .cond (.t 21) .skip (.exit 0)
noncomputable def c11_22 : ACode := .region false [⟨some 22, .ixS 4, [.t 18, .t 20], none⟩,
  ⟨some 23, .load true 4, [.t 22], none⟩,
  ⟨some 5, .alloc [(.int .i64 0), (.int .i64 0), (.int .u64 0), (.slice none 0 0)], [], none⟩,
  ⟨none, .store 4, [.t 5, .t 23], none⟩] [] [] [0, 3, 5, 18, 19, 20] true [] []
noncomputable def c11_24 : ACode := .region false [⟨some 24, .addr 0, [.t 5], none⟩,
  ⟨some 25, .load false 1, [.t 24], none⟩] [] [] [0, 3, 5, 18, 19, 20, 25] false [] []
noncomputable def c11_27 : ACode := .region false [⟨some 31, .bin .eql, [.t 25, .c (.val (.int .i64 0))], none⟩,
  ⟨some 30, .move, [.t 31], none⟩] [] [] [0, 3, 5, 18, 19, 20, 25, 30] false [] []
noncomputable def c11_29 : ACode := .region false [⟨some 32, .addr 2, [.t 5], none⟩,
  ⟨some 33, .load false 1, [.t 32], none⟩,
  ⟨some 34, .addr 1, [.t 5], none⟩,
  ⟨some 35, .load false 1, [.t 34], none⟩,
  ⟨some 36, .call 35, [.t 3, .t 33, .t 35], none⟩] [] [] [0, 3, 18, 19, 20] true [] []
noncomputable def c11_31 : ACode := .region false [⟨some 38, .bin .eql, [.t 25, .c (.val (.int .i64 1))], none⟩,
  ⟨some 37, .move, [.t 38], none⟩] [] [] [0, 3, 5, 18, 19, 20, 25, 37] false [] []
noncomputable def c11_33 : ACode := .region false [⟨some 39, .addr 2, [.t 5], none⟩,
  ⟨some 40, .load false 1, [.t 39], none⟩,
  ⟨some 41, .bin .gtr, [.t 40, .c (.val (.int .u64 0))], none⟩,
  ⟨some 42, .call 38, [.t 3, .t 41], none⟩] [] [] [0, 3, 18, 19, 20] true [] []
noncomputable def c11_35 : ACode := .region false [⟨some 44, .bin .eql, [.t 25, .c (.val (.int .i64 2))], none⟩,
  ⟨some 43, .move, [.t 44], none⟩] [] [] [0, 3, 5, 18, 19, 20, 43] false [] []
noncomputable def c11_37 : ACode := .region false [⟨some 45, .addr 3, [.t 5], none⟩,
  ⟨some 46, .load false 1, [.t 45], none⟩,
  ⟨some 47, .toStr, [.t 46], none⟩,
  ⟨some 48, .call 39, [.t 3, .t 47], none⟩] [] [] [0, 3, 18, 19, 20] true [] []
noncomputable def c11_38 : ACode := .region false [⟨some 26, .addr 3, [.t 5], none⟩,
  ⟨some 27, .load false 1, [.t 26], none⟩,
  ⟨some 28, .buildSl 1 1 [(.slice none 0 0)] [(0, 1)], [.t 27], none⟩,
  ⟨some 29, .call 40, [.t 3, .t 28], none⟩] [] [] [0, 3, 18, 19, 20] true [] []
noncomputable def c11_36 : ACode := .cond (.t 43) c11_37 c11_38
noncomputable def c11_34 : ACode := .seq c11_35 c11_36
noncomputable def c11_32 : ACode := .cond (.t 37) c11_33 c11_34
noncomputable def c11_30 : ACode := .seq c11_31 c11_32
noncomputable def c11_28 : ACode := .cond (.t 30) c11_29 c11_30
noncomputable def c11_26 : ACode := .seq c11_27 c11_28
noncomputable def c11_25 : ACode := .block 2 c11_26
noncomputable def c11_23 : ACode := .seq c11_24 c11_25
noncomputable def c11_21 : ACode := .seq c11_22 c11_23
noncomputable def c11_20 : ACode := .block 1 c11_21
noncomputable def c11_39 : ACode := .region false [⟨some 49, .bin .add, [.t 20, .c (.val (.int .i64 1))], none⟩,
  ⟨some 20, .move, [.t 49], none⟩] [] [] [0, 3, 18, 19, 20] false [] []
noncomputable def c11_19 : ACode := .seq c11_20 c11_39
noncomputable def c11_17 : ACode := .seq c11_18 c11_19
noncomputable def c11_15 : ACode := .seq c11_16 c11_17
noncomputable def c11_14 : ACode := .loop c11_15
noncomputable def c11_13 : ACode := .block 0 c11_14
noncomputable def c11_11 : ACode := .seq c11_12 c11_13
noncomputable def c11_42 : ACode := .region false [⟨some 50, .call 41, [.t 3], none⟩,
  ⟨some 51, .bin .neq, [.t 50, .c (.val (.int .i64 0))], none⟩] [] [] [0, 3, 51] true [] []
noncomputable def c11_45 : ACode := .region false [⟨some 2, .move, [.c (.val (.bool true))], none⟩] [] [] [2] false [] []
noncomputable def c11_44 : ACode := .seq c11_45 .ret
noncomputable def c11_43 : ACode := .cond (.t 51) c11_44 .skip
noncomputable def c11_41 : ACode := .seq c11_42 c11_43
noncomputable def c11_47 : ACode := .region false [⟨some 52, .call 43, [.t 3], none⟩,
  ⟨some 53, .call 57, [.t 52], none⟩,
  ⟨some 6, .move, [.t 53], none⟩] [] [] [0, 6] true [] []
noncomputable def c11_50 : ACode := .region false [⟨some 54, .move, [.t 6], none⟩,
  ⟨some 55, .eqP false, [.t 54, .c (.val (.pointer none))], none⟩] [] [] [0, 6, 55] false [] []
noncomputable def c11_53 : ACode := .region false [⟨some 2, .move, [.c (.val (.bool false))], none⟩] [] [] [2] false [] []
noncomputable def c11_52 : ACode := .seq c11_53 .ret
noncomputable def c11_51 : ACode := .cond (.t 55) c11_52 .skip
noncomputable def c11_49 : ACode := .seq c11_50 c11_51
noncomputable def c11_56 : ACode := .region false [⟨some 56, .move, [.t 0], none⟩,
  ⟨some 57, .len, [.t 56], none⟩,
  ⟨some 58, .move, [.c (.val (.int .i64 0))], none⟩] [] [] [6, 56, 57, 58] false [] []
noncomputable def c11_60 : ACode := .region false [⟨some 59, .bin .lss, [.t 58, .t 57], none⟩] [] [] [6, 56, 57, 58, 59] false [] []
noncomputable def c11_62 : ACode := .cond (.t 59) .skip (.exit 3)
noncomputable def c11_66 : ACode := .region false [⟨some 60, .ixS 4, [.t 56, .t 58], none⟩,
  ⟨some 61, .load true 4, [.t 60], none⟩,
  ⟨some 8, .alloc [(.int .i64 0), (.int .i64 0), (.int .u64 0), (.slice none 0 0)], [], none⟩,
  ⟨none, .store 4, [.t 8, .t 61], none⟩] [] [] [6, 8, 56, 57, 58] true [] []
noncomputable def c11_68 : ACode := .region false [⟨some 9, .move, [.c (.val (.bool false))], none⟩] [] [] [6, 8, 56, 57, 58] false [] []
noncomputable def c11_71 : ACode := .region false [⟨some 62, .addr 0, [.t 8], none⟩,
  ⟨some 63, .load false 1, [.t 62], none⟩] [] [] [6, 8, 56, 57, 58, 63] false [] []
noncomputable def c11_74 : ACode := .region false [⟨some 73, .bin .eql, [.t 63, .c (.val (.int .i64 0))], none⟩,
  ⟨some 72, .move, [.t 73], none⟩] [] [] [6, 8, 56, 57, 58, 63, 72] false [] []
noncomputable def c11_76 : ACode := .region true [⟨some 74, .move, [.t 6], none⟩,
  ⟨some 75, .addr 1, [.t 8], none⟩,
  ⟨some 76, .load false 1, [.t 75], none⟩,
  ⟨some 77, .call 62, [.t 74, .t 76], none⟩,
  ⟨some 78, .addr 2, [.t 8], none⟩,
  ⟨some 79, .load false 1, [.t 78], none⟩,
  ⟨some 80, .bin .eql, [.t 77, .t 79], none⟩,
  ⟨some 9, .move, [.t 80], none⟩] [] [] [6, 9, 56, 57, 58] true [] []
noncomputable def c11_78 : ACode := .region false [⟨some 82, .bin .eql, [.t 63, .c (.val (.int .i64 1))], none⟩,
  ⟨some 81, .move, [.t 82], none⟩] [] [] [6, 8, 56, 57, 58, 63, 81] false [] []
noncomputable def c11_80 : ACode := .region true [⟨some 83, .move, [.t 6], none⟩,
  ⟨some 84, .call 64, [.t 83], none⟩,
  ⟨some 85, .addr 2, [.t 8], none⟩,
  ⟨some 86, .load false 1, [.t 85], none⟩,
  ⟨some 87, .bin .gtr, [.t 86, .c (.val (.int .u64 0))], none⟩,
  ⟨some 88, .eqB false, [.t 84, .t 87], none⟩,
  ⟨some 9, .move, [.t 88], none⟩] [] [] [6, 9, 56, 57, 58] true [] []
noncomputable def c11_82 : ACode := .region false [⟨some 90, .bin .eql, [.t 63, .c (.val (.int .i64 2))], none⟩,
  ⟨some 89, .move, [.t 90], none⟩] [] [] [6, 8, 56, 57, 58, 89] false [] []
noncomputable def c11_84 : ACode := .region true [⟨some 91, .move, [.t 6], none⟩,
  ⟨some 92, .call 66, [.t 91, .c (.val (.int .i64 255))], none⟩,
  ⟨some 93, .addr 3, [.t 8], none⟩,
  ⟨some 94, .load false 1, [.t 93], none⟩,
  ⟨some 95, .toStr, [.t 94], none⟩,
  ⟨some 96, .bin .eql, [.t 92, .t 95], none⟩,
  ⟨some 9, .move, [.t 96], none⟩] [] [] [6, 9, 56, 57, 58] true [] []
noncomputable def c11_85 : ACode := .region true [⟨some 64, .move, [.t 6], none⟩,
  ⟨some 65, .addr 3, [.t 8], none⟩,
  ⟨some 66, .load false 1, [.t 65], none⟩,
  ⟨some 67, .len, [.t 66], none⟩,
  ⟨some 68, .call 58, [.t 64, .t 67], none⟩,
  ⟨some 69, .addr 3, [.t 8], none⟩,
  ⟨some 70, .load false 1, [.t 69], none⟩,
  ⟨some 71, .call 42, [.t 68, .t 70], none⟩,
  ⟨some 9, .move, [.t 71], none⟩] [] [] [6, 9, 56, 57, 58] true [] []
noncomputable def c11_83 : ACode := .cond (.t 89) c11_84 c11_85
noncomputable def c11_81 : ACode := .seq c11_82 c11_83
noncomputable def c11_79 : ACode := .cond (.t 81) c11_80 c11_81
noncomputable def c11_77 : ACode := .seq c11_78 c11_79
noncomputable def c11_75 : ACode := .cond (.t 72) c11_76 c11_77
noncomputable def c11_73 : ACode := .seq c11_74 c11_75
noncomputable def c11_72 : ACode := .block 5 c11_73
noncomputable def c11_70 : ACode := .seq c11_71 c11_72
noncomputable def c11_87 : ACode := .region false [⟨some 97, .move, [.t 9], none⟩,
  ⟨some 98, .un .not, [.t 97], none⟩] [] [] [6, 56, 57, 58, 98] false [] []
noncomputable def c11_90 : ACode := .region false [⟨some 2, .move, [.c (.val (.bool false))], none⟩] [] [] [2] false [] []
noncomputable def c11_89 : ACode := .seq c11_90 .ret
noncomputable def c11_88 : ACode := .cond (.t 98) c11_89 .skip
noncomputable def c11_86 : ACode := .seq c11_87 c11_88
noncomputable def c11_69 : ACode := .seq c11_70 c11_86
noncomputable def c11_67 : ACode := .seq c11_68 c11_69
noncomputable def c11_65 : ACode := .seq c11_66 c11_67
noncomputable def c11_64 : ACode := .block 4 c11_65
noncomputable def c11_91 : ACode := .region false [⟨some 99, .bin .add, [.t 58, .c (.val (.int .i64 1))], none⟩,
  ⟨some 58, .move, [.t 99], none⟩] [] [] [6, 56, 57, 58] false [] []
noncomputable def c11_63 : ACode := .seq c11_64 c11_91
noncomputable def c11_61 : ACode := .seq c11_62 c11_63
noncomputable def c11_59 : ACode := .seq c11_60 c11_61
noncomputable def c11_58 : ACode := .loop c11_59
noncomputable def c11_57 : ACode := .block 3 c11_58
noncomputable def c11_55 : ACode := .seq c11_56 c11_57
noncomputable def c11_93 : ACode := .region false [⟨some 100, .move, [.t 6], none⟩,
  ⟨some 101, .call 70, [.t 100], none⟩,
  ⟨some 102, .bin .eql, [.t 101, .c (.val (.int .i64 0))], none⟩,
  ⟨some 103, .move, [.t 102], none⟩,
  ⟨some 104, .move, [.t 6], some (some 103, true)⟩,
  ⟨some 105, .call 72, [.t 104], some (some 103, true)⟩,
  ⟨some 106, .bin .eql, [.t 105, .c (.val (.int .i64 0))], some (some 103, true)⟩,
  ⟨some 107, .pick, [.t 103, .t 106, .c (.val (.bool false))], none⟩,
  ⟨some 2, .move, [.t 107], none⟩] [] [] [2] true [] []
noncomputable def c11_92 : ACode := .seq c11_93 .ret
noncomputable def c11_54 : ACode := .seq c11_55 c11_92
noncomputable def c11_48 : ACode := .seq c11_49 c11_54
noncomputable def c11_46 : ACode := .seq c11_47 c11_48
noncomputable def c11_40 : ACode := .seq c11_41 c11_46
noncomputable def c11_10 : ACode := .seq c11_11 c11_40
noncomputable def c11_8 : ACode := .seq c11_9 c11_10
noncomputable def c11_2 : ACode := .seq c11_3 c11_8
noncomputable def c11_0 : ACode := .seq c11_1 c11_2
noncomputable def code11 : Code := (Try.f11.body).getD .skip
theorem c11_ok : compC Try.prog 108 code11 = some (strip c11_0) := by kernel_rfl
theorem res11_ok : Try.f11.results.toList.mapM (resC Try.prog) = some [(2, none)] := by kernel_rfl
theorem back_walk (W : World) (tl : Sl Pt) (ht : tl.ok W 4 Pt.rep (Pt.ok W)) :
    Calls Try.prog 11 #[.slice tl.ad tl.l.length tl.cap] W fun e W' => e = .returned (.bool true) ∧ Below W.heap.size W W' := by
  obtain ⟨ad, off, cap, ts⟩ := tl
  have hz := ht.fz
  have hlen0 := ht.len
  have hall := ht.all
  simp only at hz hlen0 hall
  have hl0 : ts.length ≤ 9223372036854775807 := by simp only [maxLen] at hlen0; omega
  have hr : ∀ ρ, renL ρ (rowsC off PtC ts) = rowsC off PtC ts := fun ρ => rowsC_ren (fun ρ x => by simp [renL, ren]) ρ ts
  have hfw := few_any off ts hl0
  cases hfew : fewB ts with
  | false =>
    rw [hfew] at hfw
    refine top_call c11_ok Try.func11 rfl Try.ntmps11 res11_ok [ .val (.slice ad ts.length cap)] (by simp) (by (repeat' (first | exact VRs_nil' _ | exact VR_val' _ _ | (refine VRs_cons' ?_ ?_) | (refine VR_agg' rfl ?_; simp [Value.oneCell', Pt.rep])))) ?_; try simp (maxSteps := 9999999) (disch := omega) only [go_sem]
    refine AWpA.thawT 0 PtC hz (fun x => by simp [Pt.rep, Sl.rep]) rfl ?_
    (repeat' (first | refine AWpA.seq ?_ | refine AWpA.block ?_ | (with_reducible refine CondP.tt ?_) | (with_reducible refine CondP.ff ?_) | refine AWpA.condv (by simp (maxSteps := 9999999) (disch := omega) only [go_sem, hr]; rfl) ?_ | ((first | (apply AWpA.region; (focus (simp (maxSteps := 9999999) (disch := omega) only [go_sem, hr]; rfl))) | (apply AWpA.draw [] follows; (focus (simp (maxSteps := 9999999) (disch := omega) only [go_sem, hr]; rfl)); (focus (simp (maxSteps := 9999999) (disch := omega) only [go_sem, hr]; first | done | trivial)); (focus (simp (maxSteps := 9999999) (disch := omega) only [go_sem, hr]; rfl))) | (apply TailK.go; (focus (simp (maxSteps := 9999999) (disch := omega) only [go_sem, hr]; rfl))) | refine AWpA.skip ?_ | refine AWpA.exit ?_ | refine AWpA.ret ?_ | (with_reducible refine ARoundsA.succ ?_) | ((first | refine Runs.kt (by assumption) (fun h9 => ?_) | refine Runs.kf (by assumption) (fun h9 => ?_) | refine Runs.nt (by assumption) (fun h9 => ?_) | refine Runs.nf (by assumption) (fun h9 => ?_) | refine CondP.ht (by assumption) (fun h9 => ?_) | refine CondP.hf (by assumption) (fun h9 => ?_) | refine CondP.nt (by assumption) (fun h9 => ?_) | refine CondP.nf (by assumption) (fun h9 => ?_)); (try simp only [h9]); clear h9) | ((first | (with_reducible apply CallG.plain1 [] (speaks_any)) | (with_reducible apply CallG.plain1 [0] (hfw)) | (with_reducible apply CallG.draw1 [] (speaks_any)) | (with_reducible apply CallG.draw1 [0] (hfw))); (focus ((try refine And.intro (leAs_of_eq rfl) ?_); (try refine And.intro (leOL_of_eq rfl) ?_); simp (maxSteps := 9999999) (disch := omega) only [go_sem, hr]; first | done | (repeat' (first | rfl | (refine And.intro ?_ ?_))))); (focus (simp (maxSteps := 9999999) (disch := omega) only [go_sem, hr]; rfl)))); (try simp (maxSteps := 9999999) (disch := omega) only [go_sem, hr]); (try (refine And.intro ?_ ?_; (focus (first | omega | (simp only [go_sem]; done) | (simp; done) | (simp; omega) | assumption))))) | ((first | refine CondP.split (fun hif => ?_) (fun hif => ?_) | refine Runs.part (fun hif => ?_) (fun hif => ?_)) <;> ((try simp only [hif]); (try simp only [decide_eq_true_eq, decide_eq_false_iff_not, Bool.not_eq_true, Bool.not_eq_false, Bool.not_eq_true', Bool.not_eq_false', beq_iff_eq, bne_iff_ne, bne_eq_false_iff_eq, beq_eq_false_iff_ne, ne_eq, Bool.and_eq_true, Bool.or_eq_true, Bool.or_eq_false_iff] at hif); (try (have h9 : _ = true := hif; simp only [h9])); (try (have h9 : _ = false := hif; simp only [h9])); (try simp (maxSteps := 9999999) (disch := omega) only [go_sem, hr]); (try (refine And.intro ?_ ?_; (focus (first | omega | (simp only [go_sem]; done) | (simp; done) | (simp; omega) | assumption)))); (try (exfalso; omega; done))))))
    (refine TopPost.of (by first | exact .inl rfl | exact .inr rfl) (by simp (maxSteps := 9999999) (disch := omega) only [go_sem]; rfl) ?_; simp (maxSteps := 9999999) (disch := omega) only [go_sem]; (try (first | trivial | decide | (simp; done))))
  | true =>
  rw [hfew] at hfw
  simp only [fewB, few300, Bool.and_eq_true, List.all_eq_true, decide_eq_true_eq] at hfew
  obtain ⟨h300, h40⟩ := hfew
  have hlen : ∀ l : List Pt, (rowsC off PtC l).length = off + l.length * 4 := rowsC_len (fun _ => rfl)
  refine top_call c11_ok Try.func11 rfl Try.ntmps11 res11_ok [ .val (.slice ad ts.length cap)] (by simp) (by (repeat' (first | exact VRs_nil' _ | exact VR_val' _ _ | (refine VRs_cons' ?_ ?_) | (refine VR_agg' rfl ?_; simp [Value.oneCell', Pt.rep])))) ?_; try simp (maxSteps := 9999999) (disch := omega) only [go_sem]
  refine AWpA.thawT 0 PtC hz (fun x => by simp [Pt.rep, Sl.rep]) rfl ?_
  refine AWpA.dummy ?_
  (repeat' (first | refine AWpA.seq ?_ | refine AWpA.block ?_ | (with_reducible refine CondP.tt ?_) | (with_reducible refine CondP.ff ?_) | refine AWpA.condv (by simp (maxSteps := 9999999) (disch := omega) only [go_sem, hr]; rfl) ?_ | ((first | (apply AWpA.region; (focus (simp (maxSteps := 9999999) (disch := omega) only [go_sem, hr]; rfl))) | (apply AWpA.draw [] follows; (focus (simp (maxSteps := 9999999) (disch := omega) only [go_sem, hr]; rfl)); (focus (simp (maxSteps := 9999999) (disch := omega) only [go_sem, hr]; first | done | trivial)); (focus (simp (maxSteps := 9999999) (disch := omega) only [go_sem, hr]; rfl))) | (apply TailK.go; (focus (simp (maxSteps := 9999999) (disch := omega) only [go_sem, hr]; rfl))) | refine AWpA.skip ?_ | refine AWpA.exit ?_ | refine AWpA.ret ?_ | (with_reducible refine ARoundsA.succ ?_) | ((first | refine Runs.kt (by assumption) (fun h9 => ?_) | refine Runs.kf (by assumption) (fun h9 => ?_) | refine Runs.nt (by assumption) (fun h9 => ?_) | refine Runs.nf (by assumption) (fun h9 => ?_) | refine CondP.ht (by assumption) (fun h9 => ?_) | refine CondP.hf (by assumption) (fun h9 => ?_) | refine CondP.nt (by assumption) (fun h9 => ?_) | refine CondP.nf (by assumption) (fun h9 => ?_)); (try simp only [h9]); clear h9) | ((first | (with_reducible apply CallG.plain1 [] (speaks_any)) | (with_reducible apply CallG.plain1 [0] (hfw)) | (with_reducible apply CallG.draw1 [] (speaks_any)) | (with_reducible apply CallG.draw1 [0] (hfw))); (focus ((try refine And.intro (leAs_of_eq rfl) ?_); (try refine And.intro (leOL_of_eq rfl) ?_); simp (maxSteps := 9999999) (disch := omega) only [go_sem, hr]; first | done | (repeat' (first | rfl | (refine And.intro ?_ ?_))))); (focus (simp (maxSteps := 9999999) (disch := omega) only [go_sem, hr]; rfl)))); (try simp (maxSteps := 9999999) (disch := omega) only [go_sem, hr]); (try (refine And.intro ?_ ?_; (focus (first | omega | (simp only [go_sem]; done) | (simp; done) | (simp; omega) | assumption))))) | ((first | refine CondP.split (fun hif => ?_) (fun hif => ?_) | refine Runs.part (fun hif => ?_) (fun hif => ?_)) <;> ((try simp only [hif]); (try simp only [decide_eq_true_eq, decide_eq_false_iff_not, Bool.not_eq_true, Bool.not_eq_false, Bool.not_eq_true', Bool.not_eq_false', beq_iff_eq, bne_iff_ne, bne_eq_false_iff_eq, beq_eq_false_iff_ne, ne_eq, Bool.and_eq_true, Bool.or_eq_true, Bool.or_eq_false_iff] at hif); (try (have h9 : _ = true := hif; simp only [h9])); (try (have h9 : _ = false := hif; simp only [h9])); (try simp (maxSteps := 9999999) (disch := omega) only [go_sem, hr]); (try (refine And.intro ?_ ?_; (focus (first | omega | (simp only [go_sem]; done) | (simp; done) | (simp; omega) | assumption)))); (try (exfalso; omega; done))))))
  (apply AWpA.loopL (fun k : Nat × List Int × Int => [(0, .sl 0 off ts.length 4 none), (3, .ptr 1 0), (18, .sl 0 off ts.length 4 none), (19, I ts.length), (20, I k.1)]) (fun k => [.cells true (rowsC off PtC ts), WrO 2 k.2.1.length k.2.2, .cells false (bA k.2.1)]) (fun k => ts.length - k.1) (fun k => k.1 ≤ ts.length ∧ putInv ts k.1 k.2.1 k.2.2) ((0, [], 0)) [0, _, 1]; rotate_left; (focus (simp (maxSteps := 9999999) (disch := omega) only [go_sem, hr, bA_nil, List.length_nil]; (try (repeat' (first | done | trivial | rfl | exact leAs_rfl _ | decide | (refine And.intro ?_ ?_) | (simp; done) | omega | (simp; decide)))))); rotate_right)
  · exact ⟨Nat.zero_le _, Nat.zero_le _, fun _ => ⟨by simp, by simp⟩⟩
  rintro ⟨i, l, e⟩ ⟨hi, hinv⟩
  simp only at hi hinv
  by_cases hil : i < ts.length
  · have hat := rowsC_at (off := off) (f := PtC) (k := 4) (fun _ => rfl) ts i hil
    have hok := hall ts[i] (List.getElem_mem _)
    have h3 := h300 ts[i] (List.getElem_mem _)
    have hnext := putInv_next hil hinv h3
    generalize ts[i] = p at hat hok h3 hnext
    obtain ⟨pk, pw, pv, ⟨pad, poff, pcap, B⟩⟩ := p
    have hzp := hok.b.fz
    have hB : bytesB B := hok.b.all
    have hv : 0 ≤ pv ∧ pv < 18446744073709551616 := by
      have h := hok.v
      simp only [IntKind.min, IntKind.max, IntKind.signed, IntKind.bits] at h
      simp at h
      omega
    simp only at hzp h3 hat
    have s := Seg.rows (off := poff) (l := B) (by omega)
    generalize hP : rowsC poff (fun n : Int => [.val (.int .u8 n)]) B = P at s
    have hle := s.le
    have hl : l.length ≤ 1099511627776 := by have := hinv.1; omega
    have g1 : ((i : Int) < (ts.length : Int)) = True := eq_true (by omega)
    have hnum := number_any l hl e pv pw hv
    rw [numE_K, numL_K] at hnum
    have hflag := flag_any l hl e (decide (pv > 0))
    have hK1 : numK (cond (decide (pv > 0)) 1 0) 1 = 0 := by cases decide (pv > 0) <;> decide +kernel
    have hL1 : leI (cond (decide (pv > 0)) 1 0) (1 : Int).toNat = [cond (decide (pv > 0)) 1 0] := by cases decide (pv > 0) <;> decide +kernel
    rw [numE_K, numL_K, hK1, hL1] at hflag
    have htext := text_any l hl e (baI B)
    rw [textE_K, textL_K, baI_size, txI_baI hB] at htext
    simp only [baI] at htext
    have hraw := raw1_any l hl e s
    rw [wput_K] at hraw
    by_cases k0 : pk = 0
    · subst k0
      simp only [ptK, ptX, if_true] at hnext
      (repeat' (first | (refine AWpA.thawO 51 3 (fun n : Int => [.val (.int .u8 n)]) hzp (fun _ => rfl) rfl rfl rfl ?_; (try simp only [hP, List.set_cons_zero, List.set_cons_succ]); (try simp (maxSteps := 9999999) (disch := omega) only [go_sem, g1, hlen, hat, PtC, hr, s.ren, s.seg, s.noAny])) | refine AWpA.seq ?_ | refine AWpA.block ?_ | (with_reducible refine CondP.tt ?_) | (with_reducible refine CondP.ff ?_) | refine AWpA.condv (by simp (maxSteps := 9999999) (disch := omega) only [go_sem, g1, hlen, hat, PtC, hr, s.ren, s.seg, s.noAny]; rfl) ?_ | ((first | (apply AWpA.region; (focus (simp (maxSteps := 9999999) (disch := omega) only [go_sem, g1, hlen, hat, PtC, hr, s.ren, s.seg, s.noAny]; rfl))) | (apply AWpA.draw [1, 2] follows; (focus (simp (maxSteps := 9999999) (disch := omega) only [go_sem, g1, hlen, hat, PtC, hr, s.ren, s.seg, s.noAny]; rfl)); (focus (simp (maxSteps := 9999999) (disch := omega) only [go_sem, g1, hlen, hat, PtC, hr, s.ren, s.seg, s.noAny]; first | done | trivial)); (focus (simp (maxSteps := 9999999) (disch := omega) only [go_sem, g1, hlen, hat, PtC, hr, s.ren, s.seg, s.noAny]; rfl))) | (apply TailK.go; (focus (simp (maxSteps := 9999999) (disch := omega) only [go_sem, g1, hlen, hat, PtC, hr, s.ren, s.seg, s.noAny]; rfl))) | refine AWpA.skip ?_ | refine AWpA.exit ?_ | refine AWpA.ret ?_ | (with_reducible refine ARoundsA.succ ?_) | ((first | refine Runs.kt (by assumption) (fun h9 => ?_) | refine Runs.kf (by assumption) (fun h9 => ?_) | refine Runs.nt (by assumption) (fun h9 => ?_) | refine Runs.nf (by assumption) (fun h9 => ?_) | refine CondP.ht (by assumption) (fun h9 => ?_) | refine CondP.hf (by assumption) (fun h9 => ?_) | refine CondP.nt (by assumption) (fun h9 => ?_) | refine CondP.nf (by assumption) (fun h9 => ?_)); (try simp only [h9]); clear h9) | ((first | (with_reducible apply CallG.plain1 [1, 2] (hnum)) | (with_reducible apply CallG.draw1 [1, 2] (hnum))); (focus ((try refine And.intro (leAs_of_eq rfl) ?_); (try refine And.intro (leOL_of_eq rfl) ?_); simp (maxSteps := 9999999) (disch := omega) only [go_sem, g1, hlen, hat, PtC, hr, s.ren, s.seg, s.noAny]; first | done | (repeat' (first | rfl | (refine And.intro ?_ ?_))))); (focus (simp (maxSteps := 9999999) (disch := omega) only [go_sem, g1, hlen, hat, PtC, hr, s.ren, s.seg, s.noAny]; rfl)))); (try simp (maxSteps := 9999999) (disch := omega) only [go_sem, g1, hlen, hat, PtC, hr, s.ren, s.seg, s.noAny]); (try (refine And.intro ?_ ?_; (focus (first | omega | (simp only [go_sem]; done) | (simp; done) | (simp; omega) | assumption))))) | ((first | refine CondP.split (fun hif => ?_) (fun hif => ?_) | refine Runs.part (fun hif => ?_) (fun hif => ?_)) <;> ((try simp only [hif]); (try simp only [decide_eq_true_eq, decide_eq_false_iff_not, Bool.not_eq_true, Bool.not_eq_false, Bool.not_eq_true', Bool.not_eq_false', beq_iff_eq, bne_iff_ne, bne_eq_false_iff_eq, beq_eq_false_iff_ne, ne_eq, Bool.and_eq_true, Bool.or_eq_true, Bool.or_eq_false_iff] at hif); (try (have h9 : _ = true := hif; simp only [h9])); (try (have h9 : _ = false := hif; simp only [h9])); (try simp (maxSteps := 9999999) (disch := omega) only [go_sem, g1, hlen, hat, PtC, hr, s.ren, s.seg, s.noAny]); (try (refine And.intro ?_ ?_; (focus (first | omega | (simp only [go_sem]; done) | (simp; done) | (simp; omega) | assumption)))); (try (exfalso; omega; done))))))
      (apply Back.to (i + 1, _, _) [0, 1, _]; (focus ((try simp (maxSteps := 9999999) (disch := omega) only [go_sem, hr]); first | done | omega)); rotate_left; (focus (simp (maxSteps := 9999999) (disch := omega) only [go_sem, hr]; (try (repeat' (first | done | trivial | rfl | exact leAs_rfl _ | decide | (refine And.intro ?_ ?_) | (simp; done) | omega | (simp; decide)))))))
      all_goals (first | exact ⟨hil, hnext⟩ | omega)
    by_cases k1 : pk = 1
    · subst k1
      simp only [ptK, ptX, if_neg k0, if_true] at hnext
      rw [failI_zero] at hnext hflag
      (repeat' (first | (refine AWpA.thawO 51 3 (fun n : Int => [.val (.int .u8 n)]) hzp (fun _ => rfl) rfl rfl rfl ?_; (try simp only [hP, List.set_cons_zero, List.set_cons_succ]); (try simp (maxSteps := 9999999) (disch := omega) only [go_sem, g1, hlen, hat, PtC, hr, s.ren, s.seg, s.noAny])) | refine AWpA.seq ?_ | refine AWpA.block ?_ | (with_reducible refine CondP.tt ?_) | (with_reducible refine CondP.ff ?_) | refine AWpA.condv (by simp (maxSteps := 9999999) (disch := omega) only [go_sem, g1, hlen, hat, PtC, hr, s.ren, s.seg, s.noAny]; rfl) ?_ | ((first | (apply AWpA.region; (focus (simp (maxSteps := 9999999) (disch := omega) only [go_sem, g1, hlen, hat, PtC, hr, s.ren, s.seg, s.noAny]; rfl))) | (apply AWpA.draw [1, 2] follows; (focus (simp (maxSteps := 9999999) (disch := omega) only [go_sem, g1, hlen, hat, PtC, hr, s.ren, s.seg, s.noAny]; rfl)); (focus (simp (maxSteps := 9999999) (disch := omega) only [go_sem, g1, hlen, hat, PtC, hr, s.ren, s.seg, s.noAny]; first | done | trivial)); (focus (simp (maxSteps := 9999999) (disch := omega) only [go_sem, g1, hlen, hat, PtC, hr, s.ren, s.seg, s.noAny]; rfl))) | (apply TailK.go; (focus (simp (maxSteps := 9999999) (disch := omega) only [go_sem, g1, hlen, hat, PtC, hr, s.ren, s.seg, s.noAny]; rfl))) | refine AWpA.skip ?_ | refine AWpA.exit ?_ | refine AWpA.ret ?_ | (with_reducible refine ARoundsA.succ ?_) | ((first | refine Runs.kt (by assumption) (fun h9 => ?_) | refine Runs.kf (by assumption) (fun h9 => ?_) | refine Runs.nt (by assumption) (fun h9 => ?_) | refine Runs.nf (by assumption) (fun h9 => ?_) | refine CondP.ht (by assumption) (fun h9 => ?_) | refine CondP.hf (by assumption) (fun h9 => ?_) | refine CondP.nt (by assumption) (fun h9 => ?_) | refine CondP.nf (by assumption) (fun h9 => ?_)); (try simp only [h9]); clear h9) | ((first | (with_reducible apply CallG.plain1 [1, 2] (hflag)) | (with_reducible apply CallG.draw1 [1, 2] (hflag))); (focus ((try refine And.intro (leAs_of_eq rfl) ?_); (try refine And.intro (leOL_of_eq rfl) ?_); simp (maxSteps := 9999999) (disch := omega) only [go_sem, g1, hlen, hat, PtC, hr, s.ren, s.seg, s.noAny]; first | done | (repeat' (first | rfl | (refine And.intro ?_ ?_))))); (focus (simp (maxSteps := 9999999) (disch := omega) only [go_sem, g1, hlen, hat, PtC, hr, s.ren, s.seg, s.noAny]; rfl)))); (try simp (maxSteps := 9999999) (disch := omega) only [go_sem, g1, hlen, hat, PtC, hr, s.ren, s.seg, s.noAny]); (try (refine And.intro ?_ ?_; (focus (first | omega | (simp only [go_sem]; done) | (simp; done) | (simp; omega) | assumption))))) | ((first | refine CondP.split (fun hif => ?_) (fun hif => ?_) | refine Runs.part (fun hif => ?_) (fun hif => ?_)) <;> ((try simp only [hif]); (try simp only [decide_eq_true_eq, decide_eq_false_iff_not, Bool.not_eq_true, Bool.not_eq_false, Bool.not_eq_true', Bool.not_eq_false', beq_iff_eq, bne_iff_ne, bne_eq_false_iff_eq, beq_eq_false_iff_ne, ne_eq, Bool.and_eq_true, Bool.or_eq_true, Bool.or_eq_false_iff] at hif); (try (have h9 : _ = true := hif; simp only [h9])); (try (have h9 : _ = false := hif; simp only [h9])); (try simp (maxSteps := 9999999) (disch := omega) only [go_sem, g1, hlen, hat, PtC, hr, s.ren, s.seg, s.noAny]); (try (refine And.intro ?_ ?_; (focus (first | omega | (simp only [go_sem]; done) | (simp; done) | (simp; omega) | assumption)))); (try (exfalso; omega; done))))))
      (apply Back.to (i + 1, _, _) [0, 1, _]; (focus ((try simp (maxSteps := 9999999) (disch := omega) only [go_sem, hr]); first | done | omega)); rotate_left; (focus (simp (maxSteps := 9999999) (disch := omega) only [go_sem, hr]; (try (repeat' (first | done | trivial | rfl | exact leAs_rfl _ | decide | (refine And.intro ?_ ?_) | (simp; done) | omega | (simp; decide)))))))
      all_goals (first | exact ⟨hil, hnext⟩ | omega)
    by_cases k2 : pk = 2
    · subst k2
      simp only [ptK, ptX, if_neg k0, if_neg k1, if_true] at hnext
      (repeat' (first | (refine AWpA.thawO 51 3 (fun n : Int => [.val (.int .u8 n)]) hzp (fun _ => rfl) rfl rfl rfl ?_; (try simp only [hP, List.set_cons_zero, List.set_cons_succ]); (try simp (maxSteps := 9999999) (disch := omega) only [go_sem, g1, hlen, hat, PtC, hr, s.ren, s.seg, s.noAny])) | refine AWpA.seq ?_ | refine AWpA.block ?_ | (with_reducible refine CondP.tt ?_) | (with_reducible refine CondP.ff ?_) | refine AWpA.condv (by simp (maxSteps := 9999999) (disch := omega) only [go_sem, g1, hlen, hat, PtC, hr, s.ren, s.seg, s.noAny]; rfl) ?_ | ((first | (apply AWpA.region; (focus (simp (maxSteps := 9999999) (disch := omega) only [go_sem, g1, hlen, hat, PtC, hr, s.ren, s.seg, s.noAny]; rfl))) | (apply AWpA.draw [1, 2] follows; (focus (simp (maxSteps := 9999999) (disch := omega) only [go_sem, g1, hlen, hat, PtC, hr, s.ren, s.seg, s.noAny]; rfl)); (focus (simp (maxSteps := 9999999) (disch := omega) only [go_sem, g1, hlen, hat, PtC, hr, s.ren, s.seg, s.noAny]; first | done | trivial)); (focus (simp (maxSteps := 9999999) (disch := omega) only [go_sem, g1, hlen, hat, PtC, hr, s.ren, s.seg, s.noAny]; rfl))) | (apply TailK.go; (focus (simp (maxSteps := 9999999) (disch := omega) only [go_sem, g1, hlen, hat, PtC, hr, s.ren, s.seg, s.noAny]; rfl))) | refine AWpA.skip ?_ | refine AWpA.exit ?_ | refine AWpA.ret ?_ | (with_reducible refine ARoundsA.succ ?_) | ((first | refine Runs.kt (by assumption) (fun h9 => ?_) | refine Runs.kf (by assumption) (fun h9 => ?_) | refine Runs.nt (by assumption) (fun h9 => ?_) | refine Runs.nf (by assumption) (fun h9 => ?_) | refine CondP.ht (by assumption) (fun h9 => ?_) | refine CondP.hf (by assumption) (fun h9 => ?_) | refine CondP.nt (by assumption) (fun h9 => ?_) | refine CondP.nf (by assumption) (fun h9 => ?_)); (try simp only [h9]); clear h9) | ((first | (with_reducible apply CallG.plain1 [1, 2] (htext)) | (with_reducible apply CallG.draw1 [1, 2] (htext))); (focus ((try refine And.intro (leAs_of_eq rfl) ?_); (try refine And.intro (leOL_of_eq rfl) ?_); simp (maxSteps := 9999999) (disch := omega) only [go_sem, g1, hlen, hat, PtC, hr, s.ren, s.seg, s.noAny]; first | done | (repeat' (first | rfl | (refine And.intro ?_ ?_))))); (focus (simp (maxSteps := 9999999) (disch := omega) only [go_sem, g1, hlen, hat, PtC, hr, s.ren, s.seg, s.noAny]; rfl)))); (try simp (maxSteps := 9999999) (disch := omega) only [go_sem, g1, hlen, hat, PtC, hr, s.ren, s.seg, s.noAny]); (try (refine And.intro ?_ ?_; (focus (first | omega | (simp only [go_sem]; done) | (simp; done) | (simp; omega) | assumption))))) | ((first | refine CondP.split (fun hif => ?_) (fun hif => ?_) | refine Runs.part (fun hif => ?_) (fun hif => ?_)) <;> ((try simp only [hif]); (try simp only [decide_eq_true_eq, decide_eq_false_iff_not, Bool.not_eq_true, Bool.not_eq_false, Bool.not_eq_true', Bool.not_eq_false', beq_iff_eq, bne_iff_ne, bne_eq_false_iff_eq, beq_eq_false_iff_ne, ne_eq, Bool.and_eq_true, Bool.or_eq_true, Bool.or_eq_false_iff] at hif); (try (have h9 : _ = true := hif; simp only [h9])); (try (have h9 : _ = false := hif; simp only [h9])); (try simp (maxSteps := 9999999) (disch := omega) only [go_sem, g1, hlen, hat, PtC, hr, s.ren, s.seg, s.noAny]); (try (refine And.intro ?_ ?_; (focus (first | omega | (simp only [go_sem]; done) | (simp; done) | (simp; omega) | assumption)))); (try (exfalso; omega; done))))))
      (apply Back.to (i + 1, _, _) [0, 1, _]; (focus ((try simp (maxSteps := 9999999) (disch := omega) only [go_sem, hr]); first | done | omega)); rotate_left; (focus (simp (maxSteps := 9999999) (disch := omega) only [go_sem, hr]; (try (repeat' (first | done | trivial | rfl | exact leAs_rfl _ | decide | (refine And.intro ?_ ?_) | (simp; done) | omega | (simp; decide)))))))
      all_goals (first | exact ⟨hil, hnext⟩ | omega)
    simp only [ptK, ptX, if_neg k0, if_neg k1, if_neg k2] at hnext
    rw [failI_zero] at hnext
    (repeat' (first | (refine AWpA.thawO 51 3 (fun n : Int => [.val (.int .u8 n)]) hzp (fun _ => rfl) rfl rfl rfl ?_; (try simp only [hP, List.set_cons_zero, List.set_cons_succ]); (try simp (maxSteps := 9999999) (disch := omega) only [go_sem, g1, hlen, hat, PtC, hr, s.ren, s.seg, s.noAny, eq_false k0, eq_false k1, eq_false k2])) | refine AWpA.seq ?_ | refine AWpA.block ?_ | (with_reducible refine CondP.tt ?_) | (with_reducible refine CondP.ff ?_) | refine AWpA.condv (by simp (maxSteps := 9999999) (disch := omega) only [go_sem, g1, hlen, hat, PtC, hr, s.ren, s.seg, s.noAny, eq_false k0, eq_false k1, eq_false k2]; rfl) ?_ | ((first | (apply AWpA.region; (focus (simp (maxSteps := 9999999) (disch := omega) only [go_sem, g1, hlen, hat, PtC, hr, s.ren, s.seg, s.noAny, eq_false k0, eq_false k1, eq_false k2]; rfl))) | (apply AWpA.draw [1, 2] follows; (focus (simp (maxSteps := 9999999) (disch := omega) only [go_sem, g1, hlen, hat, PtC, hr, s.ren, s.seg, s.noAny, eq_false k0, eq_false k1, eq_false k2]; rfl)); (focus (simp (maxSteps := 9999999) (disch := omega) only [go_sem, g1, hlen, hat, PtC, hr, s.ren, s.seg, s.noAny, eq_false k0, eq_false k1, eq_false k2]; first | done | trivial)); (focus (simp (maxSteps := 9999999) (disch := omega) only [go_sem, g1, hlen, hat, PtC, hr, s.ren, s.seg, s.noAny, eq_false k0, eq_false k1, eq_false k2]; rfl))) | (apply TailK.go; (focus (simp (maxSteps := 9999999) (disch := omega) only [go_sem, g1, hlen, hat, PtC, hr, s.ren, s.seg, s.noAny, eq_false k0, eq_false k1, eq_false k2]; rfl))) | refine AWpA.skip ?_ | refine AWpA.exit ?_ | refine AWpA.ret ?_ | (with_reducible refine ARoundsA.succ ?_) | ((first | refine Runs.kt (by assumption) (fun h9 => ?_) | refine Runs.kf (by assumption) (fun h9 => ?_) | refine Runs.nt (by assumption) (fun h9 => ?_) | refine Runs.nf (by assumption) (fun h9 => ?_) | refine CondP.ht (by assumption) (fun h9 => ?_) | refine CondP.hf (by assumption) (fun h9 => ?_) | refine CondP.nt (by assumption) (fun h9 => ?_) | refine CondP.nf (by assumption) (fun h9 => ?_)); (try simp only [h9]); clear h9) | ((first | (with_reducible apply CallG.plain1 [1, 2, 244, 83] (hraw)) | (with_reducible apply CallG.draw1 [1, 2, 244, 83] (hraw))); (focus ((try refine And.intro (leAs_of_eq rfl) ?_); (try refine And.intro (leOL_of_eq rfl) ?_); simp (maxSteps := 9999999) (disch := omega) only [go_sem, g1, hlen, hat, PtC, hr, s.ren, s.seg, s.noAny, eq_false k0, eq_false k1, eq_false k2]; first | done | (repeat' (first | rfl | (refine And.intro ?_ ?_))))); (focus (simp (maxSteps := 9999999) (disch := omega) only [go_sem, g1, hlen, hat, PtC, hr, s.ren, s.seg, s.noAny, eq_false k0, eq_false k1, eq_false k2]; rfl)))); (try simp (maxSteps := 9999999) (disch := omega) only [go_sem, g1, hlen, hat, PtC, hr, s.ren, s.seg, s.noAny, eq_false k0, eq_false k1, eq_false k2]); (try (refine And.intro ?_ ?_; (focus (first | omega | (simp only [go_sem]; done) | (simp; done) | (simp; omega) | assumption))))) | ((first | refine CondP.split (fun hif => ?_) (fun hif => ?_) | refine Runs.part (fun hif => ?_) (fun hif => ?_)) <;> ((try simp only [hif]); (try simp only [decide_eq_true_eq, decide_eq_false_iff_not, Bool.not_eq_true, Bool.not_eq_false, Bool.not_eq_true', Bool.not_eq_false', beq_iff_eq, bne_iff_ne, bne_eq_false_iff_eq, beq_eq_false_iff_ne, ne_eq, Bool.and_eq_true, Bool.or_eq_true, Bool.or_eq_false_iff] at hif); (try (have h9 : _ = true := hif; simp only [h9])); (try (have h9 : _ = false := hif; simp only [h9])); (try simp (maxSteps := 9999999) (disch := omega) only [go_sem, g1, hlen, hat, PtC, hr, s.ren, s.seg, s.noAny, eq_false k0, eq_false k1, eq_false k2]); (try (refine And.intro ?_ ?_; (focus (first | omega | (simp only [go_sem]; done) | (simp; done) | (simp; omega) | assumption)))); (try (exfalso; omega; done))))))
    (apply Back.to (i + 1, _, _) [0, 1, _]; (focus ((try simp (maxSteps := 9999999) (disch := omega) only [go_sem, hr]); first | done | omega)); rotate_left; (focus (simp (maxSteps := 9999999) (disch := omega) only [go_sem, hr]; (try (repeat' (first | done | trivial | rfl | exact leAs_rfl _ | decide | (refine And.intro ?_ ?_) | (simp; done) | omega | (simp; decide)))))))
    all_goals (first | exact ⟨hil, hnext⟩ | omega)
  obtain rfl : i = ts.length := by omega
  have hl : l.length ≤ 1099511627776 := by have := hinv.1; omega
  cases he : (e == 0) with
  | false =>
    have he' : (e != 0) = true := by simpa [bne] using he
    (repeat' (first | refine AWpA.seq ?_ | refine AWpA.block ?_ | (with_reducible refine CondP.tt ?_) | (with_reducible refine CondP.ff ?_) | refine AWpA.condv (by simp (maxSteps := 9999999) (disch := omega) only [go_sem, hr, he']; rfl) ?_ | ((first | (apply AWpA.region; (focus (simp (maxSteps := 9999999) (disch := omega) only [go_sem, hr, he']; rfl))) | (apply AWpA.draw [] follows; (focus (simp (maxSteps := 9999999) (disch := omega) only [go_sem, hr, he']; rfl)); (focus (simp (maxSteps := 9999999) (disch := omega) only [go_sem, hr, he']; first | done | trivial)); (focus (simp (maxSteps := 9999999) (disch := omega) only [go_sem, hr, he']; rfl))) | (apply TailK.go; (focus (simp (maxSteps := 9999999) (disch := omega) only [go_sem, hr, he']; rfl))) | refine AWpA.skip ?_ | refine AWpA.exit ?_ | refine AWpA.ret ?_ | (with_reducible refine ARoundsA.succ ?_) | ((first | refine Runs.kt (by assumption) (fun h9 => ?_) | refine Runs.kf (by assumption) (fun h9 => ?_) | refine Runs.nt (by assumption) (fun h9 => ?_) | refine Runs.nf (by assumption) (fun h9 => ?_) | refine CondP.ht (by assumption) (fun h9 => ?_) | refine CondP.hf (by assumption) (fun h9 => ?_) | refine CondP.nt (by assumption) (fun h9 => ?_) | refine CondP.nf (by assumption) (fun h9 => ?_)); (try simp only [h9]); clear h9) | ((first | (with_reducible apply CallG.plain1 [1] (werr_any e)) | (with_reducible apply CallG.draw1 [1] (werr_any e))); (focus ((try refine And.intro (leAs_of_eq rfl) ?_); (try refine And.intro (leOL_of_eq rfl) ?_); simp (maxSteps := 9999999) (disch := omega) only [go_sem, hr, he']; first | done | (repeat' (first | rfl | (refine And.intro ?_ ?_))))); (focus (simp (maxSteps := 9999999) (disch := omega) only [go_sem, hr, he']; rfl)))); (try simp (maxSteps := 9999999) (disch := omega) only [go_sem, hr, he']); (try (refine And.intro ?_ ?_; (focus (first | omega | (simp only [go_sem]; done) | (simp; done) | (simp; omega) | assumption))))) | ((first | refine CondP.split (fun hif => ?_) (fun hif => ?_) | refine Runs.part (fun hif => ?_) (fun hif => ?_)) <;> ((try simp only [hif]); (try simp only [decide_eq_true_eq, decide_eq_false_iff_not, Bool.not_eq_true, Bool.not_eq_false, Bool.not_eq_true', Bool.not_eq_false', beq_iff_eq, bne_iff_ne, bne_eq_false_iff_eq, beq_eq_false_iff_ne, ne_eq, Bool.and_eq_true, Bool.or_eq_true, Bool.or_eq_false_iff] at hif); (try (have h9 : _ = true := hif; simp only [h9])); (try (have h9 : _ = false := hif; simp only [h9])); (try simp (maxSteps := 9999999) (disch := omega) only [go_sem, hr, he']); (try (refine And.intro ?_ ?_; (focus (first | omega | (simp only [go_sem]; done) | (simp; done) | (simp; omega) | assumption)))); (try (exfalso; omega; done))))))
    (refine TopPost.of (by first | exact .inl rfl | exact .inr rfl) (by simp (maxSteps := 9999999) (disch := omega) only [go_sem]; rfl) ?_; simp (maxSteps := 9999999) (disch := omega) only [go_sem]; (try (first | trivial | decide | (simp; done))))
  | true =>
    obtain rfl : e = 0 := by simpa using he
    obtain ⟨hK, hL⟩ := hinv.2 rfl
    rw [List.take_length] at hK hL
    have hby : bytesB l := by rw [hL]; exact flat_bytes fun p hp => ⟨hK p hp, (hall p hp).b.all⟩
    (repeat' (first | refine AWpA.seq ?_ | refine AWpA.block ?_ | (with_reducible refine CondP.tt ?_) | (with_reducible refine CondP.ff ?_) | refine AWpA.condv (by simp (maxSteps := 9999999) (disch := omega) only [go_sem, hr]; rfl) ?_ | ((first | (apply AWpA.region; (focus (simp (maxSteps := 9999999) (disch := omega) only [go_sem, hr]; rfl))) | (apply AWpA.draw [] follows; (focus (simp (maxSteps := 9999999) (disch := omega) only [go_sem, hr]; rfl)); (focus (simp (maxSteps := 9999999) (disch := omega) only [go_sem, hr]; first | done | trivial)); (focus (simp (maxSteps := 9999999) (disch := omega) only [go_sem, hr]; rfl))) | (apply TailK.go; (focus (simp (maxSteps := 9999999) (disch := omega) only [go_sem, hr]; rfl))) | refine AWpA.skip ?_ | refine AWpA.exit ?_ | refine AWpA.ret ?_ | (with_reducible refine ARoundsA.succ ?_) | ((first | refine Runs.kt (by assumption) (fun h9 => ?_) | refine Runs.kf (by assumption) (fun h9 => ?_) | refine Runs.nt (by assumption) (fun h9 => ?_) | refine Runs.nf (by assumption) (fun h9 => ?_) | refine CondP.ht (by assumption) (fun h9 => ?_) | refine CondP.hf (by assumption) (fun h9 => ?_) | refine CondP.nt (by assumption) (fun h9 => ?_) | refine CondP.nf (by assumption) (fun h9 => ?_)); (try simp only [h9]); clear h9) | ((first | (with_reducible apply CallG.plain1 [1] (werr_any 0)) | (with_reducible apply CallG.plain1 [1, 2] (bytes_any l 0 hl)) | (with_reducible apply CallG.plain1 [_] (read_any (Seg.all l hl))) | (with_reducible apply CallG.draw1 [1] (werr_any 0)) | (with_reducible apply CallG.draw1 [1, 2] (bytes_any l 0 hl)) | (with_reducible apply CallG.draw1 [_] (read_any (Seg.all l hl)))); (focus ((try refine And.intro (leAs_of_eq rfl) ?_); (try refine And.intro (leOL_of_eq rfl) ?_); simp (maxSteps := 9999999) (disch := omega) only [go_sem, hr]; first | done | (repeat' (first | rfl | (refine And.intro ?_ ?_))))); (focus (simp (maxSteps := 9999999) (disch := omega) only [go_sem, hr]; rfl)))); (try simp (maxSteps := 9999999) (disch := omega) only [go_sem, hr]); (try (refine And.intro ?_ ?_; (focus (first | omega | (simp only [go_sem]; done) | (simp; done) | (simp; omega) | assumption))))) | ((first | refine CondP.split (fun hif => ?_) (fun hif => ?_) | refine Runs.part (fun hif => ?_) (fun hif => ?_)) <;> ((try simp only [hif]); (try simp only [decide_eq_true_eq, decide_eq_false_iff_not, Bool.not_eq_true, Bool.not_eq_false, Bool.not_eq_true', Bool.not_eq_false', beq_iff_eq, bne_iff_ne, bne_eq_false_iff_eq, beq_eq_false_iff_ne, ne_eq, Bool.and_eq_true, Bool.or_eq_true, Bool.or_eq_false_iff] at hif); (try (have h9 : _ = true := hif; simp only [h9])); (try (have h9 : _ = false := hif; simp only [h9])); (try simp (maxSteps := 9999999) (disch := omega) only [go_sem, hr]); (try (refine And.intro ?_ ?_; (focus (first | omega | (simp only [go_sem]; done) | (simp; done) | (simp; omega) | assumption)))); (try (exfalso; omega; done))))))
    (apply AWpA.loopL (fun k : Nat => [(6, .ptr 1 0), (56, .sl 0 off ts.length 4 none), (57, I ts.length), (58, I k)]) (fun k => [.cells true (rowsC off PtC ts), RdO 2 ((ts.take k).flatMap ptX).length l.length 0, .cells false (bA l)]) (fun k => ts.length - k) (fun k => k ≤ ts.length) (0) [0, _, _]; rotate_left; (focus (simp (maxSteps := 9999999) (disch := omega) only [go_sem, hr, List.take_zero, List.flatMap_nil, List.length_nil, Nat.sub_zero]; (try (repeat' (first | done | trivial | rfl | exact leAs_rfl _ | decide | (refine And.intro ?_ ?_) | (simp; done) | omega | (simp; decide)))))); rotate_right)
    · exact Nat.zero_le _
    rintro i hi
    (try simp only at hi)
    have hale : ((ts.take i).flatMap ptX).length ≤ l.length := by rw [hL]; exact flat_le ts i
    by_cases hil : i < ts.length
    · have hat := rowsC_at (off := off) (f := PtC) (k := 4) (fun _ => rfl) ts i hil
      have hok := hall ts[i] (List.getElem_mem _)
      have h3 := h300 ts[i] (List.getElem_mem _)
      have hK := hK ts[i] (List.getElem_mem _)
      have hdr := drop_flat hil
      have hln := len_flat hil
      rw [← hL] at hdr
      generalize ts[i] = p at hat hok h3 hK hdr hln
      obtain ⟨pk, pw, pv, ⟨pad, poff, pcap, B⟩⟩ := p
      have hzp := hok.b.fz
      have hB : bytesB B := hok.b.all
      have hv : 0 ≤ pv ∧ pv < 18446744073709551616 := by
        have h := hok.v
        simp only [IntKind.min, IntKind.max, IntKind.signed, IntKind.bits] at h
        simp at h
        omega
      simp only at hzp h3 hat
      have s := Seg.rows (off := poff) (l := B) (by omega)
      generalize hP : rowsC poff (fun n : Int => [.val (.int .u8 n)]) B = P at s
      have hle := s.le
      have g1 : ((i : Int) < (ts.length : Int)) = True := eq_true (by omega)
      generalize hA : ((ts.take i).flatMap ptX).length = A at hdr hln hale
      generalize (ts.drop (i + 1)).flatMap ptX = r at hdr
      by_cases k0 : pk = 0
      · subst k0
        simp only [ptK, ptX, if_true] at hK hdr hln
        obtain ⟨hw, hf⟩ := numK_zero hK
        obtain ⟨q1, q2⟩ := read_num hdr hw hf hv.1
        have hn := rnum_any hl hby ⟨A, 0⟩ hale pw
        rw [q1, q2] at hn
        rw [leI_len] at hln
        simp only at hn
        (repeat' (first | (refine AWpA.thawO 51 3 (fun n : Int => [.val (.int .u8 n)]) hzp (fun _ => rfl) rfl rfl rfl ?_; (try simp only [hP, List.set_cons_zero, List.set_cons_succ]); (try simp (maxSteps := 9999999) (disch := omega) only [go_sem, g1, hlen, hat, PtC, hr, s.ren, s.seg, s.noAny, hA])) | refine AWpA.seq ?_ | refine AWpA.block ?_ | (with_reducible refine CondP.tt ?_) | (with_reducible refine CondP.ff ?_) | refine AWpA.condv (by simp (maxSteps := 9999999) (disch := omega) only [go_sem, g1, hlen, hat, PtC, hr, s.ren, s.seg, s.noAny, hA]; rfl) ?_ | ((first | (apply AWpA.region; (focus (simp (maxSteps := 9999999) (disch := omega) only [go_sem, g1, hlen, hat, PtC, hr, s.ren, s.seg, s.noAny, hA]; rfl))) | (apply AWpA.draw [1] follows; (focus (simp (maxSteps := 9999999) (disch := omega) only [go_sem, g1, hlen, hat, PtC, hr, s.ren, s.seg, s.noAny, hA]; rfl)); (focus (simp (maxSteps := 9999999) (disch := omega) only [go_sem, g1, hlen, hat, PtC, hr, s.ren, s.seg, s.noAny, hA]; first | done | trivial)); (focus (simp (maxSteps := 9999999) (disch := omega) only [go_sem, g1, hlen, hat, PtC, hr, s.ren, s.seg, s.noAny, hA]; rfl))) | (apply TailK.go; (focus (simp (maxSteps := 9999999) (disch := omega) only [go_sem, g1, hlen, hat, PtC, hr, s.ren, s.seg, s.noAny, hA]; rfl))) | refine AWpA.skip ?_ | refine AWpA.exit ?_ | refine AWpA.ret ?_ | (with_reducible refine ARoundsA.succ ?_) | ((first | refine Runs.kt (by assumption) (fun h9 => ?_) | refine Runs.kf (by assumption) (fun h9 => ?_) | refine Runs.nt (by assumption) (fun h9 => ?_) | refine Runs.nf (by assumption) (fun h9 => ?_) | refine CondP.ht (by assumption) (fun h9 => ?_) | refine CondP.hf (by assumption) (fun h9 => ?_) | refine CondP.nt (by assumption) (fun h9 => ?_) | refine CondP.nf (by assumption) (fun h9 => ?_)); (try simp only [h9]); clear h9) | ((first | (with_reducible apply CallG.plain1 [1, 2] (hn)) | (with_reducible apply CallG.draw1 [1, 2] (hn))); (focus ((try refine And.intro (leAs_of_eq rfl) ?_); (try refine And.intro (leOL_of_eq rfl) ?_); simp (maxSteps := 9999999) (disch := omega) only [go_sem, g1, hlen, hat, PtC, hr, s.ren, s.seg, s.noAny, hA]; first | done | (repeat' (first | rfl | (refine And.intro ?_ ?_))))); (focus (simp (maxSteps := 9999999) (disch := omega) only [go_sem, g1, hlen, hat, PtC, hr, s.ren, s.seg, s.noAny, hA]; rfl)))); (try simp (maxSteps := 9999999) (disch := omega) only [go_sem, g1, hlen, hat, PtC, hr, s.ren, s.seg, s.noAny, hA]); (try (refine And.intro ?_ ?_; (focus (first | omega | (simp only [go_sem]; done) | (simp; done) | (simp; omega) | assumption))))) | ((first | refine CondP.split (fun hif => ?_) (fun hif => ?_) | refine Runs.part (fun hif => ?_) (fun hif => ?_)) <;> ((try simp only [hif]); (try simp only [decide_eq_true_eq, decide_eq_false_iff_not, Bool.not_eq_true, Bool.not_eq_false, Bool.not_eq_true', Bool.not_eq_false', beq_iff_eq, bne_iff_ne, bne_eq_false_iff_eq, beq_eq_false_iff_ne, ne_eq, Bool.and_eq_true, Bool.or_eq_true, Bool.or_eq_false_iff] at hif); (try (have h9 : _ = true := hif; simp only [h9])); (try (have h9 : _ = false := hif; simp only [h9])); (try simp (maxSteps := 9999999) (disch := omega) only [go_sem, g1, hlen, hat, PtC, hr, s.ren, s.seg, s.noAny, hA]); (try (refine And.intro ?_ ?_; (focus (first | omega | (simp only [go_sem]; done) | (simp; done) | (simp; omega) | assumption)))); (try (exfalso; omega; done))))))
        (apply Back.to (i + 1) [0, 1, 2]; (focus ((try simp (maxSteps := 9999999) (disch := omega) only [go_sem, hr, hln]); first | done | omega)); rotate_left; (focus (simp (maxSteps := 9999999) (disch := omega) only [go_sem, hr, hln]; (try (repeat' (first | done | trivial | rfl | exact leAs_rfl _ | decide | (refine And.intro ?_ ?_) | (simp; done) | omega | (simp; decide)))))))
        all_goals (first | exact hil | omega)
      by_cases k1 : pk = 1
      · subst k1
        simp only [ptK, ptX, if_neg k0, if_true] at hK hdr hln
        obtain ⟨q1, q2⟩ := read_flag hdr
        have hn := rflag_any hl ⟨A, 0⟩ hale
        rw [q1, q2] at hn
        simp only [List.length_cons, List.length_nil, Nat.zero_add] at hn hln
        (repeat' (first | (refine AWpA.thawO 51 3 (fun n : Int => [.val (.int .u8 n)]) hzp (fun _ => rfl) rfl rfl rfl ?_; (try simp only [hP, List.set_cons_zero, List.set_cons_succ]); (try simp (maxSteps := 9999999) (disch := omega) only [go_sem, g1, hlen, hat, PtC, hr, s.ren, s.seg, s.noAny, hA])) | refine AWpA.seq ?_ | refine AWpA.block ?_ | (with_reducible refine CondP.tt ?_) | (with_reducible refine CondP.ff ?_) | refine AWpA.condv (by simp (maxSteps := 9999999) (disch := omega) only [go_sem, g1, hlen, hat, PtC, hr, s.ren, s.seg, s.noAny, hA]; rfl) ?_ | ((first | (apply AWpA.region; (focus (simp (maxSteps := 9999999) (disch := omega) only [go_sem, g1, hlen, hat, PtC, hr, s.ren, s.seg, s.noAny, hA]; rfl))) | (apply AWpA.draw [1] follows; (focus (simp (maxSteps := 9999999) (disch := omega) only [go_sem, g1, hlen, hat, PtC, hr, s.ren, s.seg, s.noAny, hA]; rfl)); (focus (simp (maxSteps := 9999999) (disch := omega) only [go_sem, g1, hlen, hat, PtC, hr, s.ren, s.seg, s.noAny, hA]; first | done | trivial)); (focus (simp (maxSteps := 9999999) (disch := omega) only [go_sem, g1, hlen, hat, PtC, hr, s.ren, s.seg, s.noAny, hA]; rfl))) | (apply TailK.go; (focus (simp (maxSteps := 9999999) (disch := omega) only [go_sem, g1, hlen, hat, PtC, hr, s.ren, s.seg, s.noAny, hA]; rfl))) | refine AWpA.skip ?_ | refine AWpA.exit ?_ | refine AWpA.ret ?_ | (with_reducible refine ARoundsA.succ ?_) | ((first | refine Runs.kt (by assumption) (fun h9 => ?_) | refine Runs.kf (by assumption) (fun h9 => ?_) | refine Runs.nt (by assumption) (fun h9 => ?_) | refine Runs.nf (by assumption) (fun h9 => ?_) | refine CondP.ht (by assumption) (fun h9 => ?_) | refine CondP.hf (by assumption) (fun h9 => ?_) | refine CondP.nt (by assumption) (fun h9 => ?_) | refine CondP.nf (by assumption) (fun h9 => ?_)); (try simp only [h9]); clear h9) | ((first | (with_reducible apply CallG.plain1 [1, 2] (hn)) | (with_reducible apply CallG.draw1 [1, 2] (hn))); (focus ((try refine And.intro (leAs_of_eq rfl) ?_); (try refine And.intro (leOL_of_eq rfl) ?_); simp (maxSteps := 9999999) (disch := omega) only [go_sem, g1, hlen, hat, PtC, hr, s.ren, s.seg, s.noAny, hA]; first | done | (repeat' (first | rfl | (refine And.intro ?_ ?_))))); (focus (simp (maxSteps := 9999999) (disch := omega) only [go_sem, g1, hlen, hat, PtC, hr, s.ren, s.seg, s.noAny, hA]; rfl)))); (try simp (maxSteps := 9999999) (disch := omega) only [go_sem, g1, hlen, hat, PtC, hr, s.ren, s.seg, s.noAny, hA]); (try (refine And.intro ?_ ?_; (focus (first | omega | (simp only [go_sem]; done) | (simp; done) | (simp; omega) | assumption))))) | ((first | refine CondP.split (fun hif => ?_) (fun hif => ?_) | refine Runs.part (fun hif => ?_) (fun hif => ?_)) <;> ((try simp only [hif]); (try simp only [decide_eq_true_eq, decide_eq_false_iff_not, Bool.not_eq_true, Bool.not_eq_false, Bool.not_eq_true', Bool.not_eq_false', beq_iff_eq, bne_iff_ne, bne_eq_false_iff_eq, beq_eq_false_iff_ne, ne_eq, Bool.and_eq_true, Bool.or_eq_true, Bool.or_eq_false_iff] at hif); (try (have h9 : _ = true := hif; simp only [h9])); (try (have h9 : _ = false := hif; simp only [h9])); (try simp (maxSteps := 9999999) (disch := omega) only [go_sem, g1, hlen, hat, PtC, hr, s.ren, s.seg, s.noAny, hA]); (try (refine And.intro ?_ ?_; (focus (first | omega | (simp only [go_sem]; done) | (simp; done) | (simp; omega) | assumption)))); (try (exfalso; omega; done))))))
        (apply Back.to (i + 1) [0, 1, 2]; (focus ((try simp (maxSteps := 9999999) (disch := omega) only [go_sem, hr, hln]); first | done | omega)); rotate_left; (focus (simp (maxSteps := 9999999) (disch := omega) only [go_sem, hr, hln]; (try (repeat' (first | done | trivial | rfl | exact leAs_rfl _ | decide | (refine And.intro ?_ ?_) | (simp; done) | omega | (simp; decide)))))))
        all_goals (first | exact hil | omega)
      by_cases k2 : pk = 2
      · subst k2
        simp only [ptK, ptX, if_neg k0, if_neg k1, if_true] at hK hdr hln
        obtain ⟨q1, q2⟩ := read_text hdr (textK_zero hK)
        have hn := rtext_any hl hby ⟨A, 0⟩ hale 255
        rw [q1, q2] at hn
        rw [List.length_cons, Nat.add_comm B.length 1] at hln
        simp only [baI] at hn
        (repeat' (first | (refine AWpA.thawO 51 3 (fun n : Int => [.val (.int .u8 n)]) hzp (fun _ => rfl) rfl rfl rfl ?_; (try simp only [hP, List.set_cons_zero, List.set_cons_succ]); (try simp (maxSteps := 9999999) (disch := omega) only [go_sem, g1, hlen, hat, PtC, hr, s.ren, s.seg, s.noAny, hA])) | refine AWpA.seq ?_ | refine AWpA.block ?_ | (with_reducible refine CondP.tt ?_) | (with_reducible refine CondP.ff ?_) | refine AWpA.condv (by simp (maxSteps := 9999999) (disch := omega) only [go_sem, g1, hlen, hat, PtC, hr, s.ren, s.seg, s.noAny, hA]; rfl) ?_ | ((first | (apply AWpA.region; (focus (simp (maxSteps := 9999999) (disch := omega) only [go_sem, g1, hlen, hat, PtC, hr, s.ren, s.seg, s.noAny, hA]; rfl))) | (apply AWpA.draw [1] follows; (focus (simp (maxSteps := 9999999) (disch := omega) only [go_sem, g1, hlen, hat, PtC, hr, s.ren, s.seg, s.noAny, hA]; rfl)); (focus (simp (maxSteps := 9999999) (disch := omega) only [go_sem, g1, hlen, hat, PtC, hr, s.ren, s.seg, s.noAny, hA]; first | done | trivial)); (focus (simp (maxSteps := 9999999) (disch := omega) only [go_sem, g1, hlen, hat, PtC, hr, s.ren, s.seg, s.noAny, hA]; rfl))) | (apply TailK.go; (focus (simp (maxSteps := 9999999) (disch := omega) only [go_sem, g1, hlen, hat, PtC, hr, s.ren, s.seg, s.noAny, hA]; rfl))) | refine AWpA.skip ?_ | refine AWpA.exit ?_ | refine AWpA.ret ?_ | (with_reducible refine ARoundsA.succ ?_) | ((first | refine Runs.kt (by assumption) (fun h9 => ?_) | refine Runs.kf (by assumption) (fun h9 => ?_) | refine Runs.nt (by assumption) (fun h9 => ?_) | refine Runs.nf (by assumption) (fun h9 => ?_) | refine CondP.ht (by assumption) (fun h9 => ?_) | refine CondP.hf (by assumption) (fun h9 => ?_) | refine CondP.nt (by assumption) (fun h9 => ?_) | refine CondP.nf (by assumption) (fun h9 => ?_)); (try simp only [h9]); clear h9) | ((first | (with_reducible apply CallG.plain1 [1, 2] (hn)) | (with_reducible apply CallG.draw1 [1, 2] (hn))); (focus ((try refine And.intro (leAs_of_eq rfl) ?_); (try refine And.intro (leOL_of_eq rfl) ?_); simp (maxSteps := 9999999) (disch := omega) only [go_sem, g1, hlen, hat, PtC, hr, s.ren, s.seg, s.noAny, hA]; first | done | (repeat' (first | rfl | (refine And.intro ?_ ?_))))); (focus (simp (maxSteps := 9999999) (disch := omega) only [go_sem, g1, hlen, hat, PtC, hr, s.ren, s.seg, s.noAny, hA]; rfl)))); (try simp (maxSteps := 9999999) (disch := omega) only [go_sem, g1, hlen, hat, PtC, hr, s.ren, s.seg, s.noAny, hA]); (try (refine And.intro ?_ ?_; (focus (first | omega | (simp only [go_sem]; done) | (simp; done) | (simp; omega) | assumption))))) | ((first | refine CondP.split (fun hif => ?_) (fun hif => ?_) | refine Runs.part (fun hif => ?_) (fun hif => ?_)) <;> ((try simp only [hif]); (try simp only [decide_eq_true_eq, decide_eq_false_iff_not, Bool.not_eq_true, Bool.not_eq_false, Bool.not_eq_true', Bool.not_eq_false', beq_iff_eq, bne_iff_ne, bne_eq_false_iff_eq, beq_eq_false_iff_ne, ne_eq, Bool.and_eq_true, Bool.or_eq_true, Bool.or_eq_false_iff] at hif); (try (have h9 : _ = true := hif; simp only [h9])); (try (have h9 : _ = false := hif; simp only [h9])); (try simp (maxSteps := 9999999) (disch := omega) only [go_sem, g1, hlen, hat, PtC, hr, s.ren, s.seg, s.noAny, hA]); (try (refine And.intro ?_ ?_; (focus (first | omega | (simp only [go_sem]; done) | (simp; done) | (simp; omega) | assumption)))); (try (exfalso; omega; done))))))
        (apply Back.to (i + 1) [0, 1, 2]; (focus ((try simp (maxSteps := 9999999) (disch := omega) only [go_sem, hr, hln]); first | done | omega)); rotate_left; (focus (simp (maxSteps := 9999999) (disch := omega) only [go_sem, hr, hln]; (try (repeat' (first | done | trivial | rfl | exact leAs_rfl _ | decide | (refine And.intro ?_ ?_) | (simp; done) | omega | (simp; decide)))))))
        all_goals (first | exact hil | omega)
      simp only [ptK, ptX, if_neg k0, if_neg k1, if_neg k2] at hK hdr hln
      obtain ⟨-, q1, q2⟩ := rawOk_of hdr rfl
      have hn := rraw_any A l hale hl 0 (B.length : Int)
      simp only [rawC, rawV, Cu.left, Cu.mk.injEq] at q1 q2
      rw [q1.1, q1.2, q2] at hn
      have hsm := same_any (Seg.all B (by omega)) s
      rw [ba_self] at hsm
      (repeat' (first | (refine AWpA.thawO 51 3 (fun n : Int => [.val (.int .u8 n)]) hzp (fun _ => rfl) rfl rfl rfl ?_; (try simp only [hP, List.set_cons_zero, List.set_cons_succ]); (try simp (maxSteps := 9999999) (disch := omega) only [go_sem, g1, hlen, hat, PtC, hr, s.ren, s.seg, s.noAny, hA, eq_false k0, eq_false k1, eq_false k2])) | refine AWpA.seq ?_ | refine AWpA.block ?_ | (with_reducible refine CondP.tt ?_) | (with_reducible refine CondP.ff ?_) | refine AWpA.condv (by simp (maxSteps := 9999999) (disch := omega) only [go_sem, g1, hlen, hat, PtC, hr, s.ren, s.seg, s.noAny, hA, eq_false k0, eq_false k1, eq_false k2]; rfl) ?_ | ((first | (apply AWpA.region; (focus (simp (maxSteps := 9999999) (disch := omega) only [go_sem, g1, hlen, hat, PtC, hr, s.ren, s.seg, s.noAny, hA, eq_false k0, eq_false k1, eq_false k2]; rfl))) | (apply AWpA.draw [1] follows; (focus (simp (maxSteps := 9999999) (disch := omega) only [go_sem, g1, hlen, hat, PtC, hr, s.ren, s.seg, s.noAny, hA, eq_false k0, eq_false k1, eq_false k2]; rfl)); (focus (simp (maxSteps := 9999999) (disch := omega) only [go_sem, g1, hlen, hat, PtC, hr, s.ren, s.seg, s.noAny, hA, eq_false k0, eq_false k1, eq_false k2]; first | done | trivial)); (focus (simp (maxSteps := 9999999) (disch := omega) only [go_sem, g1, hlen, hat, PtC, hr, s.ren, s.seg, s.noAny, hA, eq_false k0, eq_false k1, eq_false k2]; rfl))) | (apply TailK.go; (focus (simp (maxSteps := 9999999) (disch := omega) only [go_sem, g1, hlen, hat, PtC, hr, s.ren, s.seg, s.noAny, hA, eq_false k0, eq_false k1, eq_false k2]; rfl))) | refine AWpA.skip ?_ | refine AWpA.exit ?_ | refine AWpA.ret ?_ | (with_reducible refine ARoundsA.succ ?_) | ((first | refine Runs.kt (by assumption) (fun h9 => ?_) | refine Runs.kf (by assumption) (fun h9 => ?_) | refine Runs.nt (by assumption) (fun h9 => ?_) | refine Runs.nf (by assumption) (fun h9 => ?_) | refine CondP.ht (by assumption) (fun h9 => ?_) | refine CondP.hf (by assumption) (fun h9 => ?_) | refine CondP.nt (by assumption) (fun h9 => ?_) | refine CondP.nf (by assumption) (fun h9 => ?_)); (try simp only [h9]); clear h9) | ((first | (with_reducible apply CallG.plain1 [1, 2] (hn)) | (with_reducible apply CallG.plain1 [_, _] (hsm)) | (with_reducible apply CallG.draw1 [1, 2] (hn)) | (with_reducible apply CallG.draw1 [_, _] (hsm))); (focus ((try refine And.intro (leAs_of_eq rfl) ?_); (try refine And.intro (leOL_of_eq rfl) ?_); simp (maxSteps := 9999999) (disch := omega) only [go_sem, g1, hlen, hat, PtC, hr, s.ren, s.seg, s.noAny, hA, eq_false k0, eq_false k1, eq_false k2]; first | done | (repeat' (first | rfl | (refine And.intro ?_ ?_))))); (focus (simp (maxSteps := 9999999) (disch := omega) only [go_sem, g1, hlen, hat, PtC, hr, s.ren, s.seg, s.noAny, hA, eq_false k0, eq_false k1, eq_false k2]; rfl)))); (try simp (maxSteps := 9999999) (disch := omega) only [go_sem, g1, hlen, hat, PtC, hr, s.ren, s.seg, s.noAny, hA, eq_false k0, eq_false k1, eq_false k2]); (try (refine And.intro ?_ ?_; (focus (first | omega | (simp only [go_sem]; done) | (simp; done) | (simp; omega) | assumption))))) | ((first | refine CondP.split (fun hif => ?_) (fun hif => ?_) | refine Runs.part (fun hif => ?_) (fun hif => ?_)) <;> ((try simp only [hif]); (try simp only [decide_eq_true_eq, decide_eq_false_iff_not, Bool.not_eq_true, Bool.not_eq_false, Bool.not_eq_true', Bool.not_eq_false', beq_iff_eq, bne_iff_ne, bne_eq_false_iff_eq, beq_eq_false_iff_ne, ne_eq, Bool.and_eq_true, Bool.or_eq_true, Bool.or_eq_false_iff] at hif); (try (have h9 : _ = true := hif; simp only [h9])); (try (have h9 : _ = false := hif; simp only [h9])); (try simp (maxSteps := 9999999) (disch := omega) only [go_sem, g1, hlen, hat, PtC, hr, s.ren, s.seg, s.noAny, hA, eq_false k0, eq_false k1, eq_false k2]); (try (refine And.intro ?_ ?_; (focus (first | omega | (simp only [go_sem]; done) | (simp; done) | (simp; omega) | assumption)))); (try (exfalso; omega; done))))))
      (apply Back.to (i + 1) [0, 1, 2]; (focus ((try simp (maxSteps := 9999999) (disch := omega) only [go_sem, hr, hln]); first | done | omega)); rotate_left; (focus (simp (maxSteps := 9999999) (disch := omega) only [go_sem, hr, hln]; (try (repeat' (first | done | trivial | rfl | exact leAs_rfl _ | decide | (refine And.intro ?_ ?_) | (simp; done) | omega | (simp; decide)))))))
      all_goals (first | exact hil | omega)
    obtain rfl : i = ts.length := by omega
    rw [List.take_length, ← hL]
    have hd := rdone_any l ⟨l.length, 0⟩
    have e1 : doneC l ⟨l.length, 0⟩ = ⟨l.length, 0⟩ := by simp [doneC, doneE]
    rw [e1] at hd
    (repeat' (first | refine AWpA.seq ?_ | refine AWpA.block ?_ | (with_reducible refine CondP.tt ?_) | (with_reducible refine CondP.ff ?_) | refine AWpA.condv (by simp (maxSteps := 9999999) (disch := omega) only [go_sem, hr]; rfl) ?_ | ((first | (apply AWpA.region; (focus (simp (maxSteps := 9999999) (disch := omega) only [go_sem, hr]; rfl))) | (apply AWpA.draw [] follows; (focus (simp (maxSteps := 9999999) (disch := omega) only [go_sem, hr]; rfl)); (focus (simp (maxSteps := 9999999) (disch := omega) only [go_sem, hr]; first | done | trivial)); (focus (simp (maxSteps := 9999999) (disch := omega) only [go_sem, hr]; rfl))) | (apply TailK.go; (focus (simp (maxSteps := 9999999) (disch := omega) only [go_sem, hr]; rfl))) | refine AWpA.skip ?_ | refine AWpA.exit ?_ | refine AWpA.ret ?_ | (with_reducible refine ARoundsA.succ ?_) | ((first | refine Runs.kt (by assumption) (fun h9 => ?_) | refine Runs.kf (by assumption) (fun h9 => ?_) | refine Runs.nt (by assumption) (fun h9 => ?_) | refine Runs.nf (by assumption) (fun h9 => ?_) | refine CondP.ht (by assumption) (fun h9 => ?_) | refine CondP.hf (by assumption) (fun h9 => ?_) | refine CondP.nt (by assumption) (fun h9 => ?_) | refine CondP.nf (by assumption) (fun h9 => ?_)); (try simp only [h9]); clear h9) | ((first | (with_reducible apply CallG.plain1 [1, 2] (hd)) | (with_reducible apply CallG.plain1 [1, 2] (left_any l.length l 0)) | (with_reducible apply CallG.draw1 [1, 2] (hd)) | (with_reducible apply CallG.draw1 [1, 2] (left_any l.length l 0))); (focus ((try refine And.intro (leAs_of_eq rfl) ?_); (try refine And.intro (leOL_of_eq rfl) ?_); simp (maxSteps := 9999999) (disch := omega) only [go_sem, hr]; first | done | (repeat' (first | rfl | (refine And.intro ?_ ?_))))); (focus (simp (maxSteps := 9999999) (disch := omega) only [go_sem, hr]; rfl)))); (try simp (maxSteps := 9999999) (disch := omega) only [go_sem, hr]); (try (refine And.intro ?_ ?_; (focus (first | omega | (simp only [go_sem]; done) | (simp; done) | (simp; omega) | assumption))))) | ((first | refine CondP.split (fun hif => ?_) (fun hif => ?_) | refine Runs.part (fun hif => ?_) (fun hif => ?_)) <;> ((try simp only [hif]); (try simp only [decide_eq_true_eq, decide_eq_false_iff_not, Bool.not_eq_true, Bool.not_eq_false, Bool.not_eq_true', Bool.not_eq_false', beq_iff_eq, bne_iff_ne, bne_eq_false_iff_eq, beq_eq_false_iff_ne, ne_eq, Bool.and_eq_true, Bool.or_eq_true, Bool.or_eq_false_iff] at hif); (try (have h9 : _ = true := hif; simp only [h9])); (try (have h9 : _ = false := hif; simp only [h9])); (try simp (maxSteps := 9999999) (disch := omega) only [go_sem, hr]); (try (refine And.intro ?_ ?_; (focus (first | omega | (simp only [go_sem]; done) | (simp; done) | (simp; omega) | assumption)))); (try (exfalso; omega; done))))))
    all_goals (refine TopPost.of (by first | exact .inl rfl | exact .inr rfl) (by simp (maxSteps := 9999999) (disch := omega) only [go_sem, Nat.sub_self]; rfl) ?_; simp (maxSteps := 9999999) (disch := omega) only [go_sem, Nat.sub_self]; (try (first | trivial | decide | (simp; done))))
end Go.Proofs.Yteggjhihpjjloaa
