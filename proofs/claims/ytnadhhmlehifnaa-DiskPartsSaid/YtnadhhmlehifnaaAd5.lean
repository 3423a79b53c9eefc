/- The walk of DiskParts. -/
import Derived.Test.YtnadhhmlehifnaaAd4
namespace Go.Proofs.Ytnadhhmlehifnaa
set_option linter.unusedSimpArgs false
set_option linter.unusedVariables false
set_option maxHeartbeats 4000000
open Go Go.Am Go.RowKit Go.ChangeShapes Go.WideShapes Go.ChangeAt
set_option maxRecDepth 100000
/-- A slice of bytes in a row. -/
abbrev SbC (p : Sl Int) : List AV := [.val (.slice p.ad p.l.length p.cap)]
/- quidnunc/quidnunclaw06.DiskParts -/
noncomputable def c4_1 : ACode := .region false [⟨some 4, .move, [.c (.val (.bool false))], none⟩] [] [] [0, 1] false [] []
noncomputable def c4_4 : ACode := .region false [⟨some 17, .call 13, [], none⟩,
  ⟨some 18, .un .not, [.t 17], none⟩,
  ⟨some 19, .move, [.t 18], none⟩,
  ⟨some 20, .move, [.t 0], some (some 19, false)⟩,
  ⟨some 21, .len, [.t 20], some (some 19, false)⟩,
  ⟨some 22, .bin .gtr, [.t 21, .c (.val (.int .i64 30))], some (some 19, false)⟩,
  ⟨some 23, .pick, [.t 19, .c (.val (.bool true)), .t 22], none⟩] [] [] [0, 1, 23] true [] []
noncomputable def c4_7 : ACode := .region false [⟨some 24, .call 13, [], none⟩,
  ⟨some 4, .move, [.t 24], none⟩] [] [] [4] true [] []
noncomputable def c4_6 : ACode := .seq c4_7 .ret
noncomputable def c4_5 : ACode := .cond (.t 23) c4_6 .skip
noncomputable def c4_3 : ACode := .seq c4_4 c4_5
noncomputable def c4_9 : ACode := .region false [⟨some 25, .call 14, [], none⟩,
  ⟨some 26, .call 14, [], none⟩,
  ⟨some 5, .move, [.t 25], none⟩,
  ⟨some 6, .move, [.t 26], none⟩] [] [] [0, 1, 5, 6] true [] []
noncomputable def c4_12 : ACode := .region false [⟨some 27, .move, [.t 5], none⟩,
  ⟨some 28, .eqP false, [.t 27, .c (.val (.pointer none))], none⟩,
  ⟨some 29, .move, [.t 28], none⟩,
  ⟨some 30, .move, [.t 6], some (some 29, false)⟩,
  ⟨some 31, .eqP false, [.t 30, .c (.val (.pointer none))], some (some 29, false)⟩,
  ⟨some 32, .pick, [.t 29, .c (.val (.bool true)), .t 31], none⟩] [] [] [0, 1, 5, 6, 32] false [] []
noncomputable def c4_15 : ACode := .region false [⟨some 4, .move, [.c (.val (.bool false))], none⟩] [] [] [4] false [] []
noncomputable def c4_14 : ACode := .seq c4_15 .ret
noncomputable def c4_13 : ACode := .cond (.t 32) c4_14 .skip
noncomputable def c4_11 : ACode := .seq c4_12 c4_13
noncomputable def c4_17 : ACode := .region false [⟨some 7, .move, [.c (.val (.slice none 0 0))], none⟩] [] [] [0, 1, 5, 6, 7] false [] []
noncomputable def c4_20 : ACode := .region false [⟨some 33, .move, [.t 0], none⟩,
  ⟨some 34, .len, [.t 33], none⟩,
  ⟨some 35, .move, [.c (.val (.int .i64 0))], none⟩] [] [] [1, 5, 6, 7, 33, 34, 35] false [] []
noncomputable def c4_24 : ACode := .region false [⟨some 36, .bin .lss, [.t 35, .t 34], none⟩] [] [] [1, 5, 6, 7, 33, 34, 35, 36] false [] []
noncomputable def c4_26 : ACode := .cond (.t 36) .skip (.exit 0)
noncomputable def c4_30 : ACode := .region false [⟨some 37, .ixS 1, [.t 33, .t 35], none⟩,
  ⟨some 38, .load false 1, [.t 37], none⟩,
  ⟨some 9, .move, [.t 38], none⟩] [] [] [1, 5, 6, 7, 9, 33, 34, 35] false [] []
noncomputable def c4_33 : ACode := .region false [⟨some 39, .move, [.t 9], none⟩,
  ⟨some 40, .len, [.t 39], none⟩,
  ⟨some 41, .bin .gtr, [.t 40, .c (.val (.int .i64 100))], none⟩] [] [] [1, 5, 6, 7, 9, 33, 34, 35, 41] false [] []
noncomputable def c4_36 : ACode := .region false [⟨some 4, .move, [.c (.val (.bool true))], none⟩] [] [] [4] false [] []
noncomputable def c4_35 : ACode := .seq c4_36 .ret
noncomputable def c4_34 : ACode := .cond (.t 41) c4_35 .skip
noncomputable def c4_32 : ACode := .seq c4_33 c4_34
noncomputable def c4_39 : ACode := .region false [⟨some 42, .move, [.t 5], none⟩,
  ⟨some 43, .move, [.t 9], none⟩,
  ⟨some 44, .call 15, [.t 42, .t 43], none⟩,
  ⟨some 45, .bin .neq, [.t 44, .c (.val (.int .i64 0))], none⟩] [] [] [1, 5, 6, 7, 9, 33, 34, 35, 45] true [] []
noncomputable def c4_42 : ACode := .region false [⟨some 4, .move, [.c (.val (.bool false))], none⟩] [] [] [4] false [] []
noncomputable def c4_41 : ACode := .seq c4_42 .ret
noncomputable def c4_40 : ACode := .cond (.t 45) c4_41 .skip
noncomputable def c4_38 : ACode := .seq c4_39 c4_40
noncomputable def c4_43 : ACode := .region false [⟨some 46, .move, [.t 7], none⟩,
  ⟨some 47, .move, [.t 9], none⟩,
  ⟨some 48, .append 1 1 false, [.t 46, .t 47], none⟩,
  ⟨some 7, .move, [.t 48], none⟩] [] [] [1, 5, 6, 7, 33, 34, 35] true [] []
noncomputable def c4_37 : ACode := .seq c4_38 c4_43
noncomputable def c4_31 : ACode := .seq c4_32 c4_37
noncomputable def c4_29 : ACode := .seq c4_30 c4_31
noncomputable def c4_28 : ACode := .block 1 c4_29
noncomputable def c4_44 : ACode := .region false [⟨some 49, .bin .add, [.t 35, .c (.val (.int .i64 1))], none⟩,
  ⟨some 35, .move, [.t 49], none⟩] [] [] [1, 5, 6, 7, 33, 34, 35] false [] []
noncomputable def c4_27 : ACode := .seq c4_28 c4_44
noncomputable def c4_25 : ACode := .seq c4_26 c4_27
noncomputable def c4_23 : ACode := .seq c4_24 c4_25
noncomputable def c4_22 : ACode := .loop c4_23
noncomputable def c4_21 : ACode := .block 0 c4_22
noncomputable def c4_19 : ACode := .seq c4_20 c4_21
noncomputable def c4_47 : ACode := .region false [⟨some 50, .move, [.t 6], none⟩,
  ⟨some 51, .move, [.t 7], none⟩,
  ⟨some 52, .call 15, [.t 50, .t 51], none⟩,
  ⟨some 53, .bin .neq, [.t 52, .c (.val (.int .i64 0))], none⟩] [] [] [1, 5, 6, 7, 53] true [] []
noncomputable def c4_50 : ACode := .region false [⟨some 4, .move, [.c (.val (.bool false))], none⟩] [] [] [4] false [] []
noncomputable def c4_49 : ACode := .seq c4_50 .ret
noncomputable def c4_48 : ACode := .cond (.t 53) c4_49 .skip
noncomputable def c4_46 : ACode := .seq c4_47 c4_48
noncomputable def c4_52 : ACode := .region false [⟨some 55, .move, [.t 5], none⟩,
  ⟨some 56, .call 19, [.t 55], none⟩,
  ⟨some 54, .move, [.t 56], none⟩,
  ⟨some 57, .ext 0, [.t 54], none⟩,
  ⟨some 58, .ext 1, [.t 54], none⟩,
  ⟨some 10, .move, [.t 57], none⟩,
  ⟨some 11, .move, [.t 58], none⟩] [] [] [1, 5, 6, 7, 10, 11] true [] []
noncomputable def c4_54 : ACode := .region false [⟨some 60, .move, [.t 6], none⟩,
  ⟨some 61, .call 19, [.t 60], none⟩,
  ⟨some 59, .move, [.t 61], none⟩,
  ⟨some 62, .ext 0, [.t 59], none⟩,
  ⟨some 63, .ext 1, [.t 59], none⟩,
  ⟨some 12, .move, [.t 62], none⟩,
  ⟨some 13, .move, [.t 63], none⟩] [] [] [1, 5, 6, 7, 10, 11, 12, 13] true [] []
noncomputable def c4_56 : ACode := .region false [⟨some 64, .move, [.t 1], none⟩,
  ⟨some 65, .conv .i64, [.t 64], none⟩,
  ⟨some 66, .move, [.t 7], none⟩,
  ⟨some 67, .len, [.t 66], none⟩,
  ⟨some 68, .bin .add, [.t 67, .c (.val (.int .i64 1))], none⟩,
  ⟨some 69, .bin .rem, [.t 65, .t 68], none⟩,
  ⟨some 14, .move, [.t 69], none⟩] [] [] [5, 6, 7, 10, 11, 12, 13, 14] false [] []
noncomputable def c4_59 : ACode := .region false [⟨some 70, .move, [.t 11], none⟩,
  ⟨some 71, .bin .neq, [.t 70, .c (.val (.int .i64 0))], none⟩,
  ⟨some 72, .move, [.t 71], none⟩,
  ⟨some 73, .move, [.t 13], some (some 72, false)⟩,
  ⟨some 74, .bin .neq, [.t 73, .c (.val (.int .i64 0))], some (some 72, false)⟩,
  ⟨some 75, .pick, [.t 72, .c (.val (.bool true)), .t 74], none⟩,
  ⟨some 76, .move, [.t 75], none⟩,
  ⟨some 77, .move, [.t 10], some (some 76, false)⟩,
  ⟨some 78, .toStr, [.t 77], some (some 76, false)⟩,
  ⟨some 79, .move, [.t 12], some (some 76, false)⟩,
  ⟨some 80, .toStr, [.t 79], some (some 76, false)⟩,
  ⟨some 81, .bin .neq, [.t 78, .t 80], some (some 76, false)⟩,
  ⟨some 82, .pick, [.t 76, .c (.val (.bool true)), .t 81], none⟩,
  ⟨some 83, .move, [.t 82], none⟩,
  ⟨some 84, .move, [.t 5], some (some 83, false)⟩,
  ⟨some 85, .move, [.t 14], some (some 83, false)⟩,
  ⟨some 86, .call 20, [.t 84, .t 85], some (some 83, false)⟩,
  ⟨some 87, .bin .neq, [.t 86, .c (.val (.int .i64 0))], some (some 83, false)⟩,
  ⟨some 88, .pick, [.t 83, .c (.val (.bool true)), .t 87], none⟩,
  ⟨some 89, .move, [.t 88], none⟩,
  ⟨some 90, .move, [.t 5], some (some 89, false)⟩,
  ⟨some 91, .move, [.t 7], some (some 89, false)⟩,
  ⟨some 92, .len, [.t 91], some (some 89, false)⟩,
  ⟨some 93, .call 21, [.t 90, .t 92], some (some 89, false)⟩,
  ⟨some 94, .move, [.t 14], some (some 89, false)⟩,
  ⟨some 95, .bin .neq, [.t 93, .t 94], some (some 89, false)⟩,
  ⟨some 96, .pick, [.t 89, .c (.val (.bool true)), .t 95], none⟩] [] [] [5, 6, 7, 14, 96] true [] []
noncomputable def c4_62 : ACode := .region false [⟨some 4, .move, [.c (.val (.bool false))], none⟩] [] [] [4] false [] []
noncomputable def c4_61 : ACode := .seq c4_62 .ret
noncomputable def c4_60 : ACode := .cond (.t 96) c4_61 .skip
noncomputable def c4_58 : ACode := .seq c4_59 c4_60
noncomputable def c4_64 : ACode := .region false [⟨some 98, .move, [.t 5], none⟩,
  ⟨some 99, .call 19, [.t 98], none⟩,
  ⟨some 97, .move, [.t 99], none⟩,
  ⟨some 100, .ext 0, [.t 97], none⟩,
  ⟨some 101, .ext 1, [.t 97], none⟩,
  ⟨some 15, .move, [.t 100], none⟩,
  ⟨some 16, .move, [.t 101], none⟩] [] [] [5, 6, 7, 14, 15, 16] true [] []
noncomputable def c4_66 : ACode := .region true [⟨some 102, .move, [.t 16], none⟩,
  ⟨some 103, .bin .eql, [.t 102, .c (.val (.int .i64 0))], none⟩,
  ⟨some 104, .move, [.t 103], none⟩,
  ⟨some 105, .move, [.t 15], some (some 104, true)⟩,
  ⟨some 106, .toStr, [.t 105], some (some 104, true)⟩,
  ⟨some 107, .move, [.t 7], some (some 104, true)⟩,
  ⟨some 108, .move, [.t 14], some (some 104, true)⟩,
  ⟨some 109, .slS 1 false true false, [.t 107, .t 108], some (some 104, true)⟩,
  ⟨some 110, .toStr, [.t 109], some (some 104, true)⟩,
  ⟨some 111, .bin .eql, [.t 106, .t 110], some (some 104, true)⟩,
  ⟨some 112, .pick, [.t 104, .t 111, .c (.val (.bool false))], none⟩,
  ⟨some 113, .move, [.t 112], none⟩,
  ⟨some 114, .move, [.t 5], some (some 113, true)⟩,
  ⟨some 115, .call 18, [.t 114], some (some 113, true)⟩,
  ⟨some 116, .move, [.t 14], some (some 113, true)⟩,
  ⟨some 117, .bin .eql, [.t 115, .t 116], some (some 113, true)⟩,
  ⟨some 118, .pick, [.t 113, .t 117, .c (.val (.bool false))], none⟩,
  ⟨some 119, .move, [.t 118], none⟩,
  ⟨some 120, .move, [.t 6], some (some 119, true)⟩,
  ⟨some 121, .call 18, [.t 120], some (some 119, true)⟩,
  ⟨some 122, .bin .eql, [.t 121, .c (.val (.int .i64 0))], some (some 119, true)⟩,
  ⟨some 123, .pick, [.t 119, .t 122, .c (.val (.bool false))], none⟩,
  ⟨some 124, .move, [.t 123], none⟩,
  ⟨some 125, .move, [.t 6], some (some 124, true)⟩,
  ⟨some 126, .call 21, [.t 125, .c (.val (.int .i64 0))], some (some 124, true)⟩,
  ⟨some 127, .bin .eql, [.t 126, .c (.val (.int .i64 0))], some (some 124, true)⟩,
  ⟨some 128, .pick, [.t 124, .t 127, .c (.val (.bool false))], none⟩,
  ⟨some 129, .move, [.t 128], none⟩,
  ⟨some 130, .move, [.t 6], some (some 129, true)⟩,
  ⟨some 131, .call 16, [.t 130], some (some 129, true)⟩,
  ⟨some 132, .bin .eql, [.t 131, .c (.val (.int .i64 0))], some (some 129, true)⟩,
  ⟨some 133, .pick, [.t 129, .t 132, .c (.val (.bool false))], none⟩,
  ⟨some 4, .move, [.t 133], none⟩] [] [] [4] true [] []
noncomputable def c4_65 : ACode := .seq c4_66 .ret
noncomputable def c4_63 : ACode := .seq c4_64 c4_65
noncomputable def c4_57 : ACode := .seq c4_58 c4_63
noncomputable def c4_55 : ACode := .seq c4_56 c4_57
noncomputable def c4_53 : ACode := .seq c4_54 c4_55
noncomputable def c4_51 : ACode := .seq c4_52 c4_53
noncomputable def c4_45 : ACode := .seq c4_46 c4_51
noncomputable def c4_18 : ACode := .seq c4_19 c4_45
noncomputable def c4_16 : ACode := .seq c4_17 c4_18
noncomputable def c4_10 : ACode := .seq c4_11 c4_16
noncomputable def c4_8 : ACode := .seq c4_9 c4_10
noncomputable def c4_2 : ACode := .seq c4_3 c4_8
noncomputable def c4_0 : ACode := .seq c4_1 c4_2
noncomputable def code4 : Code := (Try.f4.body).getD .skip
theorem c4_ok : compC Try.prog 134 code4 = some (strip c4_0) := by kernel_rfl
theorem res4_ok : Try.f4.results.toList.mapM (resC Try.prog) = some [(4, none)] := by kernel_rfl
theorem parts_walk (W : World) (tl : Sl (Sl Int)) (at0 : Int) (ha : IntKind.u16.min ≤ at0 ∧ at0 ≤ IntKind.u16.max) (ht : tl.ok W 1 (fun s : Sl Int => s.rep) (Sl.ok W 1 (fun n : Int => [.int .u8 n]) (fun n : Int => IntKind.u8.min ≤ n ∧ n ≤ IntKind.u8.max))) :
    Calls Try.prog 4 #[.slice tl.ad tl.l.length tl.cap, .int .u16 at0] W fun e W' => e = .returned (.bool true) ∧ Below W.heap.size W W' := by
  obtain ⟨ad, off, cap, ts⟩ := tl
  have hz := ht.fz
  have hall := ht.all
  simp only at hz hall
  obtain ⟨ha1, ha2⟩ : 0 ≤ at0 ∧ at0 ≤ 65535 := ha
  have hr : ∀ ρ, renL ρ (rowsC off SbC ts) = rowsC off SbC ts := fun ρ => rowsC_ren (fun ρ x => by simp [renL, ren]) ρ ts
  by_cases h30 : 30 < ts.length
  · have h1 : ((30 : Int) < (ts.length : Int)) = True := eq_true (by omega)
    refine top_call c4_ok Try.func4 rfl Try.ntmps4 res4_ok [ .val (.slice ad ts.length cap), .val (.int .u16 at0)] (by simp) (by (repeat' (first | exact VRs_nil' _ | exact VR_val' _ _ | (refine VRs_cons' ?_ ?_) | (refine VR_agg' rfl ?_; simp [Value.oneCell'])))) ?_; try simp (maxSteps := 9999999) (disch := omega) only [go_sem]
    (repeat' (first | refine AWpA.seq ?_ | refine AWpA.block ?_ | (with_reducible refine CondP.tt ?_) | (with_reducible refine CondP.ff ?_) | refine AWpA.condv (by simp (maxSteps := 9999999) (disch := omega) only [go_sem, h1]; rfl) ?_ | ((first | (apply AWpA.region; (focus (simp (maxSteps := 9999999) (disch := omega) only [go_sem, h1]; rfl))) | (apply AWpA.draw [] follows; (focus (simp (maxSteps := 9999999) (disch := omega) only [go_sem, h1]; rfl)); (focus (simp (maxSteps := 9999999) (disch := omega) only [go_sem, h1]; first | done | trivial)); (focus (simp (maxSteps := 9999999) (disch := omega) only [go_sem, h1]; rfl))) | (apply TailK.go; (focus (simp (maxSteps := 9999999) (disch := omega) only [go_sem, h1]; rfl))) | refine AWpA.skip ?_ | refine AWpA.exit ?_ | refine AWpA.ret ?_ | (with_reducible refine ARoundsA.succ ?_) | ((first | refine Runs.kt (by assumption) (fun h9 => ?_) | refine Runs.kf (by assumption) (fun h9 => ?_) | refine Runs.nt (by assumption) (fun h9 => ?_) | refine Runs.nf (by assumption) (fun h9 => ?_) | refine CondP.ht (by assumption) (fun h9 => ?_) | refine CondP.hf (by assumption) (fun h9 => ?_) | refine CondP.nt (by assumption) (fun h9 => ?_) | refine CondP.nf (by assumption) (fun h9 => ?_)); (try simp only [h9]); clear h9) | ((first | (with_reducible apply CallG.plain1 [] (speaks06)) | (with_reducible apply CallG.draw1 [] (speaks06))); (focus ((try refine And.intro (leAs_of_eq rfl) ?_); (try refine And.intro (leOL_of_eq rfl) ?_); simp (maxSteps := 9999999) (disch := omega) only [go_sem, h1]; first | done | (repeat' (first | rfl | (refine And.intro ?_ ?_))))); (focus (simp (maxSteps := 9999999) (disch := omega) only [go_sem, h1]; rfl)))); (try simp (maxSteps := 9999999) (disch := omega) only [go_sem, h1]); (try (refine And.intro ?_ ?_; (focus (first | omega | (simp only [go_sem]; done) | (simp; done) | (simp; omega) | assumption))))) | ((first | refine CondP.split (fun hif => ?_) (fun hif => ?_) | refine Runs.part (fun hif => ?_) (fun hif => ?_)) <;> ((try simp only [hif]); (try simp only [decide_eq_true_eq, decide_eq_false_iff_not, Bool.not_eq_true, Bool.not_eq_false, Bool.not_eq_true', Bool.not_eq_false', beq_iff_eq, bne_iff_ne, bne_eq_false_iff_eq, beq_eq_false_iff_ne, ne_eq, Bool.and_eq_true, Bool.or_eq_true, Bool.or_eq_false_iff] at hif); (try (have h9 : _ = true := hif; simp only [h9])); (try (have h9 : _ = false := hif; simp only [h9])); (try simp (maxSteps := 9999999) (disch := omega) only [go_sem, h1]); (try (refine And.intro ?_ ?_; (focus (first | omega | (simp only [go_sem]; done) | (simp; done) | (simp; omega) | assumption)))); (try (exfalso; omega; done))))))
    (refine TopPost.of (by first | exact .inl rfl | exact .inr rfl) (by (try simp (maxSteps := 9999999) (disch := omega) only [go_sem]); rfl) ?_; (try simp (maxSteps := 9999999) (disch := omega) only [go_sem]); (try (first | trivial | decide | (simp; done))))
  have h1 : ((30 : Int) < (ts.length : Int)) = False := eq_false (by omega)
  have hlen : ∀ l : List (Sl Int), (rowsC off SbC l).length = off + l.length := fun l => by rw [rowsC_len (k := 1) (fun _ => rfl), Nat.mul_one]
  refine top_call c4_ok Try.func4 rfl Try.ntmps4 res4_ok [ .val (.slice ad ts.length cap), .val (.int .u16 at0)] (by simp) (by (repeat' (first | exact VRs_nil' _ | exact VR_val' _ _ | (refine VRs_cons' ?_ ?_) | (refine VR_agg' rfl ?_; simp [Value.oneCell'])))) ?_; try simp (maxSteps := 9999999) (disch := omega) only [go_sem]
  refine AWpA.thawT 0 SbC hz (fun x => by simp [Sl.rep]) rfl ?_
  refine AWpA.dummy ?_
  (repeat' (first | refine AWpA.seq ?_ | refine AWpA.block ?_ | (with_reducible refine CondP.tt ?_) | (with_reducible refine CondP.ff ?_) | refine AWpA.condv (by simp (maxSteps := 9999999) (disch := omega) only [go_sem, h1, hr]; rfl) ?_ | ((first | (apply AWpA.region; (focus (simp (maxSteps := 9999999) (disch := omega) only [go_sem, h1, hr]; rfl))) | (apply AWpA.draw [] follows; (focus (simp (maxSteps := 9999999) (disch := omega) only [go_sem, h1, hr]; rfl)); (focus (simp (maxSteps := 9999999) (disch := omega) only [go_sem, h1, hr]; first | done | trivial)); (focus (simp (maxSteps := 9999999) (disch := omega) only [go_sem, h1, hr]; rfl))) | (apply TailK.go; (focus (simp (maxSteps := 9999999) (disch := omega) only [go_sem, h1, hr]; rfl))) | refine AWpA.skip ?_ | refine AWpA.exit ?_ | refine AWpA.ret ?_ | (with_reducible refine ARoundsA.succ ?_) | ((first | refine Runs.kt (by assumption) (fun h9 => ?_) | refine Runs.kf (by assumption) (fun h9 => ?_) | refine Runs.nt (by assumption) (fun h9 => ?_) | refine Runs.nf (by assumption) (fun h9 => ?_) | refine CondP.ht (by assumption) (fun h9 => ?_) | refine CondP.hf (by assumption) (fun h9 => ?_) | refine CondP.nt (by assumption) (fun h9 => ?_) | refine CondP.nf (by assumption) (fun h9 => ?_)); (try simp only [h9]); clear h9) | ((first | (with_reducible apply CallG.plain1 [] (speaks06)) | (with_reducible apply CallG.plain1 [] (dnew_any)) | (with_reducible apply CallG.draw1 [] (speaks06)) | (with_reducible apply CallG.draw1 [] (dnew_any))); (focus ((try refine And.intro (leAs_of_eq rfl) ?_); (try refine And.intro (leOL_of_eq rfl) ?_); simp (maxSteps := 9999999) (disch := omega) only [go_sem, h1, hr]; first | done | (repeat' (first | rfl | (refine And.intro ?_ ?_))))); (focus (simp (maxSteps := 9999999) (disch := omega) only [go_sem, h1, hr]; rfl)))); (try simp (maxSteps := 9999999) (disch := omega) only [go_sem, h1, hr]); (try (refine And.intro ?_ ?_; (focus (first | omega | (simp only [go_sem]; done) | (simp; done) | (simp; omega) | assumption))))) | ((first | refine CondP.split (fun hif => ?_) (fun hif => ?_) | refine Runs.part (fun hif => ?_) (fun hif => ?_)) <;> ((try simp only [hif]); (try simp only [decide_eq_true_eq, decide_eq_false_iff_not, Bool.not_eq_true, Bool.not_eq_false, Bool.not_eq_true', Bool.not_eq_false', beq_iff_eq, bne_iff_ne, bne_eq_false_iff_eq, beq_eq_false_iff_ne, ne_eq, Bool.and_eq_true, Bool.or_eq_true, Bool.or_eq_false_iff] at hif); (try (have h9 : _ = true := hif; simp only [h9])); (try (have h9 : _ = false := hif; simp only [h9])); (try simp (maxSteps := 9999999) (disch := omega) only [go_sem, h1, hr]); (try (refine And.intro ?_ ?_; (focus (first | omega | (simp only [go_sem]; done) | (simp; done) | (simp; omega) | assumption)))); (try (exfalso; omega; done))))))
  (apply AWpA.loopL (fun k : Nat × List Int => [(1, .val (.int .u16 at0)), (5, .ptr 1 0), (6, .ptr 3 0), (7, .sl 5 0 k.2.length 1 none), (33, .sl 0 off ts.length 1 none), (34, I ts.length), (35, I k.1)]) (fun k => [.cells true (rowsC off SbC ts), DkO 2 ⟨k.2, 0, false, -1⟩, .cells false (bA k.2), DkO 4 ⟨[], 0, false, -1⟩, .cells false [], .cells false (bA k.2)]) (fun k => ts.length - k.1) (fun k => k.1 ≤ ts.length ∧ k.2.length ≤ 100 * k.1) ((0, [])) [0, _, _, _, _, 1]; rotate_left; (focus (simp (maxSteps := 9999999) (disch := omega) only [go_sem, hr, bA_nil, List.length_nil]; (try (repeat' (first | done | trivial | rfl | exact leAs_rfl _ | decide | (refine And.intro ?_ ?_) | (simp; done) | omega | (simp; decide)))))); rotate_right)
  · exact ⟨Nat.zero_le _, Nat.zero_le _⟩
  rintro ⟨i, l⟩ ⟨hi, hll⟩
  (try simp only at hi hll)
  have hokl : (⟨l, 0, false, -1⟩ : Dk).ok := ⟨by simp, by simp only; omega, by simp, by simp⟩
  by_cases hil : i < ts.length
  · have hat := rowsC_get0 (off := off) (f := SbC) (k := 1) (fun _ => rfl) ts i hil (by decide)
    have hok := hall ts[i] (List.getElem_mem _)
    generalize ts[i] = p at hat hok
    obtain ⟨pad, poff, pcap, B⟩ := p
    have hzp := hok.fz
    have hBl := hok.len
    simp only [List.getD_cons_zero, Nat.mul_one] at hzp hat hBl
    have g1 : ((i : Int) < (ts.length : Int)) = True := eq_true (by omega)
    by_cases h100 : 100 < B.length
    · have g2 : ((100 : Int) < (B.length : Int)) = True := eq_true (by omega)
      (repeat' (first | refine AWpA.seq ?_ | refine AWpA.block ?_ | (with_reducible refine CondP.tt ?_) | (with_reducible refine CondP.ff ?_) | refine AWpA.condv (by simp (maxSteps := 9999999) (disch := omega) only [go_sem, g1, g2, hlen, hat, hr]; rfl) ?_ | ((first | (apply AWpA.region; (focus (simp (maxSteps := 9999999) (disch := omega) only [go_sem, g1, g2, hlen, hat, hr]; rfl))) | (apply AWpA.draw [] follows; (focus (simp (maxSteps := 9999999) (disch := omega) only [go_sem, g1, g2, hlen, hat, hr]; rfl)); (focus (simp (maxSteps := 9999999) (disch := omega) only [go_sem, g1, g2, hlen, hat, hr]; first | done | trivial)); (focus (simp (maxSteps := 9999999) (disch := omega) only [go_sem, g1, g2, hlen, hat, hr]; rfl))) | (apply TailK.go; (focus (simp (maxSteps := 9999999) (disch := omega) only [go_sem, g1, g2, hlen, hat, hr]; rfl))) | refine AWpA.skip ?_ | refine AWpA.exit ?_ | refine AWpA.ret ?_ | (with_reducible refine ARoundsA.succ ?_) | ((first | refine Runs.kt (by assumption) (fun h9 => ?_) | refine Runs.kf (by assumption) (fun h9 => ?_) | refine Runs.nt (by assumption) (fun h9 => ?_) | refine Runs.nf (by assumption) (fun h9 => ?_) | refine CondP.ht (by assumption) (fun h9 => ?_) | refine CondP.hf (by assumption) (fun h9 => ?_) | refine CondP.nt (by assumption) (fun h9 => ?_) | refine CondP.nf (by assumption) (fun h9 => ?_)); (try simp only [h9]); clear h9)); (try simp (maxSteps := 9999999) (disch := omega) only [go_sem, g1, g2, hlen, hat, hr]); (try (refine And.intro ?_ ?_; (focus (first | omega | (simp only [go_sem]; done) | (simp; done) | (simp; omega) | assumption))))) | ((first | refine CondP.split (fun hif => ?_) (fun hif => ?_) | refine Runs.part (fun hif => ?_) (fun hif => ?_)) <;> ((try simp only [hif]); (try simp only [decide_eq_true_eq, decide_eq_false_iff_not, Bool.not_eq_true, Bool.not_eq_false, Bool.not_eq_true', Bool.not_eq_false', beq_iff_eq, bne_iff_ne, bne_eq_false_iff_eq, beq_eq_false_iff_ne, ne_eq, Bool.and_eq_true, Bool.or_eq_true, Bool.or_eq_false_iff] at hif); (try (have h9 : _ = true := hif; simp only [h9])); (try (have h9 : _ = false := hif; simp only [h9])); (try simp (maxSteps := 9999999) (disch := omega) only [go_sem, g1, g2, hlen, hat, hr]); (try (refine And.intro ?_ ?_; (focus (first | omega | (simp only [go_sem]; done) | (simp; done) | (simp; omega) | assumption)))); (try (exfalso; omega; done))))))
      (refine TopPost.of (by first | exact .inl rfl | exact .inr rfl) (by (try simp (maxSteps := 9999999) (disch := omega) only [go_sem]); rfl) ?_; (try simp (maxSteps := 9999999) (disch := omega) only [go_sem]); (try (first | trivial | decide | (simp; done))))
    have g2 : ((100 : Int) < (B.length : Int)) = False := eq_false (by omega)
    have s := Seg.rows (off := poff) (l := B) (by omega)
    have q1 := appD_ok (d := ⟨l, 0, false, -1⟩) (b := B) rfl (by simp only; omega) rfl
    have a1 := dapp_to hokl s q1.1 q1.2
    generalize hP : rowsC poff (fun n : Int => [.val (.int .u8 n)]) B = P at s a1
    have hle := s.le
    (repeat' (first | (refine AWpA.thawT 9 (fun n : Int => [.val (.int .u8 n)]) hzp (fun _ => rfl) rfl ?_; (try simp only [hP]); (try simp (maxSteps := 9999999) (disch := omega) only [go_sem, g1, g2, hlen, hat, hr, s.ren, s.seg, s.noAny])) | refine AWpA.seq ?_ | refine AWpA.block ?_ | (with_reducible refine CondP.tt ?_) | (with_reducible refine CondP.ff ?_) | refine AWpA.condv (by simp (maxSteps := 9999999) (disch := omega) only [go_sem, g1, g2, hlen, hat, hr, s.ren, s.seg, s.noAny]; rfl) ?_ | ((first | (apply AWpA.region; (focus (simp (maxSteps := 9999999) (disch := omega) only [go_sem, g1, g2, hlen, hat, hr, s.ren, s.seg, s.noAny]; rfl))) | (apply AWpA.draw [] follows; (focus (simp (maxSteps := 9999999) (disch := omega) only [go_sem, g1, g2, hlen, hat, hr, s.ren, s.seg, s.noAny]; rfl)); (focus (simp (maxSteps := 9999999) (disch := omega) only [go_sem, g1, g2, hlen, hat, hr, s.ren, s.seg, s.noAny]; first | done | trivial)); (focus (simp (maxSteps := 9999999) (disch := omega) only [go_sem, g1, g2, hlen, hat, hr, s.ren, s.seg, s.noAny]; rfl))) | (apply TailK.go; (focus (simp (maxSteps := 9999999) (disch := omega) only [go_sem, g1, g2, hlen, hat, hr, s.ren, s.seg, s.noAny]; rfl))) | refine AWpA.skip ?_ | refine AWpA.exit ?_ | refine AWpA.ret ?_ | (with_reducible refine ARoundsA.succ ?_) | ((first | refine Runs.kt (by assumption) (fun h9 => ?_) | refine Runs.kf (by assumption) (fun h9 => ?_) | refine Runs.nt (by assumption) (fun h9 => ?_) | refine Runs.nf (by assumption) (fun h9 => ?_) | refine CondP.ht (by assumption) (fun h9 => ?_) | refine CondP.hf (by assumption) (fun h9 => ?_) | refine CondP.nt (by assumption) (fun h9 => ?_) | refine CondP.nf (by assumption) (fun h9 => ?_)); (try simp only [h9]); clear h9) | ((first | (with_reducible apply CallG.plain1 [1, 2, _] (a1)) | (with_reducible apply CallG.draw1 [1, 2, _] (a1))); (focus ((try refine And.intro (leAs_of_eq rfl) ?_); (try refine And.intro (leOL_of_eq rfl) ?_); simp (maxSteps := 9999999) (disch := omega) only [go_sem, g1, g2, hlen, hat, hr, s.ren, s.seg, s.noAny]; first | done | (repeat' (first | rfl | (refine And.intro ?_ ?_))))); (focus (simp (maxSteps := 9999999) (disch := omega) only [go_sem, g1, g2, hlen, hat, hr, s.ren, s.seg, s.noAny]; rfl)))); (try simp (maxSteps := 9999999) (disch := omega) only [go_sem, g1, g2, hlen, hat, hr, s.ren, s.seg, s.noAny]); (try (refine And.intro ?_ ?_; (focus (first | omega | (simp only [go_sem]; done) | (simp; done) | (simp; omega) | assumption))))) | ((first | refine CondP.split (fun hif => ?_) (fun hif => ?_) | refine Runs.part (fun hif => ?_) (fun hif => ?_)) <;> ((try simp only [hif]); (try simp only [decide_eq_true_eq, decide_eq_false_iff_not, Bool.not_eq_true, Bool.not_eq_false, Bool.not_eq_true', Bool.not_eq_false', beq_iff_eq, bne_iff_ne, bne_eq_false_iff_eq, beq_eq_false_iff_ne, ne_eq, Bool.and_eq_true, Bool.or_eq_true, Bool.or_eq_false_iff] at hif); (try (have h9 : _ = true := hif; simp only [h9])); (try (have h9 : _ = false := hif; simp only [h9])); (try simp (maxSteps := 9999999) (disch := omega) only [go_sem, g1, g2, hlen, hat, hr, s.ren, s.seg, s.noAny]); (try (refine And.intro ?_ ?_; (focus (first | omega | (simp only [go_sem]; done) | (simp; done) | (simp; omega) | assumption)))); (try (exfalso; omega; done))))))
    (apply Back.to (i + 1, l ++ B) [0, 1, _, 3, 4, _]; (focus ((try simp (maxSteps := 9999999) (disch := omega) only [go_sem, hr]); first | done | omega)); rotate_left; (focus (simp (maxSteps := 9999999) (disch := omega) only [go_sem, hr]; (try (repeat' (first | done | trivial | rfl | exact leAs_rfl _ | decide | (refine And.intro ?_ ?_) | (simp; done) | omega | (simp; decide)))))))
    all_goals (first | exact ⟨hil, by simp only [List.length_append]; omega⟩ | omega)
  obtain rfl : i = ts.length := by omega
  obtain ⟨k, hk, hkl⟩ : ∃ k : Nat, at0.tmod ((l.length : Int) + 1) = (k : Int) ∧ k ≤ l.length := by
    refine ⟨(at0 % ((l.length : Int) + 1)).toNat, ?_, ?_⟩
    · rw [Int.tmod_eq_emod_of_nonneg ha1]
      have := Int.emod_nonneg at0 (show ((l.length : Int) + 1) ≠ 0 by omega)
      omega
    · have := Int.emod_lt_of_pos at0 (show (0 : Int) < (l.length : Int) + 1 by omega)
      omega
  have q1 := appD_ok (d := ⟨[], 0, false, -1⟩) (b := l) rfl (by simp only [List.length_nil]; omega) rfl
  have a1 := dapp_to Dk.ok0 (Seg.all l (by omega)) q1.1 q1.2
  simp only [List.nil_append] at a1
  have r1 := dread_to (d := ⟨l, 0, false, -1⟩) (l := l) (e := 0) hokl rfl rfl
  have hlk : (l.take k).length = k := by simp; omega
  have t1 := dtrim_to (d := ⟨l, 0, false, -1⟩) (d' := ⟨l.take k, 0, false, -1⟩) (e := 0) (n := k) hokl (by unfold trimW; rw [if_pos (by simp only; omega)]; rfl) (by unfold trimW; rw [if_pos (by simp only; omega)]; simp [doD, trimF, leftU])
  have hokk : (⟨l.take k, 0, false, -1⟩ : Dk).ok := ⟨by simp, by simp only; omega, by simp, by simp⟩
  have hck : crashN ⟨l.take k, 0, false, -1⟩ (l.length : Int) = k := by unfold crashN; simp only [hlk]; omega
  have c1 := dcrash_to (d := ⟨l.take k, 0, false, -1⟩) (d' := ⟨l.take k, k, false, -1⟩) (k := k) (keep := l.length) hokk (by rw [hck]) (by unfold crashF; rw [hck]; simp [List.take_take])
  have hok3 : (⟨l.take k, k, false, -1⟩ : Dk).ok := ⟨by simp only; omega, by simp only; omega, by simp, by simp⟩
  have r2 := dread_to (d := ⟨l.take k, k, false, -1⟩) (l := l.take k) (e := 0) hok3 rfl rfl
  have s1 := dsafe_any ⟨l.take k, k, false, -1⟩
  have s2 := dsafe_any ⟨l, 0, false, -1⟩
  have c2 := dcrash_to (d := ⟨l, 0, false, -1⟩) (d' := ⟨[], 0, false, -1⟩) (k := 0) (keep := 0) hokl (by simp [crashN]) (by simp [crashN, crashF])
  have n2 := dlen_any ⟨[], 0, false, -1⟩
  have hkk : (l.take k).take k = l.take k := by rw [List.take_take, Nat.min_self]
  (repeat' (first | refine AWpA.seq ?_ | refine AWpA.block ?_ | (with_reducible refine CondP.tt ?_) | (with_reducible refine CondP.ff ?_) | refine AWpA.condv (by simp (maxSteps := 9999999) (disch := omega) only [go_sem, hr, hk, hlk, hkk]; rfl) ?_ | ((first | (apply AWpA.region; (focus (simp (maxSteps := 9999999) (disch := omega) only [go_sem, hr, hk, hlk, hkk]; rfl))) | (apply AWpA.draw [3, 54] follows; (focus (simp (maxSteps := 9999999) (disch := omega) only [go_sem, hr, hk, hlk, hkk]; rfl)); (focus (simp (maxSteps := 9999999) (disch := omega) only [go_sem, hr, hk, hlk, hkk]; first | done | trivial)); (focus (simp (maxSteps := 9999999) (disch := omega) only [go_sem, hr, hk, hlk, hkk]; rfl))) | (apply TailK.go; (focus (simp (maxSteps := 9999999) (disch := omega) only [go_sem, hr, hk, hlk, hkk]; rfl))) | refine AWpA.skip ?_ | refine AWpA.exit ?_ | refine AWpA.ret ?_ | (with_reducible refine ARoundsA.succ ?_) | ((first | refine Runs.kt (by assumption) (fun h9 => ?_) | refine Runs.kf (by assumption) (fun h9 => ?_) | refine Runs.nt (by assumption) (fun h9 => ?_) | refine Runs.nf (by assumption) (fun h9 => ?_) | refine CondP.ht (by assumption) (fun h9 => ?_) | refine CondP.hf (by assumption) (fun h9 => ?_) | refine CondP.nt (by assumption) (fun h9 => ?_) | refine CondP.nf (by assumption) (fun h9 => ?_)); (try simp only [h9]); clear h9) | ((first | (with_reducible apply CallG.plain1 [3, 4, 5] (a1)) | (with_reducible apply CallG.draw1 [3, 4, 5] (a1))); (focus ((try refine And.intro (leAs_of_eq rfl) ?_); (try refine And.intro (leOL_of_eq rfl) ?_); simp (maxSteps := 9999999) (disch := omega) only [go_sem, hr, hk, hlk, hkk]; first | done | (repeat' (first | rfl | (refine And.intro ?_ ?_))))); (focus (simp (maxSteps := 9999999) (disch := omega) only [go_sem, hr, hk, hlk, hkk]; rfl))) | ((first | (with_reducible apply CallG.plain1 [1, 2] (r1)) | (with_reducible apply CallG.draw1 [1, 2] (r1))); (focus ((try refine And.intro (leAs_of_eq rfl) ?_); (try refine And.intro (leOL_of_eq rfl) ?_); simp (maxSteps := 9999999) (disch := omega) only [go_sem, hr, hk, hlk, hkk]; first | done | (repeat' (first | rfl | (refine And.intro ?_ ?_))))); (focus (simp (maxSteps := 9999999) (disch := omega) only [go_sem, hr, hk, hlk, hkk]; rfl))) | ((first | (with_reducible apply CallG.plain1 [3, 54] (r1)) | (with_reducible apply CallG.draw1 [3, 54] (r1))); (focus ((try refine And.intro (leAs_of_eq rfl) ?_); (try refine And.intro (leOL_of_eq rfl) ?_); simp (maxSteps := 9999999) (disch := omega) only [go_sem, hr, hk, hlk, hkk]; first | done | (repeat' (first | rfl | (refine And.intro ?_ ?_))))); (focus (simp (maxSteps := 9999999) (disch := omega) only [go_sem, hr, hk, hlk, hkk]; rfl))) | ((first | (with_reducible apply CallG.plain1 [1, 2] (c1)) | (with_reducible apply CallG.draw1 [1, 2] (c1))); (focus ((try refine And.intro (leAs_of_eq rfl) ?_); (try refine And.intro (leOL_of_eq rfl) ?_); simp (maxSteps := 9999999) (disch := omega) only [go_sem, hr, hk, hlk, hkk]; first | done | (repeat' (first | rfl | (refine And.intro ?_ ?_))))); (focus (simp (maxSteps := 9999999) (disch := omega) only [go_sem, hr, hk, hlk, hkk]; rfl))) | ((first | (with_reducible apply CallG.plain1 [1, 2] (r2)) | (with_reducible apply CallG.draw1 [1, 2] (r2))); (focus ((try refine And.intro (leAs_of_eq rfl) ?_); (try refine And.intro (leOL_of_eq rfl) ?_); simp (maxSteps := 9999999) (disch := omega) only [go_sem, hr, hk, hlk, hkk]; first | done | (repeat' (first | rfl | (refine And.intro ?_ ?_))))); (focus (simp (maxSteps := 9999999) (disch := omega) only [go_sem, hr, hk, hlk, hkk]; rfl))) | ((first | (with_reducible apply CallG.plain1 [1] (s1)) | (with_reducible apply CallG.draw1 [1] (s1))); (focus ((try refine And.intro (leAs_of_eq rfl) ?_); (try refine And.intro (leOL_of_eq rfl) ?_); simp (maxSteps := 9999999) (disch := omega) only [go_sem, hr, hk, hlk, hkk]; first | done | (repeat' (first | rfl | (refine And.intro ?_ ?_))))); (focus (simp (maxSteps := 9999999) (disch := omega) only [go_sem, hr, hk, hlk, hkk]; rfl))) | ((first | (with_reducible apply CallG.plain1 [3] (s2)) | (with_reducible apply CallG.draw1 [3] (s2))); (focus ((try refine And.intro (leAs_of_eq rfl) ?_); (try refine And.intro (leOL_of_eq rfl) ?_); simp (maxSteps := 9999999) (disch := omega) only [go_sem, hr, hk, hlk, hkk]; first | done | (repeat' (first | rfl | (refine And.intro ?_ ?_))))); (focus (simp (maxSteps := 9999999) (disch := omega) only [go_sem, hr, hk, hlk, hkk]; rfl))) | ((first | (with_reducible apply CallG.plain1 [3, 54] (c2)) | (with_reducible apply CallG.draw1 [3, 54] (c2))); (focus ((try refine And.intro (leAs_of_eq rfl) ?_); (try refine And.intro (leOL_of_eq rfl) ?_); simp (maxSteps := 9999999) (disch := omega) only [go_sem, hr, hk, hlk, hkk]; first | done | (repeat' (first | rfl | (refine And.intro ?_ ?_))))); (focus (simp (maxSteps := 9999999) (disch := omega) only [go_sem, hr, hk, hlk, hkk]; rfl))) | ((first | (with_reducible apply CallG.plain1 [1, 2] (t1)) | (with_reducible apply CallG.plain1 [3, 54] (n2)) | (with_reducible apply CallG.draw1 [1, 2] (t1)) | (with_reducible apply CallG.draw1 [3, 54] (n2))); (focus ((try refine And.intro (leAs_of_eq rfl) ?_); (try refine And.intro (leOL_of_eq rfl) ?_); simp (maxSteps := 9999999) (disch := omega) only [go_sem, hr, hk, hlk, hkk]; first | done | (repeat' (first | rfl | (refine And.intro ?_ ?_))))); (focus (simp (maxSteps := 9999999) (disch := omega) only [go_sem, hr, hk, hlk, hkk]; rfl)))); (try simp (maxSteps := 9999999) (disch := omega) only [go_sem, hr, hk, hlk, hkk]); (try (refine And.intro ?_ ?_; (focus (first | omega | (simp only [go_sem]; done) | (simp; done) | (simp; omega) | assumption))))) | ((first | refine CondP.split (fun hif => ?_) (fun hif => ?_) | refine Runs.part (fun hif => ?_) (fun hif => ?_)) <;> ((try simp only [hif]); (try simp only [decide_eq_true_eq, decide_eq_false_iff_not, Bool.not_eq_true, Bool.not_eq_false, Bool.not_eq_true', Bool.not_eq_false', beq_iff_eq, bne_iff_ne, bne_eq_false_iff_eq, beq_eq_false_iff_ne, ne_eq, Bool.and_eq_true, Bool.or_eq_true, Bool.or_eq_false_iff] at hif); (try (have h9 : _ = true := hif; simp only [h9])); (try (have h9 : _ = false := hif; simp only [h9])); (try simp (maxSteps := 9999999) (disch := omega) only [go_sem, hr, hk, hlk, hkk]); (try (refine And.intro ?_ ?_; (focus (first | omega | (simp only [go_sem]; done) | (simp; done) | (simp; omega) | assumption)))); (try (exfalso; omega; done))))))
  all_goals (refine TopPost.of (by first | exact .inl rfl | exact .inr rfl) (by (try simp (maxSteps := 9999999) (disch := omega) only [go_sem]); rfl) ?_; (try simp (maxSteps := 9999999) (disch := omega) only [go_sem]); (try (first | trivial | decide | (simp; done))))
end Go.Proofs.Ytnadhhmlehifnaa
