/- The walk of FrameOnly. -/
import Derived.Test.YthbpdmlbfnjoiaaAf8
namespace Go.Proofs.Ythbpdmlbfnjoiaa
set_option linter.unusedSimpArgs false
set_option linter.unusedVariables false
set_option maxHeartbeats 4000000
open Go Go.Am Go.RowKit Go.ChangeShapes Go.WideShapes Go.ChangeAt Go.Crc
set_option maxRecDepth 100000
theorem frB_inj {f t k f' t' k' : Int} {l l' : List Int} (h : chkF f t k l.length = 0) (h' : chkF f' t' k' l'.length = 0) : decide (frB f t k l = frB f' t' k' l') = sameB f t k l f' t' k' l' := by
  by_cases he : frB f t k l = frB f' t' k' l'
  · obtain ⟨_, a1, a2, a3, a4⟩ := fd_enc h
    obtain ⟨_, b1, b2, b3, b4⟩ := fd_enc h'
    rw [← he] at b1 b2 b3 b4
    rw [decide_eq_true he, ← a1, ← b1, ← a2, ← b2, ← a3, ← b3]
    have : l = l' := by rw [← a4, ← b4]
    subst this
    simp [sameB, a1, a2, a3]
  · rw [decide_eq_false he]
    cases hs : sameB f t k l f' t' k' l' with
    | false => rfl
    | true =>
      exfalso
      simp only [sameB, Bool.and_eq_true, beq_iff_eq, decide_eq_true_eq] at hs
      obtain ⟨⟨⟨rfl, rfl⟩, rfl⟩, rfl⟩ := hs
      exact he rfl
/- quidnunc/quidnunclaw03.FrameOnly -/
noncomputable def c5_1 : ACode := .region false [⟨some 2, .box 0, [.t 0], none⟩,
  ⟨some 3, .box 0, [.t 1], none⟩,
  ⟨some 4, .move, [.c (.val (.bool false))], none⟩] [] [] [2, 3] true [] []
noncomputable def c5_4 : ACode := .region false [⟨some 13, .call 13, [], none⟩,
  ⟨some 14, .un .not, [.t 13], none⟩,
  ⟨some 15, .move, [.t 14], none⟩,
  ⟨some 16, .addr 3, [.t 2], some (some 15, false)⟩,
  ⟨some 17, .load false 1, [.t 16], some (some 15, false)⟩,
  ⟨some 18, .len, [.t 17], some (some 15, false)⟩,
  ⟨some 19, .bin .gtr, [.t 18, .c (.val (.int .i64 200))], some (some 15, false)⟩,
  ⟨some 20, .pick, [.t 15, .c (.val (.bool true)), .t 19], none⟩,
  ⟨some 21, .move, [.t 20], none⟩,
  ⟨some 22, .addr 3, [.t 3], some (some 21, false)⟩,
  ⟨some 23, .load false 1, [.t 22], some (some 21, false)⟩,
  ⟨some 24, .len, [.t 23], some (some 21, false)⟩,
  ⟨some 25, .bin .gtr, [.t 24, .c (.val (.int .i64 200))], some (some 21, false)⟩,
  ⟨some 26, .pick, [.t 21, .c (.val (.bool true)), .t 25], none⟩,
  ⟨some 27, .move, [.t 26], none⟩,
  ⟨some 28, .load true 4, [.t 2], some (some 27, false)⟩,
  ⟨some 29, .call 18, [.t 28], some (some 27, false)⟩,
  ⟨some 30, .bin .neq, [.t 29, .c (.val (.int .i64 0))], some (some 27, false)⟩,
  ⟨some 31, .pick, [.t 27, .c (.val (.bool true)), .t 30], none⟩,
  ⟨some 32, .move, [.t 31], none⟩,
  ⟨some 33, .load true 4, [.t 3], some (some 32, false)⟩,
  ⟨some 34, .call 18, [.t 33], some (some 32, false)⟩,
  ⟨some 35, .bin .neq, [.t 34, .c (.val (.int .i64 0))], some (some 32, false)⟩,
  ⟨some 36, .pick, [.t 32, .c (.val (.bool true)), .t 35], none⟩] [] [] [2, 3, 36] true [] []
noncomputable def c5_7 : ACode := .region false [⟨some 37, .call 13, [], none⟩,
  ⟨some 4, .move, [.t 37], none⟩] [] [] [4] true [] []
noncomputable def c5_6 : ACode := .seq c5_7 .ret
noncomputable def c5_5 : ACode := .cond (.t 36) c5_6 .skip
noncomputable def c5_3 : ACode := .seq c5_4 c5_5
noncomputable def c5_9 : ACode := .region false [⟨some 5, .alloc [(.int .u32 0), (.int .i32 0), (.int .u32 0), (.int .u32 0), (.int .u32 0), (.int .u32 0), (.int .u32 0), (.int .u32 0), (.int .u32 0), (.int .u32 0), (.int .u32 0), (.int .u32 0), (.int .u32 0), (.int .u32 0), (.int .u32 0), (.int .u32 0), (.int .u32 0), (.int .u32 0), (.int .u32 0), (.int .u32 0), (.int .u32 0), (.int .u32 0), (.int .u32 0), (.int .u32 0), (.int .u32 0), (.int .u32 0), (.int .u32 0), (.int .u32 0), (.int .u32 0), (.int .u32 0), (.int .u32 0), (.int .u32 0), (.int .u32 0), (.int .u32 0), (.int .u32 0), (.int .u32 0), (.int .u32 0), (.int .u32 0), (.int .u32 0), (.int .u32 0), (.int .u32 0), (.int .u32 0), (.int .u32 0), (.int .u32 0), (.int .u32 0), (.int .u32 0), (.int .u32 0), (.int .u32 0), (.int .u32 0), (.int .u32 0), (.int .u32 0), (.int .u32 0), (.int .u32 0), (.int .u32 0), (.int .u32 0), (.int .u32 0), (.int .u32 0), (.int .u32 0), (.int .u32 0), (.int .u32 0), (.int .u32 0), (.int .u32 0), (.int .u32 0), (.int .u32 0), (.int .u32 0), (.int .u32 0), (.int .u32 0), (.int .u32 0), (.int .u32 0), (.int .u32 0), (.int .u32 0), (.int .u32 0), (.int .u32 0), (.int .u32 0), (.int .u32 0), (.int .u32 0), (.int .u32 0), (.int .u32 0), (.int .u32 0), (.int .u32 0), (.int .u32 0), (.int .u32 0), (.int .u32 0), (.int .u32 0), (.int .u32 0), (.int .u32 0), (.int .u32 0), (.int .u32 0), (.int .u32 0), (.int .u32 0), (.int .u32 0), (.int .u32 0), (.int .u32 0), (.int .u32 0), (.int .u32 0), (.int .u32 0), (.int .u32 0), (.int .u32 0), (.int .u32 0), (.int .u32 0), (.int .u32 0), (.int .u32 0), (.int .u32 0), (.int .u32 0), (.int .u32 0), (.int .u32 0), (.int .u32 0), (.int .u32 0), (.int .u32 0), (.int .u32 0), (.int .u32 0), (.int .u32 0), (.int .u32 0), (.int .u32 0), (.int .u32 0), (.int .u32 0), (.int .u32 0), (.int .u32 0), (.int .u32 0), (.int .u32 0), (.int .u32 0), (.int .u32 0), (.int .u32 0), (.int .u32 0), (.int .u32 0), (.int .u32 0), (.int .u32 0), (.int .u32 0), (.int .u32 0), (.int .u32 0), (.int .u32 0), (.int .u32 0), (.int .u32 0), (.int .u32 0), (.int .u32 0), (.int .u32 0), (.int .u32 0), (.int .u32 0), (.int .u32 0), (.int .u32 0), (.int .u32 0), (.int .u32 0), (.int .u32 0), (.int .u32 0), (.int .u32 0), (.int .u32 0), (.int .u32 0), (.int .u32 0), (.int .u32 0), (.int .u32 0), (.int .u32 0), (.int .u32 0), (.int .u32 0), (.int .u32 0), (.int .u32 0), (.int .u32 0), (.int .u32 0), (.int .u32 0), (.int .u32 0), (.int .u32 0), (.int .u32 0), (.int .u32 0), (.int .u32 0), (.int .u32 0), (.int .u32 0), (.int .u32 0), (.int .u32 0), (.int .u32 0), (.int .u32 0), (.int .u32 0), (.int .u32 0), (.int .u32 0), (.int .u32 0), (.int .u32 0), (.int .u32 0), (.int .u32 0), (.int .u32 0), (.int .u32 0), (.int .u32 0), (.int .u32 0), (.int .u32 0), (.int .u32 0), (.int .u32 0), (.int .u32 0), (.int .u32 0), (.int .u32 0), (.int .u32 0), (.int .u32 0), (.int .u32 0), (.int .u32 0), (.int .u32 0), (.int .u32 0), (.int .u32 0), (.int .u32 0), (.int .u32 0), (.int .u32 0), (.int .u32 0), (.int .u32 0), (.int .u32 0), (.int .u32 0), (.int .u32 0), (.int .u32 0), (.int .u32 0), (.int .u32 0), (.int .u32 0), (.int .u32 0), (.int .u32 0), (.int .u32 0), (.int .u32 0), (.int .u32 0), (.int .u32 0), (.int .u32 0), (.int .u32 0), (.int .u32 0), (.int .u32 0), (.int .u32 0), (.int .u32 0), (.int .u32 0), (.int .u32 0), (.int .u32 0), (.int .u32 0), (.int .u32 0), (.int .u32 0), (.int .u32 0), (.int .u32 0), (.int .u32 0), (.int .u32 0), (.int .u32 0), (.int .u32 0), (.int .u32 0), (.int .u32 0), (.int .u32 0), (.int .u32 0), (.int .u32 0), (.int .u32 0), (.int .u32 0), (.int .u32 0), (.int .u32 0), (.int .u32 0), (.int .u32 0), (.int .u32 0), (.int .u32 0), (.int .u32 0), (.int .u32 0), (.int .u32 0), (.int .u32 0), (.int .u32 0), (.int .u32 0), (.int .u32 0), (.int .u32 0), (.int .u32 0), (.int .u32 0), (.int .u32 0), (.int .u32 0), (.int .u32 0), (.int .u32 0), (.int .u32 0), (.int .u32 0), (.int .u32 0)], [], none⟩] [] [] [2, 3, 5] true [] []
noncomputable def c5_11 : ACode := .region false [⟨some 39, .load true 4, [.t 2], none⟩,
  ⟨some 40, .call 19, [.t 39], none⟩,
  ⟨some 41, .call 17, [.t 5, .t 40], none⟩,
  ⟨some 38, .move, [.t 41], none⟩,
  ⟨some 42, .ext 0, [.t 38], none⟩,
  ⟨some 43, .ext 1, [.t 38], none⟩,
  ⟨some 6, .move, [.t 42], none⟩,
  ⟨some 7, .move, [.t 43], none⟩] [] [] [2, 3, 5, 6, 7] true [] []
noncomputable def c5_13 : ACode := .region false [⟨some 45, .load true 4, [.t 3], none⟩,
  ⟨some 46, .call 19, [.t 45], none⟩,
  ⟨some 47, .call 17, [.t 5, .t 46], none⟩,
  ⟨some 44, .move, [.t 47], none⟩,
  ⟨some 48, .ext 0, [.t 44], none⟩,
  ⟨some 49, .ext 1, [.t 44], none⟩,
  ⟨some 8, .move, [.t 48], none⟩,
  ⟨some 9, .move, [.t 49], none⟩] [] [] [2, 3, 5, 6, 7, 8, 9] true [] []
noncomputable def c5_16 : ACode := .region true [⟨some 50, .move, [.t 7], none⟩,
  ⟨some 51, .bin .neq, [.t 50, .c (.val (.int .i64 0))], none⟩,
  ⟨some 52, .move, [.t 51], none⟩,
  ⟨some 53, .move, [.t 9], some (some 52, false)⟩,
  ⟨some 54, .bin .neq, [.t 53, .c (.val (.int .i64 0))], some (some 52, false)⟩,
  ⟨some 55, .pick, [.t 52, .c (.val (.bool true)), .t 54], none⟩,
  ⟨some 56, .move, [.t 55], none⟩,
  ⟨some 57, .move, [.t 6], some (some 56, false)⟩,
  ⟨some 58, .toStr, [.t 57], some (some 56, false)⟩,
  ⟨some 59, .move, [.t 8], some (some 56, false)⟩,
  ⟨some 60, .toStr, [.t 59], some (some 56, false)⟩,
  ⟨some 61, .bin .eql, [.t 58, .t 60], some (some 56, false)⟩,
  ⟨some 62, .load true 4, [.t 2], some (some 56, false)⟩,
  ⟨some 63, .load true 4, [.t 3], some (some 56, false)⟩,
  ⟨some 64, .call 20, [.t 62, .t 63], some (some 56, false)⟩,
  ⟨some 65, .eqB true, [.t 61, .t 64], some (some 56, false)⟩,
  ⟨some 66, .pick, [.t 56, .c (.val (.bool true)), .t 65], none⟩] [] [] [2, 5, 6, 66] true [] []
noncomputable def c5_19 : ACode := .region false [⟨some 4, .move, [.c (.val (.bool false))], none⟩] [] [] [4] false [] []
noncomputable def c5_18 : ACode := .seq c5_19 .ret
noncomputable def c5_17 : ACode := .cond (.t 66) c5_18 .skip
noncomputable def c5_15 : ACode := .seq c5_16 c5_17
noncomputable def c5_21 : ACode := .region false [⟨some 68, .move, [.t 6], none⟩,
  ⟨some 69, .call 14, [.t 5, .t 68], none⟩,
  ⟨some 67, .move, [.t 69], none⟩,
  ⟨some 70, .ext 0, [.t 67], none⟩,
  ⟨some 71, .ext 1, [.t 67], none⟩,
  ⟨some 10, .alloc [(.int .i64 0), (.int .i64 0), (.int .i64 0), (.slice none 0 0)], [], none⟩,
  ⟨none, .store 4, [.t 10, .t 70], none⟩,
  ⟨some 11, .move, [.t 71], none⟩] [] [] [2, 6, 10, 11] true [] []
noncomputable def c5_24 : ACode := .region false [⟨some 72, .move, [.t 6], none⟩,
  ⟨some 73, .len, [.t 72], none⟩,
  ⟨some 74, .move, [.c (.val (.int .i64 0))], none⟩] [] [] [2, 6, 10, 11, 73, 74] false [] []
noncomputable def c5_28 : ACode := .region false [⟨some 75, .bin .lss, [.t 74, .t 73], none⟩] [] [] [2, 6, 10, 11, 73, 74, 75] false [] []
noncomputable def c5_30 : ACode := .cond (.t 75) .skip (.exit 0)
noncomputable def c5_34 : ACode := .region false [⟨some 76, .move, [.t 74], none⟩,
  ⟨some 12, .move, [.t 76], none⟩] [] [] [2, 6, 10, 11, 12, 73, 74] false [] []
noncomputable def c5_35 : ACode := .region false [⟨some 77, .move, [.t 6], none⟩,
  ⟨some 78, .move, [.t 12], none⟩,
  ⟨some 79, .ixS 1, [.t 77, .t 78], none⟩,
  ⟨some 80, .load false 1, [.t 79], none⟩,
  ⟨some 81, .bin .xor, [.t 80, .c (.val (.int .u8 255))], none⟩,
  ⟨some 82, .ixS 1, [.t 77, .t 78], none⟩,
  ⟨none, .store 1, [.t 82, .t 81], none⟩] [] [] [2, 6, 10, 11, 73, 74] true [] []
noncomputable def c5_33 : ACode := .seq c5_34 c5_35
noncomputable def c5_32 : ACode := .block 1 c5_33
noncomputable def c5_36 : ACode := .region false [⟨some 83, .bin .add, [.t 74, .c (.val (.int .i64 1))], none⟩,
  ⟨some 74, .move, [.t 83], none⟩] [] [] [2, 6, 10, 11, 73, 74] false [] []
noncomputable def c5_31 : ACode := .seq c5_32 c5_36
noncomputable def c5_29 : ACode := .seq c5_30 c5_31
noncomputable def c5_27 : ACode := .seq c5_28 c5_29
noncomputable def c5_26 : ACode := .loop c5_27
noncomputable def c5_25 : ACode := .block 0 c5_26
noncomputable def c5_23 : ACode := .seq c5_24 c5_25
noncomputable def c5_38 : ACode := .region false [⟨some 84, .move, [.t 11], none⟩,
  ⟨some 85, .bin .eql, [.t 84, .c (.val (.int .i64 0))], none⟩,
  ⟨some 86, .move, [.t 85], none⟩,
  ⟨some 87, .load true 4, [.t 10], some (some 86, true)⟩,
  ⟨some 88, .load true 4, [.t 2], some (some 86, true)⟩,
  ⟨some 89, .call 16, [.t 87, .t 88], some (some 86, true)⟩,
  ⟨some 90, .pick, [.t 86, .t 89, .c (.val (.bool false))], none⟩,
  ⟨some 4, .move, [.t 90], none⟩] [] [] [4] true [] []
noncomputable def c5_37 : ACode := .seq c5_38 .ret
noncomputable def c5_22 : ACode := .seq c5_23 c5_37
noncomputable def c5_20 : ACode := .seq c5_21 c5_22
noncomputable def c5_14 : ACode := .seq c5_15 c5_20
noncomputable def c5_12 : ACode := .seq c5_13 c5_14
noncomputable def c5_10 : ACode := .seq c5_11 c5_12
noncomputable def c5_8 : ACode := .seq c5_9 c5_10
noncomputable def c5_2 : ACode := .seq c5_3 c5_8
noncomputable def c5_0 : ACode := .seq c5_1 c5_2
noncomputable def code5 : Code := (Try.f5.body).getD .skip
theorem c5_ok : compC Try.prog 91 code5 = some (strip c5_0) := by kernel_rfl
theorem res5_ok : Try.f5.results.toList.mapM (resC Try.prog) = some [(4, none)] := by kernel_rfl
theorem fonly_walk (W : World) (x y : FrS) (hx : x.ok W) (hy : y.ok W) :
    Calls Try.prog 5 #[.agg (x.rep).toArray, .agg (y.rep).toArray] W fun e W' => e = .returned (.bool true) ∧ Below W.heap.size W W' := by
  obtain ⟨f, t, k, ⟨ad, off, cap, l⟩⟩ := x
  obtain ⟨f', t', k', ⟨ad', off', cap', l'⟩⟩ := y
  obtain ⟨-, -, -, hx4⟩ := hx
  obtain ⟨-, -, -, hy4⟩ := hy
  have hz := hx4.fz
  have hz' := hy4.fz
  have hb : ∀ x ∈ l, 0 ≤ x ∧ x ≤ 255 := hx4.all
  have hb' : ∀ x ∈ l', 0 ≤ x ∧ x ≤ 255 := hy4.all
  simp only at hz hz'
  by_cases hs : l.length ≤ 200 ∧ l'.length ≤ 200
  case neg =>
    by_cases hs1 : l.length ≤ 200
    · have h1 : (200 < (l.length : Int)) = False := eq_false (by omega)
      have h2 : (200 < (l'.length : Int)) = True := eq_true (by omega)
      refine top_call c5_ok Try.func5 rfl Try.ntmps5 res5_ok [ .agg [I f, I t, I k, .val (.slice ad l.length cap)], .agg [I f', I t', I k', .val (.slice ad' l'.length cap')]] (by simp) (by (repeat' (first | exact VRs_nil' _ | exact VR_val' _ _ | (refine VRs_cons' ?_ ?_) | (refine VR_agg' (by first | rfl | assumption) ?_; first | assumption | simp [Value.oneCell', FrS.rep])))) ?_; try simp (maxSteps := 9999999) (disch := omega) only [go_sem]
      (repeat' (first | refine AWpA.seq ?_ | refine AWpA.block ?_ | (with_reducible refine CondP.tt ?_) | (with_reducible refine CondP.ff ?_) | refine AWpA.condv (by simp (maxSteps := 9999999) (disch := omega) only [go_sem, h1, h2]; rfl) ?_ | ((first | (apply AWpA.region; (focus (simp (maxSteps := 9999999) (disch := omega) only [go_sem, h1, h2]; rfl))) | (apply AWpA.draw [] follows; (focus (simp (maxSteps := 9999999) (disch := omega) only [go_sem, h1, h2]; rfl)); (focus (simp (maxSteps := 9999999) (disch := omega) only [go_sem, h1, h2]; first | done | trivial)); (focus (simp (maxSteps := 9999999) (disch := omega) only [go_sem, h1, h2]; rfl))) | (apply TailK.go; (focus (simp (maxSteps := 9999999) (disch := omega) only [go_sem, h1, h2]; rfl))) | refine AWpA.skip ?_ | refine AWpA.exit ?_ | refine AWpA.ret ?_ | (with_reducible refine ARoundsA.succ ?_) | ((first | refine Runs.kt (by assumption) (fun h9 => ?_) | refine Runs.kf (by assumption) (fun h9 => ?_) | refine Runs.nt (by assumption) (fun h9 => ?_) | refine Runs.nf (by assumption) (fun h9 => ?_) | refine CondP.ht (by assumption) (fun h9 => ?_) | refine CondP.hf (by assumption) (fun h9 => ?_) | refine CondP.nt (by assumption) (fun h9 => ?_) | refine CondP.nf (by assumption) (fun h9 => ?_)); (try simp only [h9]); clear h9) | ((first | (with_reducible apply CallG.plain1 [] (speaks03_any)) | (with_reducible apply CallG.draw1 [] (speaks03_any))); (focus ((try refine And.intro (leAs_of_eq rfl) ?_); (try refine And.intro (leOL_of_eq rfl) ?_); simp (maxSteps := 9999999) (disch := omega) only [go_sem, h1, h2]; first | done | (repeat' (first | rfl | (refine And.intro ?_ ?_))))); (focus (simp (maxSteps := 9999999) (disch := omega) only [go_sem, h1, h2]; rfl)))); (try simp (maxSteps := 9999999) (disch := omega) only [go_sem, h1, h2]); (try (refine And.intro ?_ ?_; (focus (first | omega | (simp only [go_sem]; done) | (simp; done) | (simp; omega) | assumption))))) | ((first | refine CondP.split (fun hif => ?_) (fun hif => ?_) | refine Runs.part (fun hif => ?_) (fun hif => ?_)) <;> ((try simp only [hif]); (try simp only [decide_eq_true_eq, decide_eq_false_iff_not, Bool.not_eq_true, Bool.not_eq_false, Bool.not_eq_true', Bool.not_eq_false', beq_iff_eq, bne_iff_ne, bne_eq_false_iff_eq, beq_eq_false_iff_ne, ne_eq, Bool.and_eq_true, Bool.or_eq_true, Bool.or_eq_false_iff] at hif); (try (have h9 : _ = true := hif; simp only [h9])); (try (have h9 : _ = false := hif; simp only [h9])); (try simp (maxSteps := 9999999) (disch := omega) only [go_sem, h1, h2]); (try (refine And.intro ?_ ?_; (focus (first | omega | (simp only [go_sem]; done) | (simp; done) | (simp; omega) | assumption)))); (try (exfalso; omega; done))))))
      all_goals (refine TopPost.of (by first | exact .inl rfl | exact .inr rfl) (by (try simp (maxSteps := 9999999) (disch := omega) only [go_sem]); rfl) ?_; (try simp (maxSteps := 9999999) (disch := omega) only [go_sem]); (try (first | trivial | decide | (simp; done))))
    · have h1 : (200 < (l.length : Int)) = True := eq_true (by omega)
      refine top_call c5_ok Try.func5 rfl Try.ntmps5 res5_ok [ .agg [I f, I t, I k, .val (.slice ad l.length cap)], .agg [I f', I t', I k', .val (.slice ad' l'.length cap')]] (by simp) (by (repeat' (first | exact VRs_nil' _ | exact VR_val' _ _ | (refine VRs_cons' ?_ ?_) | (refine VR_agg' (by first | rfl | assumption) ?_; first | assumption | simp [Value.oneCell', FrS.rep])))) ?_; try simp (maxSteps := 9999999) (disch := omega) only [go_sem]
      (repeat' (first | refine AWpA.seq ?_ | refine AWpA.block ?_ | (with_reducible refine CondP.tt ?_) | (with_reducible refine CondP.ff ?_) | refine AWpA.condv (by simp (maxSteps := 9999999) (disch := omega) only [go_sem, h1]; rfl) ?_ | ((first | (apply AWpA.region; (focus (simp (maxSteps := 9999999) (disch := omega) only [go_sem, h1]; rfl))) | (apply AWpA.draw [] follows; (focus (simp (maxSteps := 9999999) (disch := omega) only [go_sem, h1]; rfl)); (focus (simp (maxSteps := 9999999) (disch := omega) only [go_sem, h1]; first | done | trivial)); (focus (simp (maxSteps := 9999999) (disch := omega) only [go_sem, h1]; rfl))) | (apply TailK.go; (focus (simp (maxSteps := 9999999) (disch := omega) only [go_sem, h1]; rfl))) | refine AWpA.skip ?_ | refine AWpA.exit ?_ | refine AWpA.ret ?_ | (with_reducible refine ARoundsA.succ ?_) | ((first | refine Runs.kt (by assumption) (fun h9 => ?_) | refine Runs.kf (by assumption) (fun h9 => ?_) | refine Runs.nt (by assumption) (fun h9 => ?_) | refine Runs.nf (by assumption) (fun h9 => ?_) | refine CondP.ht (by assumption) (fun h9 => ?_) | refine CondP.hf (by assumption) (fun h9 => ?_) | refine CondP.nt (by assumption) (fun h9 => ?_) | refine CondP.nf (by assumption) (fun h9 => ?_)); (try simp only [h9]); clear h9) | ((first | (with_reducible apply CallG.plain1 [] (speaks03_any)) | (with_reducible apply CallG.draw1 [] (speaks03_any))); (focus ((try refine And.intro (leAs_of_eq rfl) ?_); (try refine And.intro (leOL_of_eq rfl) ?_); simp (maxSteps := 9999999) (disch := omega) only [go_sem, h1]; first | done | (repeat' (first | rfl | (refine And.intro ?_ ?_))))); (focus (simp (maxSteps := 9999999) (disch := omega) only [go_sem, h1]; rfl)))); (try simp (maxSteps := 9999999) (disch := omega) only [go_sem, h1]); (try (refine And.intro ?_ ?_; (focus (first | omega | (simp only [go_sem]; done) | (simp; done) | (simp; omega) | assumption))))) | ((first | refine CondP.split (fun hif => ?_) (fun hif => ?_) | refine Runs.part (fun hif => ?_) (fun hif => ?_)) <;> ((try simp only [hif]); (try simp only [decide_eq_true_eq, decide_eq_false_iff_not, Bool.not_eq_true, Bool.not_eq_false, Bool.not_eq_true', Bool.not_eq_false', beq_iff_eq, bne_iff_ne, bne_eq_false_iff_eq, beq_eq_false_iff_ne, ne_eq, Bool.and_eq_true, Bool.or_eq_true, Bool.or_eq_false_iff] at hif); (try (have h9 : _ = true := hif; simp only [h9])); (try (have h9 : _ = false := hif; simp only [h9])); (try simp (maxSteps := 9999999) (disch := omega) only [go_sem, h1]); (try (refine And.intro ?_ ?_; (focus (first | omega | (simp only [go_sem]; done) | (simp; done) | (simp; omega) | assumption)))); (try (exfalso; omega; done))))))
      all_goals (refine TopPost.of (by first | exact .inl rfl | exact .inr rfl) (by (try simp (maxSteps := 9999999) (disch := omega) only [go_sem]); rfl) ?_; (try simp (maxSteps := 9999999) (disch := omega) only [go_sem]); (try (first | trivial | decide | (simp; done))))
  have h1 : (200 < (l.length : Int)) = False := eq_false (by omega)
  have h2 : (200 < (l'.length : Int)) = False := eq_false (by omega)
  have sg := Seg.rows (off := off) (l := l) (by omega)
  have sg' := Seg.rows (off := off') (l := l') (by omega)
  refine top_call c5_ok Try.func5 rfl Try.ntmps5 res5_ok [ .agg [I f, I t, I k, .val (.slice ad l.length cap)], .agg [I f', I t', I k', .val (.slice ad' l'.length cap')]] (by simp) (by (repeat' (first | exact VRs_nil' _ | exact VR_val' _ _ | (refine VRs_cons' ?_ ?_) | (refine VR_agg' (by first | rfl | assumption) ?_; first | assumption | simp [Value.oneCell', FrS.rep])))) ?_; try simp (maxSteps := 9999999) (disch := omega) only [go_sem]
  refine AWpA.thawA 0 3 (fun n : Int => [.val (.int .u8 n)]) hz (fun _ => rfl) rfl rfl ?_
  refine AWpA.thawA 1 3 (fun n : Int => [.val (.int .u8 n)]) hz' (fun _ => rfl) rfl rfl ?_
  generalize rowsC off (fun n : Int => [.val (.int .u8 n)]) l = P at sg
  generalize rowsC off' (fun n : Int => [.val (.int .u8 n)]) l' = P' at sg'
  simp only [List.set_cons_zero, List.set_cons_succ]
  have c1 := rfcheck_any sg f t k
  have c2 := rfcheck_any sg' f' t' k'
  by_cases hk : chkF f t k l.length = 0
  case neg =>
    have g1 : (chkF f t k l.length != 0) = true := by rw [bne_iff_ne]; exact hk
    generalize chkF f t k l.length = c at *
    (try simp (maxSteps := 9999999) (disch := omega) only [go_sem])
    (repeat' (first | refine AWpA.seq ?_ | refine AWpA.block ?_ | (with_reducible refine CondP.tt ?_) | (with_reducible refine CondP.ff ?_) | refine AWpA.condv (by simp (maxSteps := 9999999) (disch := omega) only [go_sem, h1, h2, g1, sg.ren, sg'.ren]; rfl) ?_ | ((first | (apply AWpA.region; (focus (simp (maxSteps := 9999999) (disch := omega) only [go_sem, h1, h2, g1, sg.ren, sg'.ren]; rfl))) | (apply AWpA.draw [] follows; (focus (simp (maxSteps := 9999999) (disch := omega) only [go_sem, h1, h2, g1, sg.ren, sg'.ren]; rfl)); (focus (simp (maxSteps := 9999999) (disch := omega) only [go_sem, h1, h2, g1, sg.ren, sg'.ren]; first | done | trivial)); (focus (simp (maxSteps := 9999999) (disch := omega) only [go_sem, h1, h2, g1, sg.ren, sg'.ren]; rfl))) | (apply TailK.go; (focus (simp (maxSteps := 9999999) (disch := omega) only [go_sem, h1, h2, g1, sg.ren, sg'.ren]; rfl))) | refine AWpA.skip ?_ | refine AWpA.exit ?_ | refine AWpA.ret ?_ | (with_reducible refine ARoundsA.succ ?_) | ((first | refine Runs.kt (by assumption) (fun h9 => ?_) | refine Runs.kf (by assumption) (fun h9 => ?_) | refine Runs.nt (by assumption) (fun h9 => ?_) | refine Runs.nf (by assumption) (fun h9 => ?_) | refine CondP.ht (by assumption) (fun h9 => ?_) | refine CondP.hf (by assumption) (fun h9 => ?_) | refine CondP.nt (by assumption) (fun h9 => ?_) | refine CondP.nf (by assumption) (fun h9 => ?_)); (try simp only [h9]); clear h9) | ((first | (with_reducible apply CallG.plain1 [0] (c1)) | (with_reducible apply CallG.draw1 [0] (c1))); (focus ((try refine And.intro (leAs_of_eq rfl) ?_); (try refine And.intro (leOL_of_eq rfl) ?_); simp (maxSteps := 9999999) (disch := omega) only [go_sem, h1, h2, g1, sg.ren, sg'.ren]; first | done | (repeat' (first | rfl | (refine And.intro ?_ ?_))))); (focus (simp (maxSteps := 9999999) (disch := omega) only [go_sem, h1, h2, g1, sg.ren, sg'.ren]; rfl))) | ((first | (with_reducible apply CallG.plain1 [] (speaks03_any)) | (with_reducible apply CallG.draw1 [] (speaks03_any))); (focus ((try refine And.intro (leAs_of_eq rfl) ?_); (try refine And.intro (leOL_of_eq rfl) ?_); simp (maxSteps := 9999999) (disch := omega) only [go_sem, h1, h2, g1, sg.ren, sg'.ren]; first | done | (repeat' (first | rfl | (refine And.intro ?_ ?_))))); (focus (simp (maxSteps := 9999999) (disch := omega) only [go_sem, h1, h2, g1, sg.ren, sg'.ren]; rfl)))); (try simp (maxSteps := 9999999) (disch := omega) only [go_sem, h1, h2, g1, sg.ren, sg'.ren]); (try (refine And.intro ?_ ?_; (focus (first | omega | (simp only [go_sem]; done) | (simp; done) | (simp; omega) | assumption))))) | ((first | refine CondP.split (fun hif => ?_) (fun hif => ?_) | refine Runs.part (fun hif => ?_) (fun hif => ?_)) <;> ((try simp only [hif]); (try simp only [decide_eq_true_eq, decide_eq_false_iff_not, Bool.not_eq_true, Bool.not_eq_false, Bool.not_eq_true', Bool.not_eq_false', beq_iff_eq, bne_iff_ne, bne_eq_false_iff_eq, beq_eq_false_iff_ne, ne_eq, Bool.and_eq_true, Bool.or_eq_true, Bool.or_eq_false_iff] at hif); (try (have h9 : _ = true := hif; simp only [h9])); (try (have h9 : _ = false := hif; simp only [h9])); (try simp (maxSteps := 9999999) (disch := omega) only [go_sem, h1, h2, g1, sg.ren, sg'.ren]); (try (refine And.intro ?_ ?_; (focus (first | omega | (simp only [go_sem]; done) | (simp; done) | (simp; omega) | assumption)))); (try (exfalso; omega; done))))))
    all_goals (refine TopPost.of (by first | exact .inl rfl | exact .inr rfl) (by (try simp (maxSteps := 9999999) (disch := omega) only [go_sem]); rfl) ?_; (try simp (maxSteps := 9999999) (disch := omega) only [go_sem]); (try (first | trivial | decide | (simp; done))))
  rw [hk] at c1
  by_cases hk' : chkF f' t' k' l'.length = 0
  case neg =>
    have g1 : (chkF f' t' k' l'.length != 0) = true := by rw [bne_iff_ne]; exact hk'
    generalize chkF f' t' k' l'.length = c at *
    (try simp (maxSteps := 9999999) (disch := omega) only [go_sem])
    (repeat' (first | refine AWpA.seq ?_ | refine AWpA.block ?_ | (with_reducible refine CondP.tt ?_) | (with_reducible refine CondP.ff ?_) | refine AWpA.condv (by simp (maxSteps := 9999999) (disch := omega) only [go_sem, h1, h2, g1, sg.ren, sg'.ren]; rfl) ?_ | ((first | (apply AWpA.region; (focus (simp (maxSteps := 9999999) (disch := omega) only [go_sem, h1, h2, g1, sg.ren, sg'.ren]; rfl))) | (apply AWpA.draw [] follows; (focus (simp (maxSteps := 9999999) (disch := omega) only [go_sem, h1, h2, g1, sg.ren, sg'.ren]; rfl)); (focus (simp (maxSteps := 9999999) (disch := omega) only [go_sem, h1, h2, g1, sg.ren, sg'.ren]; first | done | trivial)); (focus (simp (maxSteps := 9999999) (disch := omega) only [go_sem, h1, h2, g1, sg.ren, sg'.ren]; rfl))) | (apply TailK.go; (focus (simp (maxSteps := 9999999) (disch := omega) only [go_sem, h1, h2, g1, sg.ren, sg'.ren]; rfl))) | refine AWpA.skip ?_ | refine AWpA.exit ?_ | refine AWpA.ret ?_ | (with_reducible refine ARoundsA.succ ?_) | ((first | refine Runs.kt (by assumption) (fun h9 => ?_) | refine Runs.kf (by assumption) (fun h9 => ?_) | refine Runs.nt (by assumption) (fun h9 => ?_) | refine Runs.nf (by assumption) (fun h9 => ?_) | refine CondP.ht (by assumption) (fun h9 => ?_) | refine CondP.hf (by assumption) (fun h9 => ?_) | refine CondP.nt (by assumption) (fun h9 => ?_) | refine CondP.nf (by assumption) (fun h9 => ?_)); (try simp only [h9]); clear h9) | ((first | (with_reducible apply CallG.plain1 [0] (c1)) | (with_reducible apply CallG.draw1 [0] (c1))); (focus ((try refine And.intro (leAs_of_eq rfl) ?_); (try refine And.intro (leOL_of_eq rfl) ?_); simp (maxSteps := 9999999) (disch := omega) only [go_sem, h1, h2, g1, sg.ren, sg'.ren]; first | done | (repeat' (first | rfl | (refine And.intro ?_ ?_))))); (focus (simp (maxSteps := 9999999) (disch := omega) only [go_sem, h1, h2, g1, sg.ren, sg'.ren]; rfl))) | ((first | (with_reducible apply CallG.plain1 [1] (c2)) | (with_reducible apply CallG.draw1 [1] (c2))); (focus ((try refine And.intro (leAs_of_eq rfl) ?_); (try refine And.intro (leOL_of_eq rfl) ?_); simp (maxSteps := 9999999) (disch := omega) only [go_sem, h1, h2, g1, sg.ren, sg'.ren]; first | done | (repeat' (first | rfl | (refine And.intro ?_ ?_))))); (focus (simp (maxSteps := 9999999) (disch := omega) only [go_sem, h1, h2, g1, sg.ren, sg'.ren]; rfl))) | ((first | (with_reducible apply CallG.plain1 [] (speaks03_any)) | (with_reducible apply CallG.draw1 [] (speaks03_any))); (focus ((try refine And.intro (leAs_of_eq rfl) ?_); (try refine And.intro (leOL_of_eq rfl) ?_); simp (maxSteps := 9999999) (disch := omega) only [go_sem, h1, h2, g1, sg.ren, sg'.ren]; first | done | (repeat' (first | rfl | (refine And.intro ?_ ?_))))); (focus (simp (maxSteps := 9999999) (disch := omega) only [go_sem, h1, h2, g1, sg.ren, sg'.ren]; rfl)))); (try simp (maxSteps := 9999999) (disch := omega) only [go_sem, h1, h2, g1, sg.ren, sg'.ren]); (try (refine And.intro ?_ ?_; (focus (first | omega | (simp only [go_sem]; done) | (simp; done) | (simp; omega) | assumption))))) | ((first | refine CondP.split (fun hif => ?_) (fun hif => ?_) | refine Runs.part (fun hif => ?_) (fun hif => ?_)) <;> ((try simp only [hif]); (try simp only [decide_eq_true_eq, decide_eq_false_iff_not, Bool.not_eq_true, Bool.not_eq_false, Bool.not_eq_true', Bool.not_eq_false', beq_iff_eq, bne_iff_ne, bne_eq_false_iff_eq, beq_eq_false_iff_ne, ne_eq, Bool.and_eq_true, Bool.or_eq_true, Bool.or_eq_false_iff] at hif); (try (have h9 : _ = true := hif; simp only [h9])); (try (have h9 : _ = false := hif; simp only [h9])); (try simp (maxSteps := 9999999) (disch := omega) only [go_sem, h1, h2, g1, sg.ren, sg'.ren]); (try (refine And.intro ?_ ?_; (focus (first | omega | (simp only [go_sem]; done) | (simp; done) | (simp; omega) | assumption)))); (try (exfalso; omega; done))))))
    all_goals (refine TopPost.of (by first | exact .inl rfl | exact .inr rfl) (by (try simp (maxSteps := 9999999) (disch := omega) only [go_sem]); rfl) ?_; (try simp (maxSteps := 9999999) (disch := omega) only [go_sem]); (try (first | trivial | decide | (simp; done))))
  rw [hk'] at c2
  have c3 := of_any sg f t k
  have c4 := of_any sg' f' t' k'
  have c6 := rsame_any sg sg' hb hb' f t k f' t' k'
  have c7 := fenc_ok false sg hb f t k hk
  have c7' := fenc_ok true sg' hb' f' t' k' hk'
  obtain ⟨e1, e2, e3, e4, e5⟩ := fd_enc hk
  have hfl : (frB f t k l).length = l.length + 9 := by unfold frB; rw [mkd_length, List.length_append, frH_len]; omega
  have hfl' : (frB f' t' k' l').length = l'.length + 9 := by unfold frB; rw [mkd_length, List.length_append, frH_len]; omega
  have hfb : ∀ x ∈ frB f t k l, 0 ≤ x ∧ x ≤ 255 := mkd_bytes (frH_bytes hk hb)
  have hfb' : ∀ x ∈ frB f' t' k' l', 0 ≤ x ∧ x ≤ 255 := mkd_bytes (frH_bytes hk' hb')
  have c8 := (fdec_any true (Seg.all (frB f t k l) (by omega)) hfb).2 e1
  rw [e2, e3, e4, e5, hfl, Nat.add_sub_cancel] at c8
  have c10 := is_any (Seg.all l (by omega)) sg hb hb f t k f t k
  rw [sameB_self] at c10
  have hbe := ba_beq hfb hfb'
  rw [frB_inj hk hk'] at hbe
  have htk : (frB f t k l).take (l.length + 9) = frB f t k l := List.take_of_length_le (by omega)
  have htk' : (frB f' t' k' l').take (l'.length + 9) = frB f' t' k' l' := List.take_of_length_le (by omega)
  clear e1 e2 e3 e4 e5
  generalize sameB f t k l f' t' k' l' = b at *
  generalize frB f t k l = B at *
  generalize frB f' t' k' l' = B' at *
  (try simp (maxSteps := 9999999) (disch := omega) only [go_sem])
  (repeat' (first | refine AWpA.seq ?_ | refine AWpA.block ?_ | (with_reducible refine CondP.tt ?_) | (with_reducible refine CondP.ff ?_) | refine AWpA.condv (by simp (maxSteps := 9999999) (disch := omega) only [go_sem, h1, h2, sg.ren, sg'.ren, tb_ren, tb_lit, bA_ren, hfl, hfl', htk, htk', hbe]; rfl) ?_ | ((first | (apply AWpA.region; (focus (simp (maxSteps := 9999999) (disch := omega) only [go_sem, h1, h2, sg.ren, sg'.ren, tb_ren, tb_lit, bA_ren, hfl, hfl', htk, htk', hbe]; rfl))) | (apply AWpA.draw [] follows; (focus (simp (maxSteps := 9999999) (disch := omega) only [go_sem, h1, h2, sg.ren, sg'.ren, tb_ren, tb_lit, bA_ren, hfl, hfl', htk, htk', hbe]; rfl)); (focus (simp (maxSteps := 9999999) (disch := omega) only [go_sem, h1, h2, sg.ren, sg'.ren, tb_ren, tb_lit, bA_ren, hfl, hfl', htk, htk', hbe]; first | done | trivial)); (focus (simp (maxSteps := 9999999) (disch := omega) only [go_sem, h1, h2, sg.ren, sg'.ren, tb_ren, tb_lit, bA_ren, hfl, hfl', htk, htk', hbe]; rfl))) | (apply TailK.go; (focus (simp (maxSteps := 9999999) (disch := omega) only [go_sem, h1, h2, sg.ren, sg'.ren, tb_ren, tb_lit, bA_ren, hfl, hfl', htk, htk', hbe]; rfl))) | refine AWpA.skip ?_ | refine AWpA.exit ?_ | refine AWpA.ret ?_ | (with_reducible refine ARoundsA.succ ?_) | ((first | refine Runs.kt (by assumption) (fun h9 => ?_) | refine Runs.kf (by assumption) (fun h9 => ?_) | refine Runs.nt (by assumption) (fun h9 => ?_) | refine Runs.nf (by assumption) (fun h9 => ?_) | refine CondP.ht (by assumption) (fun h9 => ?_) | refine CondP.hf (by assumption) (fun h9 => ?_) | refine CondP.nt (by assumption) (fun h9 => ?_) | refine CondP.nf (by assumption) (fun h9 => ?_)); (try simp only [h9]); clear h9) | ((first | (with_reducible apply CallG.plain1 [0] (c1)) | (with_reducible apply CallG.draw1 [0] (c1))); (focus ((try refine And.intro (leAs_of_eq rfl) ?_); (try refine And.intro (leOL_of_eq rfl) ?_); simp (maxSteps := 9999999) (disch := omega) only [go_sem, h1, h2, sg.ren, sg'.ren, tb_ren, tb_lit, bA_ren, hfl, hfl', htk, htk', hbe]; first | done | (repeat' (first | rfl | (refine And.intro ?_ ?_))))); (focus (simp (maxSteps := 9999999) (disch := omega) only [go_sem, h1, h2, sg.ren, sg'.ren, tb_ren, tb_lit, bA_ren, hfl, hfl', htk, htk', hbe]; rfl))) | ((first | (with_reducible apply CallG.plain1 [1] (c2)) | (with_reducible apply CallG.draw1 [1] (c2))); (focus ((try refine And.intro (leAs_of_eq rfl) ?_); (try refine And.intro (leOL_of_eq rfl) ?_); simp (maxSteps := 9999999) (disch := omega) only [go_sem, h1, h2, sg.ren, sg'.ren, tb_ren, tb_lit, bA_ren, hfl, hfl', htk, htk', hbe]; first | done | (repeat' (first | rfl | (refine And.intro ?_ ?_))))); (focus (simp (maxSteps := 9999999) (disch := omega) only [go_sem, h1, h2, sg.ren, sg'.ren, tb_ren, tb_lit, bA_ren, hfl, hfl', htk, htk', hbe]; rfl))) | ((first | (with_reducible apply CallG.plain1 [0] (c3)) | (with_reducible apply CallG.draw1 [0] (c3))); (focus ((try refine And.intro (leAs_of_eq rfl) ?_); (try refine And.intro (leOL_of_eq rfl) ?_); simp (maxSteps := 9999999) (disch := omega) only [go_sem, h1, h2, sg.ren, sg'.ren, tb_ren, tb_lit, bA_ren, hfl, hfl', htk, htk', hbe]; first | done | (repeat' (first | rfl | (refine And.intro ?_ ?_))))); (focus (simp (maxSteps := 9999999) (disch := omega) only [go_sem, h1, h2, sg.ren, sg'.ren, tb_ren, tb_lit, bA_ren, hfl, hfl', htk, htk', hbe]; rfl))) | ((first | (with_reducible apply CallG.plain1 [1] (c4)) | (with_reducible apply CallG.draw1 [1] (c4))); (focus ((try refine And.intro (leAs_of_eq rfl) ?_); (try refine And.intro (leOL_of_eq rfl) ?_); simp (maxSteps := 9999999) (disch := omega) only [go_sem, h1, h2, sg.ren, sg'.ren, tb_ren, tb_lit, bA_ren, hfl, hfl', htk, htk', hbe]; first | done | (repeat' (first | rfl | (refine And.intro ?_ ?_))))); (focus (simp (maxSteps := 9999999) (disch := omega) only [go_sem, h1, h2, sg.ren, sg'.ren, tb_ren, tb_lit, bA_ren, hfl, hfl', htk, htk', hbe]; rfl))) | ((first | (with_reducible apply CallG.plain1 [0, 1] (c6)) | (with_reducible apply CallG.draw1 [0, 1] (c6))); (focus ((try refine And.intro (leAs_of_eq rfl) ?_); (try refine And.intro (leOL_of_eq rfl) ?_); simp (maxSteps := 9999999) (disch := omega) only [go_sem, h1, h2, sg.ren, sg'.ren, tb_ren, tb_lit, bA_ren, hfl, hfl', htk, htk', hbe]; first | done | (repeat' (first | rfl | (refine And.intro ?_ ?_))))); (focus (simp (maxSteps := 9999999) (disch := omega) only [go_sem, h1, h2, sg.ren, sg'.ren, tb_ren, tb_lit, bA_ren, hfl, hfl', htk, htk', hbe]; rfl))) | ((first | (with_reducible apply CallG.plain1 [434, 0] (c7)) | (with_reducible apply CallG.draw1 [434, 0] (c7))); (focus ((try refine And.intro (leAs_of_eq rfl) ?_); (try refine And.intro (leOL_of_eq rfl) ?_); simp (maxSteps := 9999999) (disch := omega) only [go_sem, h1, h2, sg.ren, sg'.ren, tb_ren, tb_lit, bA_ren, hfl, hfl', htk, htk', hbe]; first | done | (repeat' (first | rfl | (refine And.intro ?_ ?_))))); (focus (simp (maxSteps := 9999999) (disch := omega) only [go_sem, h1, h2, sg.ren, sg'.ren, tb_ren, tb_lit, bA_ren, hfl, hfl', htk, htk', hbe]; rfl))) | ((first | (with_reducible apply CallG.plain1 [434, 1] (c7')) | (with_reducible apply CallG.draw1 [434, 1] (c7'))); (focus ((try refine And.intro (leAs_of_eq rfl) ?_); (try refine And.intro (leOL_of_eq rfl) ?_); simp (maxSteps := 9999999) (disch := omega) only [go_sem, h1, h2, sg.ren, sg'.ren, tb_ren, tb_lit, bA_ren, hfl, hfl', htk, htk', hbe]; first | done | (repeat' (first | rfl | (refine And.intro ?_ ?_))))); (focus (simp (maxSteps := 9999999) (disch := omega) only [go_sem, h1, h2, sg.ren, sg'.ren, tb_ren, tb_lit, bA_ren, hfl, hfl', htk, htk', hbe]; rfl))) | ((first | (with_reducible apply CallG.plain1 [434, 482] (c8)) | (with_reducible apply CallG.draw1 [434, 482] (c8))); (focus ((try refine And.intro (leAs_of_eq rfl) ?_); (try refine And.intro (leOL_of_eq rfl) ?_); simp (maxSteps := 9999999) (disch := omega) only [go_sem, h1, h2, sg.ren, sg'.ren, tb_ren, tb_lit, bA_ren, hfl, hfl', htk, htk', hbe]; first | done | (repeat' (first | rfl | (refine And.intro ?_ ?_))))); (focus (simp (maxSteps := 9999999) (disch := omega) only [go_sem, h1, h2, sg.ren, sg'.ren, tb_ren, tb_lit, bA_ren, hfl, hfl', htk, htk', hbe]; rfl))) | ((first | (with_reducible apply CallG.plain1 [] (speaks03_any)) | (with_reducible apply CallG.draw1 [] (speaks03_any))); (focus ((try refine And.intro (leAs_of_eq rfl) ?_); (try refine And.intro (leOL_of_eq rfl) ?_); simp (maxSteps := 9999999) (disch := omega) only [go_sem, h1, h2, sg.ren, sg'.ren, tb_ren, tb_lit, bA_ren, hfl, hfl', htk, htk', hbe]; first | done | (repeat' (first | rfl | (refine And.intro ?_ ?_))))); (focus (simp (maxSteps := 9999999) (disch := omega) only [go_sem, h1, h2, sg.ren, sg'.ren, tb_ren, tb_lit, bA_ren, hfl, hfl', htk, htk', hbe]; rfl)))); (try simp (maxSteps := 9999999) (disch := omega) only [go_sem, h1, h2, sg.ren, sg'.ren, tb_ren, tb_lit, bA_ren, hfl, hfl', htk, htk', hbe]); (try (refine And.intro ?_ ?_; (focus (first | omega | (simp only [go_sem]; done) | (simp; done) | (simp; omega) | assumption))))) | ((first | refine CondP.split (fun hif => ?_) (fun hif => ?_) | refine Runs.part (fun hif => ?_) (fun hif => ?_)) <;> ((try simp only [hif]); (try simp only [decide_eq_true_eq, decide_eq_false_iff_not, Bool.not_eq_true, Bool.not_eq_false, Bool.not_eq_true', Bool.not_eq_false', beq_iff_eq, bne_iff_ne, bne_eq_false_iff_eq, beq_eq_false_iff_ne, ne_eq, Bool.and_eq_true, Bool.or_eq_true, Bool.or_eq_false_iff] at hif); (try (have h9 : _ = true := hif; simp only [h9])); (try (have h9 : _ = false := hif; simp only [h9])); (try simp (maxSteps := 9999999) (disch := omega) only [go_sem, h1, h2, sg.ren, sg'.ren, tb_ren, tb_lit, bA_ren, hfl, hfl', htk, htk', hbe]); (try (refine And.intro ?_ ?_; (focus (first | omega | (simp only [go_sem]; done) | (simp; done) | (simp; omega) | assumption)))); (try (exfalso; omega; done))))))
  (apply AWpA.loopL (fun p : Nat × List Int => [(2, .ptr 1 0), (6, .sl 2 0 (l.length + 9) 1 none), (10, .ptr 3 0), (11, I 0), (73, I ((l.length : Int) + 9)), (74, I p.1)]) (fun p => [.cells true P, .cells false [I f, I t, I k, .sl 0 off l.length 1 none], .cells false (bA p.2), .cells false [I f, I t, I k, .sl 4 0 l.length 1 none], .cells false (bA l)]) (fun p => l.length + 9 - p.1) (fun p => p.1 ≤ l.length + 9 ∧ p.2.length = l.length + 9) ((0, B)) [0, 2, 482, 1058, 994]; rotate_left; (focus (simp (maxSteps := 9999999) (disch := omega) only [go_sem, sg.ren, bA_ren]; (try (repeat' (first | done | trivial | rfl | exact leAs_rfl _ | decide | (refine And.intro ?_ ?_) | (simp; done) | omega | (simp; decide)))))); rotate_right)
  · exact ⟨Nat.zero_le _, hfl⟩
  clear c1 c2 c3 c4 c6 c7 c7' c8 hbe htk htk'
  rintro ⟨i, T⟩ ⟨hi, hT⟩
  (try simp only at hi hT)
  by_cases hin : i < l.length + 9
  · have g1 : ((i : Int) < (l.length : Int) + 9) = True := eq_true (by omega)
    have g7 := bA_getD2 (L := T) (a := i) (by omega)
    have g8 := bA_put2 T i (bits .xor .u8 (T.getD i 0) 255) (by omega)
    have hTs : (T.set i (bits .xor .u8 (T.getD i 0) 255)).length = l.length + 9 := by rw [List.length_set]; exact hT
    generalize hcc : T.getD i 0 = c at g7 g8 hTs
    (try simp (maxSteps := 9999999) (disch := omega) only [go_sem])
    (repeat' (first | refine AWpA.seq ?_ | refine AWpA.block ?_ | (with_reducible refine CondP.tt ?_) | (with_reducible refine CondP.ff ?_) | refine AWpA.condv (by simp (maxSteps := 9999999) (disch := omega) only [go_sem, g1, g7, sg.ren, bA_ren, hT]; rfl) ?_ | ((first | (apply AWpA.region; (focus (simp (maxSteps := 9999999) (disch := omega) only [go_sem, g1, g7, sg.ren, bA_ren, hT]; rfl))) | (apply AWpA.draw [] follows; (focus (simp (maxSteps := 9999999) (disch := omega) only [go_sem, g1, g7, sg.ren, bA_ren, hT]; rfl)); (focus (simp (maxSteps := 9999999) (disch := omega) only [go_sem, g1, g7, sg.ren, bA_ren, hT]; first | done | trivial)); (focus (simp (maxSteps := 9999999) (disch := omega) only [go_sem, g1, g7, sg.ren, bA_ren, hT]; rfl))) | (apply TailK.go; (focus (simp (maxSteps := 9999999) (disch := omega) only [go_sem, g1, g7, sg.ren, bA_ren, hT]; rfl))) | refine AWpA.skip ?_ | refine AWpA.exit ?_ | refine AWpA.ret ?_ | (with_reducible refine ARoundsA.succ ?_) | ((first | refine Runs.kt (by assumption) (fun h9 => ?_) | refine Runs.kf (by assumption) (fun h9 => ?_) | refine Runs.nt (by assumption) (fun h9 => ?_) | refine Runs.nf (by assumption) (fun h9 => ?_) | refine CondP.ht (by assumption) (fun h9 => ?_) | refine CondP.hf (by assumption) (fun h9 => ?_) | refine CondP.nt (by assumption) (fun h9 => ?_) | refine CondP.nf (by assumption) (fun h9 => ?_)); (try simp only [h9]); clear h9)); (try simp (maxSteps := 9999999) (disch := omega) only [go_sem, g1, g7, sg.ren, bA_ren, hT]); (try (refine And.intro ?_ ?_; (focus (first | omega | (simp only [go_sem]; done) | (simp; done) | (simp; omega) | assumption))))) | ((first | refine CondP.split (fun hif => ?_) (fun hif => ?_) | refine Runs.part (fun hif => ?_) (fun hif => ?_)) <;> ((try simp only [hif]); (try simp only [decide_eq_true_eq, decide_eq_false_iff_not, Bool.not_eq_true, Bool.not_eq_false, Bool.not_eq_true', Bool.not_eq_false', beq_iff_eq, bne_iff_ne, bne_eq_false_iff_eq, beq_eq_false_iff_ne, ne_eq, Bool.and_eq_true, Bool.or_eq_true, Bool.or_eq_false_iff] at hif); (try (have h9 : _ = true := hif; simp only [h9])); (try (have h9 : _ = false := hif; simp only [h9])); (try simp (maxSteps := 9999999) (disch := omega) only [go_sem, g1, g7, sg.ren, bA_ren, hT]); (try (refine And.intro ?_ ?_; (focus (first | omega | (simp only [go_sem]; done) | (simp; done) | (simp; omega) | assumption)))); (try (exfalso; omega; done))))))
    (apply Back.to (i + 1, T.set i (bits .xor .u8 c 255)) [0, 1, 2, 3, 4]; (focus ((try simp (maxSteps := 9999999) (disch := omega) only [go_sem, g8, sg.ren, bA_ren]); first | done | omega)); rotate_left; (focus (simp (maxSteps := 9999999) (disch := omega) only [go_sem, g8, sg.ren, bA_ren]; (try (repeat' (first | done | trivial | rfl | exact leAs_rfl _ | decide | (refine And.intro ?_ ?_) | (simp; done) | omega | (simp; decide)))))))
    exact ⟨by simp only; omega, hTs⟩
  · obtain rfl : i = l.length + 9 := by omega
    have g1 : (((l.length + 9 : Nat) : Int) < (l.length : Int) + 9) = False := eq_false (by omega)
    (try simp (maxSteps := 9999999) (disch := omega) only [go_sem])
    (repeat' (first | refine AWpA.seq ?_ | refine AWpA.block ?_ | (with_reducible refine CondP.tt ?_) | (with_reducible refine CondP.ff ?_) | refine AWpA.condv (by simp (maxSteps := 9999999) (disch := omega) only [go_sem, g1, sg.ren, bA_ren]; rfl) ?_ | ((first | (apply AWpA.region; (focus (simp (maxSteps := 9999999) (disch := omega) only [go_sem, g1, sg.ren, bA_ren]; rfl))) | (apply AWpA.draw [] follows; (focus (simp (maxSteps := 9999999) (disch := omega) only [go_sem, g1, sg.ren, bA_ren]; rfl)); (focus (simp (maxSteps := 9999999) (disch := omega) only [go_sem, g1, sg.ren, bA_ren]; first | done | trivial)); (focus (simp (maxSteps := 9999999) (disch := omega) only [go_sem, g1, sg.ren, bA_ren]; rfl))) | (apply TailK.go; (focus (simp (maxSteps := 9999999) (disch := omega) only [go_sem, g1, sg.ren, bA_ren]; rfl))) | refine AWpA.skip ?_ | refine AWpA.exit ?_ | refine AWpA.ret ?_ | (with_reducible refine ARoundsA.succ ?_) | ((first | refine Runs.kt (by assumption) (fun h9 => ?_) | refine Runs.kf (by assumption) (fun h9 => ?_) | refine Runs.nt (by assumption) (fun h9 => ?_) | refine Runs.nf (by assumption) (fun h9 => ?_) | refine CondP.ht (by assumption) (fun h9 => ?_) | refine CondP.hf (by assumption) (fun h9 => ?_) | refine CondP.nt (by assumption) (fun h9 => ?_) | refine CondP.nf (by assumption) (fun h9 => ?_)); (try simp only [h9]); clear h9) | ((first | (with_reducible apply CallG.plain1 [4, 0] (c10)) | (with_reducible apply CallG.draw1 [4, 0] (c10))); (focus ((try refine And.intro (leAs_of_eq rfl) ?_); (try refine And.intro (leOL_of_eq rfl) ?_); simp (maxSteps := 9999999) (disch := omega) only [go_sem, g1, sg.ren, bA_ren]; first | done | (repeat' (first | rfl | (refine And.intro ?_ ?_))))); (focus (simp (maxSteps := 9999999) (disch := omega) only [go_sem, g1, sg.ren, bA_ren]; rfl)))); (try simp (maxSteps := 9999999) (disch := omega) only [go_sem, g1, sg.ren, bA_ren]); (try (refine And.intro ?_ ?_; (focus (first | omega | (simp only [go_sem]; done) | (simp; done) | (simp; omega) | assumption))))) | ((first | refine CondP.split (fun hif => ?_) (fun hif => ?_) | refine Runs.part (fun hif => ?_) (fun hif => ?_)) <;> ((try simp only [hif]); (try simp only [decide_eq_true_eq, decide_eq_false_iff_not, Bool.not_eq_true, Bool.not_eq_false, Bool.not_eq_true', Bool.not_eq_false', beq_iff_eq, bne_iff_ne, bne_eq_false_iff_eq, beq_eq_false_iff_ne, ne_eq, Bool.and_eq_true, Bool.or_eq_true, Bool.or_eq_false_iff] at hif); (try (have h9 : _ = true := hif; simp only [h9])); (try (have h9 : _ = false := hif; simp only [h9])); (try simp (maxSteps := 9999999) (disch := omega) only [go_sem, g1, sg.ren, bA_ren]); (try (refine And.intro ?_ ?_; (focus (first | omega | (simp only [go_sem]; done) | (simp; done) | (simp; omega) | assumption)))); (try (exfalso; omega; done))))))
    (refine TopPost.of (by first | exact .inl rfl | exact .inr rfl) (by (try simp (maxSteps := 9999999) (disch := omega) only [go_sem]); rfl) ?_; (try simp (maxSteps := 9999999) (disch := omega) only [go_sem]); (try (first | trivial | decide | (simp; done))))
end Go.Proofs.Ythbpdmlbfnjoiaa
