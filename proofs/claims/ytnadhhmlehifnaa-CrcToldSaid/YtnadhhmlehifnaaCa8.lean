/- The walk of CrcTold. -/
import Derived.Test.YtnadhhmlehifnaaCo7
import Derived.Test.YtnadhhmlehifnaaCk
namespace Go.Proofs.Ytnadhhmlehifnaa
set_option linter.unusedSimpArgs false
set_option linter.unusedVariables false
set_option maxHeartbeats 4000000
open Go Go.Am Go.RowKit Go.ChangeShapes Go.WideShapes Go.ChangeAt Go.Crc
set_option maxRecDepth 100000
/- quidnunc/quidnunclaw02.CrcTold -/
noncomputable def c11_1 : ACode := .region false [⟨some 6, .move, [.c (.val (.bool false))], none⟩] [] [] [0, 1, 2] false [] []
noncomputable def c11_4 : ACode := .region false [⟨some 13, .call 27, [], none⟩,
  ⟨some 14, .un .not, [.t 13], none⟩,
  ⟨some 15, .move, [.t 14], none⟩,
  ⟨some 16, .move, [.t 0], some (some 15, false)⟩,
  ⟨some 17, .len, [.t 16], some (some 15, false)⟩,
  ⟨some 18, .bin .gtr, [.t 17, .c (.val (.int .i64 400))], some (some 15, false)⟩,
  ⟨some 19, .pick, [.t 15, .c (.val (.bool true)), .t 18], none⟩,
  ⟨some 20, .move, [.t 19], none⟩,
  ⟨some 21, .move, [.t 2], some (some 20, false)⟩,
  ⟨some 22, .bin .eql, [.t 21, .c (.val (.int .u32 0))], some (some 20, false)⟩,
  ⟨some 23, .pick, [.t 20, .c (.val (.bool true)), .t 22], none⟩,
  ⟨some 24, .move, [.t 23], none⟩,
  ⟨some 25, .move, [.t 0], some (some 24, false)⟩,
  ⟨some 26, .len, [.t 25], some (some 24, false)⟩,
  ⟨some 27, .bin .eql, [.t 26, .c (.val (.int .i64 0))], some (some 24, false)⟩,
  ⟨some 28, .pick, [.t 24, .c (.val (.bool true)), .t 27], none⟩] [] [] [0, 1, 2, 28] true [] []
noncomputable def c11_7 : ACode := .region false [⟨some 29, .call 27, [], none⟩,
  ⟨some 6, .move, [.t 29], none⟩] [] [] [6] true [] []
noncomputable def c11_6 : ACode := .seq c11_7 .ret
noncomputable def c11_5 : ACode := .cond (.t 28) c11_6 .skip
noncomputable def c11_3 : ACode := .seq c11_4 c11_5
noncomputable def c11_9 : ACode := .region false [⟨some 7, .alloc [(.int .u32 0), (.int .i32 0), (.int .u32 0), (.int .u32 0), (.int .u32 0), (.int .u32 0), (.int .u32 0), (.int .u32 0), (.int .u32 0), (.int .u32 0), (.int .u32 0), (.int .u32 0), (.int .u32 0), (.int .u32 0), (.int .u32 0), (.int .u32 0), (.int .u32 0), (.int .u32 0), (.int .u32 0), (.int .u32 0), (.int .u32 0), (.int .u32 0), (.int .u32 0), (.int .u32 0), (.int .u32 0), (.int .u32 0), (.int .u32 0), (.int .u32 0), (.int .u32 0), (.int .u32 0), (.int .u32 0), (.int .u32 0), (.int .u32 0), (.int .u32 0), (.int .u32 0), (.int .u32 0), (.int .u32 0), (.int .u32 0), (.int .u32 0), (.int .u32 0), (.int .u32 0), (.int .u32 0), (.int .u32 0), (.int .u32 0), (.int .u32 0), (.int .u32 0), (.int .u32 0), (.int .u32 0), (.int .u32 0), (.int .u32 0), (.int .u32 0), (.int .u32 0), (.int .u32 0), (.int .u32 0), (.int .u32 0), (.int .u32 0), (.int .u32 0), (.int .u32 0), (.int .u32 0), (.int .u32 0), (.int .u32 0), (.int .u32 0), (.int .u32 0), (.int .u32 0), (.int .u32 0), (.int .u32 0), (.int .u32 0), (.int .u32 0), (.int .u32 0), (.int .u32 0), (.int .u32 0), (.int .u32 0), (.int .u32 0), (.int .u32 0), (.int .u32 0), (.int .u32 0), (.int .u32 0), (.int .u32 0), (.int .u32 0), (.int .u32 0), (.int .u32 0), (.int .u32 0), (.int .u32 0), (.int .u32 0), (.int .u32 0), (.int .u32 0), (.int .u32 0), (.int .u32 0), (.int .u32 0), (.int .u32 0), (.int .u32 0), (.int .u32 0), (.int .u32 0), (.int .u32 0), (.int .u32 0), (.int .u32 0), (.int .u32 0), (.int .u32 0), (.int .u32 0), (.int .u32 0), (.int .u32 0), (.int .u32 0), (.int .u32 0), (.int .u32 0), (.int .u32 0), (.int .u32 0), (.int .u32 0), (.int .u32 0), (.int .u32 0), (.int .u32 0), (.int .u32 0), (.int .u32 0), (.int .u32 0), (.int .u32 0), (.int .u32 0), (.int .u32 0), (.int .u32 0), (.int .u32 0), (.int .u32 0), (.int .u32 0), (.int .u32 0), (.int .u32 0), (.int .u32 0), (.int .u32 0), (.int .u32 0), (.int .u32 0), (.int .u32 0), (.int .u32 0), (.int .u32 0), (.int .u32 0), (.int .u32 0), (.int .u32 0), (.int .u32 0), (.int .u32 0), (.int .u32 0), (.int .u32 0), (.int .u32 0), (.int .u32 0), (.int .u32 0), (.int .u32 0), (.int .u32 0), (.int .u32 0), (.int .u32 0), (.int .u32 0), (.int .u32 0), (.int .u32 0), (.int .u32 0), (.int .u32 0), (.int .u32 0), (.int .u32 0), (.int .u32 0), (.int .u32 0), (.int .u32 0), (.int .u32 0), (.int .u32 0), (.int .u32 0), (.int .u32 0), (.int .u32 0), (.int .u32 0), (.int .u32 0), (.int .u32 0), (.int .u32 0), (.int .u32 0), (.int .u32 0), (.int .u32 0), (.int .u32 0), (.int .u32 0), (.int .u32 0), (.int .u32 0), (.int .u32 0), (.int .u32 0), (.int .u32 0), (.int .u32 0), (.int .u32 0), (.int .u32 0), (.int .u32 0), (.int .u32 0), (.int .u32 0), (.int .u32 0), (.int .u32 0), (.int .u32 0), (.int .u32 0), (.int .u32 0), (.int .u32 0), (.int .u32 0), (.int .u32 0), (.int .u32 0), (.int .u32 0), (.int .u32 0), (.int .u32 0), (.int .u32 0), (.int .u32 0), (.int .u32 0), (.int .u32 0), (.int .u32 0), (.int .u32 0), (.int .u32 0), (.int .u32 0), (.int .u32 0), (.int .u32 0), (.int .u32 0), (.int .u32 0), (.int .u32 0), (.int .u32 0), (.int .u32 0), (.int .u32 0), (.int .u32 0), (.int .u32 0), (.int .u32 0), (.int .u32 0), (.int .u32 0), (.int .u32 0), (.int .u32 0), (.int .u32 0), (.int .u32 0), (.int .u32 0), (.int .u32 0), (.int .u32 0), (.int .u32 0), (.int .u32 0), (.int .u32 0), (.int .u32 0), (.int .u32 0), (.int .u32 0), (.int .u32 0), (.int .u32 0), (.int .u32 0), (.int .u32 0), (.int .u32 0), (.int .u32 0), (.int .u32 0), (.int .u32 0), (.int .u32 0), (.int .u32 0), (.int .u32 0), (.int .u32 0), (.int .u32 0), (.int .u32 0), (.int .u32 0), (.int .u32 0), (.int .u32 0), (.int .u32 0), (.int .u32 0), (.int .u32 0), (.int .u32 0), (.int .u32 0), (.int .u32 0), (.int .u32 0), (.int .u32 0), (.int .u32 0), (.int .u32 0), (.int .u32 0), (.int .u32 0), (.int .u32 0), (.int .u32 0), (.int .u32 0), (.int .u32 0), (.int .u32 0), (.int .u32 0)], [], none⟩] [] [] [0, 1, 2, 7] true [] []
noncomputable def c11_11 : ACode := .region false [⟨some 30, .move, [.t 0], none⟩,
  ⟨some 31, .call 36, [.t 7, .t 30], none⟩,
  ⟨some 8, .move, [.t 31], none⟩] [] [] [0, 1, 2, 7, 8] true [] []
noncomputable def c11_13 : ACode := .region false [⟨some 32, .buildSl 1 0 [(.int .u8 0)] [], [], none⟩,
  ⟨some 33, .move, [.t 8], none⟩,
  ⟨some 34, .append 1 1 false, [.t 32, .t 33], none⟩,
  ⟨some 9, .move, [.t 34], none⟩] [] [] [0, 1, 2, 7, 8, 9] true [] []
noncomputable def c11_16 : ACode := .region false [⟨some 35, .move, [.t 8], none⟩,
  ⟨some 36, .len, [.t 35], none⟩,
  ⟨some 37, .move, [.t 0], none⟩,
  ⟨some 38, .len, [.t 37], none⟩,
  ⟨some 39, .bin .add, [.t 38, .c (.val (.int .i64 4))], none⟩,
  ⟨some 40, .bin .neq, [.t 36, .t 39], none⟩] [] [] [0, 1, 2, 7, 8, 9, 40] false [] []
noncomputable def c11_19 : ACode := .region false [⟨some 6, .move, [.c (.val (.bool false))], none⟩] [] [] [6] false [] []
noncomputable def c11_18 : ACode := .seq c11_19 .ret
noncomputable def c11_17 : ACode := .cond (.t 40) c11_18 .skip
noncomputable def c11_15 : ACode := .seq c11_16 c11_17
noncomputable def c11_21 : ACode := .region false [⟨some 41, .move, [.t 1], none⟩,
  ⟨some 42, .bin .and, [.t 41, .c (.val (.int .i64 65535))], none⟩,
  ⟨some 43, .move, [.t 8], none⟩,
  ⟨some 44, .len, [.t 43], none⟩,
  ⟨some 45, .bin .mul, [.c (.val (.int .i64 8)), .t 44], none⟩,
  ⟨some 46, .bin .rem, [.t 42, .t 45], none⟩,
  ⟨some 10, .move, [.t 46], none⟩] [] [] [0, 2, 7, 8, 9, 10] false [] []
noncomputable def c11_23 : ACode := .region false [⟨some 11, .move, [.c (.val (.int .i64 0))], none⟩] [] [] [0, 2, 7, 8, 9, 10, 11] false [] []
noncomputable def c11_26 : ACode := .region false [⟨some 12, .move, [.c (.val (.int .i64 0))], none⟩] [] [] [0, 2, 7, 8, 9, 10, 11, 12] false [] []
noncomputable def c11_31 : ACode := .region false [⟨some 47, .move, [.t 12], none⟩,
  ⟨some 48, .bin .lss, [.t 47, .c (.val (.int .i64 32))], none⟩,
  ⟨some 49, .move, [.t 48], none⟩,
  ⟨some 50, .move, [.t 10], some (some 49, true)⟩,
  ⟨some 51, .move, [.t 12], some (some 49, true)⟩,
  ⟨some 52, .bin .add, [.t 50, .t 51], some (some 49, true)⟩,
  ⟨some 53, .move, [.t 8], some (some 49, true)⟩,
  ⟨some 54, .len, [.t 53], some (some 49, true)⟩,
  ⟨some 55, .bin .mul, [.c (.val (.int .i64 8)), .t 54], some (some 49, true)⟩,
  ⟨some 56, .bin .lss, [.t 52, .t 55], some (some 49, true)⟩,
  ⟨some 57, .pick, [.t 49, .t 56, .c (.val (.bool false))], none⟩] [] [] [0, 2, 7, 8, 9, 10, 11, 12, 57] false [] []
noncomputable def c11_32 : ACode := .cond (.t 57) .skip (.exit 0)
noncomputable def c11_30 : ACode := .seq c11_31 c11_32
noncomputable def c11_36 : ACode := .region false [⟨some 60, .move, [.t 2], none⟩,
  ⟨some 61, .move, [.t 12], none⟩,
  ⟨some 62, .bin .shr, [.t 60, .t 61], none⟩,
  ⟨some 63, .bin .and, [.t 62, .c (.val (.int .u32 1))], none⟩,
  ⟨some 64, .bin .eql, [.t 63, .c (.val (.int .u32 1))], none⟩] [] [] [0, 2, 7, 8, 9, 10, 11, 12, 64] false [] []
noncomputable def c11_39 : ACode := .region true [⟨some 65, .move, [.t 9], none⟩,
  ⟨some 66, .move, [.t 10], none⟩,
  ⟨some 67, .move, [.t 12], none⟩,
  ⟨some 68, .bin .add, [.t 66, .t 67], none⟩,
  ⟨some 69, .bin .quo, [.t 68, .c (.val (.int .i64 8))], none⟩,
  ⟨some 70, .ixS 1, [.t 65, .t 69], none⟩,
  ⟨some 71, .load false 1, [.t 70], none⟩,
  ⟨some 72, .move, [.t 10], none⟩,
  ⟨some 73, .move, [.t 12], none⟩,
  ⟨some 74, .bin .add, [.t 72, .t 73], none⟩,
  ⟨some 75, .bin .rem, [.t 74, .c (.val (.int .i64 8))], none⟩,
  ⟨some 76, .bin .shl, [.c (.val (.int .u8 1)), .t 75], none⟩,
  ⟨some 77, .bin .xor, [.t 71, .t 76], none⟩,
  ⟨some 78, .ixS 1, [.t 65, .t 69], none⟩,
  ⟨none, .store 1, [.t 78, .t 77], none⟩] [6] [] [0, 2, 7, 8, 9, 10, 11, 12] true [9] []
noncomputable def c11_40 : ACode := .region false [⟨some 79, .move, [.t 11], none⟩,
  ⟨some 80, .bin .add, [.t 79, .c (.val (.int .i64 1))], none⟩,
  ⟨some 11, .move, [.t 80], none⟩] [] [] [0, 2, 7, 8, 9, 10, 11, 12] false [] []
noncomputable def c11_38 : ACode := .seq c11_39 c11_40
noncomputable def c11_37 : ACode := .cond (.t 64) c11_38 .skip
noncomputable def c11_35 : ACode := .seq c11_36 c11_37
noncomputable def c11_34 : ACode := .block 1 c11_35
noncomputable def c11_41 : ACode := .region false [⟨some 58, .move, [.t 12], none⟩,
  ⟨some 59, .bin .add, [.t 58, .c (.val (.int .i64 1))], none⟩,
  ⟨some 12, .move, [.t 59], none⟩] [] [] [0, 2, 7, 8, 9, 10, 11, 12] false [] []
noncomputable def c11_33 : ACode := .seq c11_34 c11_41
noncomputable def c11_29 : ACode := .seq c11_30 c11_33
noncomputable def c11_28 : ACode := .loop c11_29
noncomputable def c11_27 : ACode := .block 0 c11_28
noncomputable def c11_25 : ACode := .seq c11_26 c11_27
noncomputable def c11_44 : ACode := .region true [⟨some 81, .move, [.t 8], none⟩,
  ⟨some 82, .call 37, [.t 7, .t 81], none⟩,
  ⟨some 83, .un .not, [.t 82], none⟩,
  ⟨some 84, .move, [.t 83], none⟩,
  ⟨some 85, .move, [.t 8], some (some 84, false)⟩,
  ⟨some 86, .move, [.t 0], some (some 84, false)⟩,
  ⟨some 87, .len, [.t 86], some (some 84, false)⟩,
  ⟨some 88, .slS 1 false true false, [.t 85, .t 87], some (some 84, false)⟩,
  ⟨some 89, .toStr, [.t 88], some (some 84, false)⟩,
  ⟨some 90, .move, [.t 0], some (some 84, false)⟩,
  ⟨some 91, .toStr, [.t 90], some (some 84, false)⟩,
  ⟨some 92, .bin .neq, [.t 89, .t 91], some (some 84, false)⟩,
  ⟨some 93, .pick, [.t 84, .c (.val (.bool true)), .t 92], none⟩] [8] [] [7, 9, 11, 93] true [] []
noncomputable def c11_47 : ACode := .region false [⟨some 6, .move, [.c (.val (.bool false))], none⟩] [] [] [6] false [] []
noncomputable def c11_46 : ACode := .seq c11_47 .ret
noncomputable def c11_45 : ACode := .cond (.t 93) c11_46 .skip
noncomputable def c11_43 : ACode := .seq c11_44 c11_45
noncomputable def c11_49 : ACode := .region false [⟨some 94, .move, [.t 11], none⟩,
  ⟨some 95, .bin .eql, [.t 94, .c (.val (.int .i64 0))], none⟩,
  ⟨some 96, .move, [.t 95], none⟩,
  ⟨some 97, .move, [.t 9], some (some 96, false)⟩,
  ⟨some 98, .call 37, [.t 7, .t 97], some (some 96, false)⟩,
  ⟨some 99, .un .not, [.t 98], some (some 96, false)⟩,
  ⟨some 100, .pick, [.t 96, .c (.val (.bool true)), .t 99], none⟩,
  ⟨some 6, .move, [.t 100], none⟩] [] [] [6] true [] []
noncomputable def c11_48 : ACode := .seq c11_49 .ret
noncomputable def c11_42 : ACode := .seq c11_43 c11_48
noncomputable def c11_24 : ACode := .seq c11_25 c11_42
noncomputable def c11_22 : ACode := .seq c11_23 c11_24
noncomputable def c11_20 : ACode := .seq c11_21 c11_22
noncomputable def c11_14 : ACode := .seq c11_15 c11_20
noncomputable def c11_12 : ACode := .seq c11_13 c11_14
noncomputable def c11_10 : ACode := .seq c11_11 c11_12
noncomputable def c11_8 : ACode := .seq c11_9 c11_10
noncomputable def c11_2 : ACode := .seq c11_3 c11_8
noncomputable def c11_0 : ACode := .seq c11_1 c11_2
noncomputable def code11 : Code := (Try.f11.body).getD .skip
theorem c11_ok : compC Try.prog 101 code11 = some (strip c11_0) := by kernel_rfl
theorem res11_ok : Try.f11.results.toList.mapM (resC Try.prog) = some [(6, none)] := by kernel_rfl
theorem crcTold_walk (W : World) (x : Sl Int) (at1 y : Int) (hx : x.ok W 1 (fun n : Int => [.int .u8 n]) (fun n : Int => IntKind.u8.min ≤ n ∧ n ≤ IntKind.u8.max)) (hy : IntKind.u32.min ≤ y ∧ y ≤ IntKind.u32.max) :
    Calls Try.prog 11 #[.slice x.ad x.l.length x.cap, .int .i64 at1, .int .u32 y] W fun e W' => e = .returned (.bool true) ∧ Below W.heap.size W W' := by
  obtain ⟨ad, off, cap, l⟩ := x
  have hz := hx.fz
  have hby : ∀ x ∈ l, 0 ≤ x ∧ x ≤ 255 := hx.all
  simp only at hz
  obtain ⟨hy1, hy2⟩ : 0 ≤ y ∧ y ≤ 4294967295 := hy
  obtain ⟨Y, rfl⟩ : ∃ s : R, y = (s.toNat : Int) := ⟨BitVec.ofInt 32 y, by rw [BitVec.toNat_ofInt]; omega⟩
  by_cases hs : l.length ≤ 400 ∧ (Y.toNat : Int) ≠ 0 ∧ l.length ≠ 0
  case neg =>
    refine top_call c11_ok Try.func11 rfl Try.ntmps11 res11_ok [ .val (.slice ad l.length cap), I at1, .val (.int .u32 (Y.toNat : Int))] (by simp) (by (repeat' (first | exact VRs_nil' _ | exact VR_val' _ _ | (refine VRs_cons' ?_ ?_) | (refine VR_agg' rfl ?_; simp [Value.oneCell'])))) ?_; try simp (maxSteps := 9999999) (disch := omega) only [go_sem]
    (repeat' (first | refine AWpA.seq ?_ | refine AWpA.block ?_ | (with_reducible refine CondP.tt ?_) | (with_reducible refine CondP.ff ?_) | refine AWpA.condv (by simp (maxSteps := 9999999) (disch := omega) only [go_sem]; rfl) ?_ | ((first | (apply AWpA.region; (focus (simp (maxSteps := 9999999) (disch := omega) only [go_sem]; rfl))) | (apply AWpA.draw [] follows; (focus (simp (maxSteps := 9999999) (disch := omega) only [go_sem]; rfl)); (focus (simp (maxSteps := 9999999) (disch := omega) only [go_sem]; first | done | trivial)); (focus (simp (maxSteps := 9999999) (disch := omega) only [go_sem]; rfl))) | (apply TailK.go; (focus (simp (maxSteps := 9999999) (disch := omega) only [go_sem]; rfl))) | refine AWpA.skip ?_ | refine AWpA.exit ?_ | refine AWpA.ret ?_ | (with_reducible refine ARoundsA.succ ?_) | ((first | refine Runs.kt (by assumption) (fun h9 => ?_) | refine Runs.kf (by assumption) (fun h9 => ?_) | refine Runs.nt (by assumption) (fun h9 => ?_) | refine Runs.nf (by assumption) (fun h9 => ?_) | refine CondP.ht (by assumption) (fun h9 => ?_) | refine CondP.hf (by assumption) (fun h9 => ?_) | refine CondP.nt (by assumption) (fun h9 => ?_) | refine CondP.nf (by assumption) (fun h9 => ?_)); (try simp only [h9]); clear h9) | ((first | (with_reducible apply CallG.plain1 [] (speaks02_any)) | (with_reducible apply CallG.draw1 [] (speaks02_any))); (focus ((try refine And.intro (leAs_of_eq rfl) ?_); (try refine And.intro (leOL_of_eq rfl) ?_); simp (maxSteps := 9999999) (disch := omega) only [go_sem]; first | done | (repeat' (first | rfl | (refine And.intro ?_ ?_))))); (focus (simp (maxSteps := 9999999) (disch := omega) only [go_sem]; rfl)))); (try simp (maxSteps := 9999999) (disch := omega) only [go_sem]); (try (refine And.intro ?_ ?_; (focus (first | omega | (simp only [go_sem]; done) | (simp; done) | (simp; omega) | assumption))))) | ((first | refine CondP.split (fun hif => ?_) (fun hif => ?_) | refine Runs.part (fun hif => ?_) (fun hif => ?_)) <;> ((try simp only [hif]); (try simp only [decide_eq_true_eq, decide_eq_false_iff_not, Bool.not_eq_true, Bool.not_eq_false, Bool.not_eq_true', Bool.not_eq_false', beq_iff_eq, bne_iff_ne, bne_eq_false_iff_eq, beq_eq_false_iff_ne, ne_eq, Bool.and_eq_true, Bool.or_eq_true, Bool.or_eq_false_iff] at hif); (try (have h9 : _ = true := hif; simp only [h9])); (try (have h9 : _ = false := hif; simp only [h9])); (try simp (maxSteps := 9999999) (disch := omega) only [go_sem]); (try (refine And.intro ?_ ?_; (focus (first | omega | (simp only [go_sem]; done) | (simp; done) | (simp; omega) | assumption)))); (try (exfalso; omega; done))))))
    all_goals (refine TopPost.of (by first | exact .inl rfl | exact .inr rfl) (by (try simp (maxSteps := 9999999) (disch := omega) only [go_sem]); rfl) ?_; (try simp (maxSteps := 9999999) (disch := omega) only [go_sem]); (try (first | trivial | decide | (simp; done))))
  obtain ⟨hs1, hs2, hs3⟩ := hs
  have h1 : (400 < (l.length : Int)) = False := eq_false (by omega)
  have h2 : ((Y.toNat : Int) == 0) = false := by rw [beq_eq_false_iff_ne]; exact hs2
  have h3 : ((l.length : Int) == 0) = false := by rw [beq_eq_false_iff_ne]; omega
  have sg := Seg.rows (off := off) (l := l) (by omega)
  obtain ⟨f0, hf0, hf1⟩ := low16 at1
  have hml := mkd_length l
  have hmb := mkd_bytes hby
  have hB := mkdB_mkd l
  have hmt : (mkd l).take l.length = l := by unfold mkd; rw [List.take_left]
  have hm := mark_any false sg hby
  refine top_call c11_ok Try.func11 rfl Try.ntmps11 res11_ok [ .val (.slice ad l.length cap), I at1, .val (.int .u32 (Y.toNat : Int))] (by simp) (by (repeat' (first | exact VRs_nil' _ | exact VR_val' _ _ | (refine VRs_cons' ?_ ?_) | (refine VR_agg' rfl ?_; simp [Value.oneCell'])))) ?_; try simp (maxSteps := 9999999) (disch := omega) only [go_sem]
  refine AWpA.thawT 0 (fun n : Int => [.val (.int .u8 n)]) hz (fun _ => rfl) rfl ?_
  generalize rowsC off (fun n : Int => [.val (.int .u8 n)]) l = P at sg hm
  have hg1 : (l.length + 4 ≤ 0) = False := eq_false (by omega)
  obtain ⟨f, hg2, hf2⟩ : ∃ f : Nat, ((f0 : Int).tmod (8 * ((l.length : Int) + 4))) = (f : Int) ∧ f < 8 * (l.length + 4) := by
    refine ⟨f0 % (8 * (l.length + 4)), ?_, Nat.mod_lt _ (by omega)⟩
    rw [Int.tmod_eq_emod_of_nonneg (by omega), show (8 * ((l.length : Int) + 4)) = ((8 * (l.length + 4) : Nat) : Int) by omega]
    exact (Int.natCast_emod f0 _).symm
  have htt : (mkd l).take (l.length + 4) = mkd l := List.take_of_length_le (by omega)
  (repeat' (first | refine AWpA.seq ?_ | refine AWpA.block ?_ | (with_reducible refine CondP.tt ?_) | (with_reducible refine CondP.ff ?_) | refine AWpA.condv (by simp (maxSteps := 9999999) (disch := omega) only [go_sem, h1, h2, h3, sg.ren, tb_ren, tb_lit, hf0, hml, hg1, hg2, htt]; rfl) ?_ | ((first | (apply AWpA.region; (focus (simp (maxSteps := 9999999) (disch := omega) only [go_sem, h1, h2, h3, sg.ren, tb_ren, tb_lit, hf0, hml, hg1, hg2, htt]; rfl))) | (apply AWpA.draw [] follows; (focus (simp (maxSteps := 9999999) (disch := omega) only [go_sem, h1, h2, h3, sg.ren, tb_ren, tb_lit, hf0, hml, hg1, hg2, htt]; rfl)); (focus (simp (maxSteps := 9999999) (disch := omega) only [go_sem, h1, h2, h3, sg.ren, tb_ren, tb_lit, hf0, hml, hg1, hg2, htt]; first | done | trivial)); (focus (simp (maxSteps := 9999999) (disch := omega) only [go_sem, h1, h2, h3, sg.ren, tb_ren, tb_lit, hf0, hml, hg1, hg2, htt]; rfl))) | (apply TailK.go; (focus (simp (maxSteps := 9999999) (disch := omega) only [go_sem, h1, h2, h3, sg.ren, tb_ren, tb_lit, hf0, hml, hg1, hg2, htt]; rfl))) | refine AWpA.skip ?_ | refine AWpA.exit ?_ | refine AWpA.ret ?_ | (with_reducible refine ARoundsA.succ ?_) | ((first | refine Runs.kt (by assumption) (fun h9 => ?_) | refine Runs.kf (by assumption) (fun h9 => ?_) | refine Runs.nt (by assumption) (fun h9 => ?_) | refine Runs.nf (by assumption) (fun h9 => ?_) | refine CondP.ht (by assumption) (fun h9 => ?_) | refine CondP.hf (by assumption) (fun h9 => ?_) | refine CondP.nt (by assumption) (fun h9 => ?_) | refine CondP.nf (by assumption) (fun h9 => ?_)); (try simp only [h9]); clear h9) | ((first | (with_reducible apply CallG.plain1 [] (speaks02_any)) | (with_reducible apply CallG.plain1 [273, 0] (hm)) | (with_reducible apply CallG.draw1 [] (speaks02_any)) | (with_reducible apply CallG.draw1 [273, 0] (hm))); (focus ((try refine And.intro (leAs_of_eq rfl) ?_); (try refine And.intro (leOL_of_eq rfl) ?_); simp (maxSteps := 9999999) (disch := omega) only [go_sem, h1, h2, h3, sg.ren, tb_ren, tb_lit, hf0, hml, hg1, hg2, htt]; first | done | (repeat' (first | rfl | (refine And.intro ?_ ?_))))); (focus (simp (maxSteps := 9999999) (disch := omega) only [go_sem, h1, h2, h3, sg.ren, tb_ren, tb_lit, hf0, hml, hg1, hg2, htt]; rfl)))); (try simp (maxSteps := 9999999) (disch := omega) only [go_sem, h1, h2, h3, sg.ren, tb_ren, tb_lit, hf0, hml, hg1, hg2, htt]); (try (refine And.intro ?_ ?_; (focus (first | omega | (simp only [go_sem]; done) | (simp; done) | (simp; omega) | assumption))))) | ((first | refine CondP.split (fun hif => ?_) (fun hif => ?_) | refine Runs.part (fun hif => ?_) (fun hif => ?_)) <;> ((try simp only [hif]); (try simp only [decide_eq_true_eq, decide_eq_false_iff_not, Bool.not_eq_true, Bool.not_eq_false, Bool.not_eq_true', Bool.not_eq_false', beq_iff_eq, bne_iff_ne, bne_eq_false_iff_eq, beq_eq_false_iff_ne, ne_eq, Bool.and_eq_true, Bool.or_eq_true, Bool.or_eq_false_iff] at hif); (try (have h9 : _ = true := hif; simp only [h9])); (try (have h9 : _ = false := hif; simp only [h9])); (try simp (maxSteps := 9999999) (disch := omega) only [go_sem, h1, h2, h3, sg.ren, tb_ren, tb_lit, hf0, hml, hg1, hg2, htt]); (try (refine And.intro ?_ ?_; (focus (first | omega | (simp only [go_sem]; done) | (simp; done) | (simp; omega) | assumption)))); (try (exfalso; omega; done))))))
  (apply AWpA.loopL (fun i : Nat => [(0, .sl 0 off l.length 1 none), (2, U32 Y.toNat), (7, .ptr 1 0), (8, .sl 2 0 (l.length + 4) 1 none), (9, .sl 3 0 (l.length + 4) 1 none), (10, I f), (11, I (ct Y i)), (12, I i)]) (fun i => [.cells true P, .cells false (tb true), .cells false (bA (mkd l)), .cells false (bA (tn (mkd l) f Y i))]) (fun i => 32 - i) (fun i => i ≤ 32 ∧ f + i ≤ 8 * (l.length + 4)) (0) [0, 273, 305, 369]; rotate_left; (focus (simp (maxSteps := 9999999) (disch := omega) only [go_sem, sg.ren, tb_ren, htt, tn, ct]; (try (repeat' (first | done | trivial | rfl | exact leAs_rfl _ | decide | (refine And.intro ?_ ?_) | (simp; done) | omega | (simp; decide)))))); rotate_right)
  · exact ⟨by omega, by omega⟩
  rintro i ⟨hi, hfi⟩
  (try simp only at hi hfi)
  have hcl := ct_le Y i
  have hTl := tn_len (mkd l) f Y i
  rw [hml] at hTl
  have hTb := tn_bytes hmb f Y i
  by_cases hin : i < 32 ∧ f + i < 8 * (l.length + 4)
  · obtain ⟨hin, hfn⟩ := hin
    have g1 : ((i : Int) < 32) = True := eq_true (by omega)
    have g2 : ((f : Int) + (i : Int) < 8 * ((l.length : Int) + 4)) = True := eq_true (by omega)
    have g3 := shr_min Y i hin
    have g4 := and1 (Y >>> i)
    rw [bit_at Y i hin] at g4
    cases hb : Y.getLsbD i
    · rw [hb] at g4
      simp only [Bool.false_eq_true, if_false] at g4
      have e1 : tn (mkd l) f Y (i + 1) = tn (mkd l) f Y i := by simp [tn, hb]
      have e2 : ct Y (i + 1) = ct Y i := by simp [ct, hb]
      generalize tn (mkd l) f Y i = T at hTl hTb e1
      generalize ct Y i = n at e2 hcl
      (try simp (maxSteps := 9999999) (disch := omega) only [go_sem])
      (repeat' (first | refine AWpA.seq ?_ | refine AWpA.block ?_ | (with_reducible refine CondP.tt ?_) | (with_reducible refine CondP.ff ?_) | refine AWpA.condv (by simp (maxSteps := 9999999) (disch := omega) only [go_sem, g1, g2, g3, g4, sg.ren, tb_ren, hml, hTl]; rfl) ?_ | ((first | (apply AWpA.region; (focus (simp (maxSteps := 9999999) (disch := omega) only [go_sem, g1, g2, g3, g4, sg.ren, tb_ren, hml, hTl]; rfl))) | (apply AWpA.draw [] follows; (focus (simp (maxSteps := 9999999) (disch := omega) only [go_sem, g1, g2, g3, g4, sg.ren, tb_ren, hml, hTl]; rfl)); (focus (simp (maxSteps := 9999999) (disch := omega) only [go_sem, g1, g2, g3, g4, sg.ren, tb_ren, hml, hTl]; first | done | trivial)); (focus (simp (maxSteps := 9999999) (disch := omega) only [go_sem, g1, g2, g3, g4, sg.ren, tb_ren, hml, hTl]; rfl))) | (apply TailK.go; (focus (simp (maxSteps := 9999999) (disch := omega) only [go_sem, g1, g2, g3, g4, sg.ren, tb_ren, hml, hTl]; rfl))) | refine AWpA.skip ?_ | refine AWpA.exit ?_ | refine AWpA.ret ?_ | (with_reducible refine ARoundsA.succ ?_) | ((first | refine Runs.kt (by assumption) (fun h9 => ?_) | refine Runs.kf (by assumption) (fun h9 => ?_) | refine Runs.nt (by assumption) (fun h9 => ?_) | refine Runs.nf (by assumption) (fun h9 => ?_) | refine CondP.ht (by assumption) (fun h9 => ?_) | refine CondP.hf (by assumption) (fun h9 => ?_) | refine CondP.nt (by assumption) (fun h9 => ?_) | refine CondP.nf (by assumption) (fun h9 => ?_)); (try simp only [h9]); clear h9)); (try simp (maxSteps := 9999999) (disch := omega) only [go_sem, g1, g2, g3, g4, sg.ren, tb_ren, hml, hTl]); (try (refine And.intro ?_ ?_; (focus (first | omega | (simp only [go_sem]; done) | (simp; done) | (simp; omega) | assumption))))) | ((first | refine CondP.split (fun hif => ?_) (fun hif => ?_) | refine Runs.part (fun hif => ?_) (fun hif => ?_)) <;> ((try simp only [hif]); (try simp only [decide_eq_true_eq, decide_eq_false_iff_not, Bool.not_eq_true, Bool.not_eq_false, Bool.not_eq_true', Bool.not_eq_false', beq_iff_eq, bne_iff_ne, bne_eq_false_iff_eq, beq_eq_false_iff_ne, ne_eq, Bool.and_eq_true, Bool.or_eq_true, Bool.or_eq_false_iff] at hif); (try (have h9 : _ = true := hif; simp only [h9])); (try (have h9 : _ = false := hif; simp only [h9])); (try simp (maxSteps := 9999999) (disch := omega) only [go_sem, g1, g2, g3, g4, sg.ren, tb_ren, hml, hTl]); (try (refine And.intro ?_ ?_; (focus (first | omega | (simp only [go_sem]; done) | (simp; done) | (simp; omega) | assumption)))); (try (exfalso; omega; done))))))
      (apply Back.to (i + 1) [0, 1, 2, 3]; (focus ((try simp (maxSteps := 9999999) (disch := omega) only [go_sem, e1, e2, sg.ren, tb_ren]); first | done | omega)); rotate_left; (focus (simp (maxSteps := 9999999) (disch := omega) only [go_sem, e1, e2, sg.ren, tb_ren]; (try (repeat' (first | done | trivial | rfl | exact leAs_rfl _ | decide | (refine And.intro ?_ ?_) | (simp; done) | omega | (simp; decide)))))))
      exact ⟨by omega, by omega⟩
    · rw [hb] at g4
      simp only [if_true] at g4
      have hk : (f + i) / 8 < l.length + 4 := by omega
      have hj : (f + i) % 8 < 8 := by omega
      have g5 : ((f : Int) + (i : Int)).tdiv 8 = (((f + i) / 8 : Nat) : Int) := by rw [Int.tdiv_eq_ediv_of_nonneg (by omega)]; omega
      have g6 : ((f : Int) + (i : Int)).tmod 8 = (((f + i) % 8 : Nat) : Int) := by rw [Int.tmod_eq_emod_of_nonneg (by omega)]; omega
      have e1 : tn (mkd l) f Y (i + 1) = (tn (mkd l) f Y i).set ((f + i) / 8) (tb1 ((tn (mkd l) f Y i).getD ((f + i) / 8) 0) ((f + i) % 8)) := by simp [tn, hb]
      have e2 : ct Y (i + 1) = ct Y i + 1 := by simp [ct, hb]
      generalize hT : tn (mkd l) f Y i = T at hTl hTb e1
      generalize ct Y i = n at e2 hcl
      generalize (f + i) / 8 = k at hk g5 e1
      generalize (f + i) % 8 = j at hj g6 e1
      have g7 := bA_getD2 (L := T) (a := k) (by omega)
      have g8 := bA_put2 T k (tb1 (T.getD k 0) j) (by omega)
      generalize hc : T.getD k 0 = c at g7 g8 e1
      have g9 : bits .xor .u8 c (IntKind.u8.wrap (1 * 2 ^ min j 8)) = tb1 c j := by rw [shl1 hj]; rfl
      (try simp (maxSteps := 9999999) (disch := omega) only [go_sem])
      (repeat' (first | refine AWpA.seq ?_ | refine AWpA.block ?_ | (with_reducible refine CondP.tt ?_) | (with_reducible refine CondP.ff ?_) | refine AWpA.condv (by simp (maxSteps := 9999999) (disch := omega) only [go_sem, g1, g2, g3, g4, g5, g6, g7, sg.ren, tb_ren, hml, hTl]; rfl) ?_ | ((first | (apply AWpA.region; (focus (simp (maxSteps := 9999999) (disch := omega) only [go_sem, g1, g2, g3, g4, g5, g6, g7, sg.ren, tb_ren, hml, hTl]; rfl))) | (apply AWpA.draw [] follows; (focus (simp (maxSteps := 9999999) (disch := omega) only [go_sem, g1, g2, g3, g4, g5, g6, g7, sg.ren, tb_ren, hml, hTl]; rfl)); (focus (simp (maxSteps := 9999999) (disch := omega) only [go_sem, g1, g2, g3, g4, g5, g6, g7, sg.ren, tb_ren, hml, hTl]; first | done | trivial)); (focus (simp (maxSteps := 9999999) (disch := omega) only [go_sem, g1, g2, g3, g4, g5, g6, g7, sg.ren, tb_ren, hml, hTl]; rfl))) | (apply TailK.go; (focus (simp (maxSteps := 9999999) (disch := omega) only [go_sem, g1, g2, g3, g4, g5, g6, g7, sg.ren, tb_ren, hml, hTl]; rfl))) | refine AWpA.skip ?_ | refine AWpA.exit ?_ | refine AWpA.ret ?_ | (with_reducible refine ARoundsA.succ ?_) | ((first | refine Runs.kt (by assumption) (fun h9 => ?_) | refine Runs.kf (by assumption) (fun h9 => ?_) | refine Runs.nt (by assumption) (fun h9 => ?_) | refine Runs.nf (by assumption) (fun h9 => ?_) | refine CondP.ht (by assumption) (fun h9 => ?_) | refine CondP.hf (by assumption) (fun h9 => ?_) | refine CondP.nt (by assumption) (fun h9 => ?_) | refine CondP.nf (by assumption) (fun h9 => ?_)); (try simp only [h9]); clear h9)); (try simp (maxSteps := 9999999) (disch := omega) only [go_sem, g1, g2, g3, g4, g5, g6, g7, sg.ren, tb_ren, hml, hTl]); (try (refine And.intro ?_ ?_; (focus (first | omega | (simp only [go_sem]; done) | (simp; done) | (simp; omega) | assumption))))) | ((first | refine CondP.split (fun hif => ?_) (fun hif => ?_) | refine Runs.part (fun hif => ?_) (fun hif => ?_)) <;> ((try simp only [hif]); (try simp only [decide_eq_true_eq, decide_eq_false_iff_not, Bool.not_eq_true, Bool.not_eq_false, Bool.not_eq_true', Bool.not_eq_false', beq_iff_eq, bne_iff_ne, bne_eq_false_iff_eq, beq_eq_false_iff_ne, ne_eq, Bool.and_eq_true, Bool.or_eq_true, Bool.or_eq_false_iff] at hif); (try (have h9 : _ = true := hif; simp only [h9])); (try (have h9 : _ = false := hif; simp only [h9])); (try simp (maxSteps := 9999999) (disch := omega) only [go_sem, g1, g2, g3, g4, g5, g6, g7, sg.ren, tb_ren, hml, hTl]); (try (refine And.intro ?_ ?_; (focus (first | omega | (simp only [go_sem]; done) | (simp; done) | (simp; omega) | assumption)))); (try (exfalso; omega; done))))))
      (apply Back.to (i + 1) [0, 1, 2, 3]; (focus ((try simp (maxSteps := 9999999) (disch := omega) only [go_sem, g9, g8, e1, e2, sg.ren, tb_ren]); first | done | omega)); rotate_left; (focus (simp (maxSteps := 9999999) (disch := omega) only [go_sem, g9, g8, e1, e2, sg.ren, tb_ren]; (try (repeat' (first | done | trivial | rfl | exact leAs_rfl _ | decide | (refine And.intro ?_ ?_) | (simp; done) | omega | (simp; decide)))))))
      exact ⟨by omega, by omega⟩
  · have g1 : (i : Int) < 32 → ((f : Int) + (i : Int) < 8 * ((l.length : Int) + 4)) = False := fun h => eq_false (by omega)
    have hh1 := holds_any true (Seg.all (mkd l) (by omega)) hmb
    have hh2 := holds_any true (Seg.all (tn (mkd l) f Y i) (by omega)) hTb
    have hold := turned_told hby f Y i hi (by omega)
    simp only [hml, hTl, hB, Bool.true_or] at hh1 hh2
    generalize tn (mkd l) f Y i = T at hTl hTb hh2 hold
    generalize ct Y i = n at hcl hold
    have hmb2 : ((l.length : Int) + 4 - 0) = (l.length : Int) + 4 := by omega
    have hle := sg.le
    by_cases h32 : i < 32
    · have g2 : ((i : Int) < 32) = True := eq_true (by omega)
      have g3 := g1 (by omega)
      clear g1
      by_cases hn : n = 0
      · have g4 : (((n : Nat) : Int) == 0) = true := by rw [hn]; rfl
        (try simp (maxSteps := 9999999) (disch := omega) only [go_sem])
        (repeat' (first | refine AWpA.seq ?_ | refine AWpA.block ?_ | (with_reducible refine CondP.tt ?_) | (with_reducible refine CondP.ff ?_) | refine AWpA.condv (by simp (maxSteps := 9999999) (disch := omega) only [go_sem, g2, g3, g4, hmt, sg.ren, sg.seg, tb_ren, hml, hTl]; rfl) ?_ | ((first | (apply AWpA.region; (focus (simp (maxSteps := 9999999) (disch := omega) only [go_sem, g2, g3, g4, hmt, sg.ren, sg.seg, tb_ren, hml, hTl]; rfl))) | (apply AWpA.draw [1] follows; (focus (simp (maxSteps := 9999999) (disch := omega) only [go_sem, g2, g3, g4, hmt, sg.ren, sg.seg, tb_ren, hml, hTl]; rfl)); (focus (simp (maxSteps := 9999999) (disch := omega) only [go_sem, g2, g3, g4, hmt, sg.ren, sg.seg, tb_ren, hml, hTl]; first | done | trivial)); (focus (simp (maxSteps := 9999999) (disch := omega) only [go_sem, g2, g3, g4, hmt, sg.ren, sg.seg, tb_ren, hml, hTl]; rfl))) | (apply TailK.go; (focus (simp (maxSteps := 9999999) (disch := omega) only [go_sem, g2, g3, g4, hmt, sg.ren, sg.seg, tb_ren, hml, hTl]; rfl))) | refine AWpA.skip ?_ | refine AWpA.exit ?_ | refine AWpA.ret ?_ | (with_reducible refine ARoundsA.succ ?_) | ((first | refine Runs.kt (by assumption) (fun h9 => ?_) | refine Runs.kf (by assumption) (fun h9 => ?_) | refine Runs.nt (by assumption) (fun h9 => ?_) | refine Runs.nf (by assumption) (fun h9 => ?_) | refine CondP.ht (by assumption) (fun h9 => ?_) | refine CondP.hf (by assumption) (fun h9 => ?_) | refine CondP.nt (by assumption) (fun h9 => ?_) | refine CondP.nf (by assumption) (fun h9 => ?_)); (try simp only [h9]); clear h9) | ((first | (with_reducible apply CallG.plain1 [1, 2] (hh1)) | (with_reducible apply CallG.draw1 [1, 2] (hh1))); (focus ((try refine And.intro (leAs_of_eq rfl) ?_); (try refine And.intro (leOL_of_eq rfl) ?_); simp (maxSteps := 9999999) (disch := omega) only [go_sem, g2, g3, g4, hmt, sg.ren, sg.seg, tb_ren, hml, hTl]; first | done | (repeat' (first | rfl | (refine And.intro ?_ ?_))))); (focus (simp (maxSteps := 9999999) (disch := omega) only [go_sem, g2, g3, g4, hmt, sg.ren, sg.seg, tb_ren, hml, hTl]; rfl)))); (try simp (maxSteps := 9999999) (disch := omega) only [go_sem, g2, g3, g4, hmt, sg.ren, sg.seg, tb_ren, hml, hTl]); (try (refine And.intro ?_ ?_; (focus (first | omega | (simp only [go_sem]; done) | (simp; done) | (simp; omega) | assumption))))) | ((first | refine CondP.split (fun hif => ?_) (fun hif => ?_) | refine Runs.part (fun hif => ?_) (fun hif => ?_)) <;> ((try simp only [hif]); (try simp only [decide_eq_true_eq, decide_eq_false_iff_not, Bool.not_eq_true, Bool.not_eq_false, Bool.not_eq_true', Bool.not_eq_false', beq_iff_eq, bne_iff_ne, bne_eq_false_iff_eq, beq_eq_false_iff_ne, ne_eq, Bool.and_eq_true, Bool.or_eq_true, Bool.or_eq_false_iff] at hif); (try (have h9 : _ = true := hif; simp only [h9])); (try (have h9 : _ = false := hif; simp only [h9])); (try simp (maxSteps := 9999999) (disch := omega) only [go_sem, g2, g3, g4, hmt, sg.ren, sg.seg, tb_ren, hml, hTl]); (try (refine And.intro ?_ ?_; (focus (first | omega | (simp only [go_sem]; done) | (simp; done) | (simp; omega) | assumption)))); (try (exfalso; omega; done))))))
        (refine TopPost.of (by first | exact .inl rfl | exact .inr rfl) (by (try simp (maxSteps := 9999999) (disch := omega) only [go_sem]); rfl) ?_; (try simp (maxSteps := 9999999) (disch := omega) only [go_sem]); (try (first | trivial | decide | (simp; done))))
      · have g4 : (((n : Nat) : Int) == 0) = false := by rw [beq_eq_false_iff_ne]; omega
        rw [hold hn] at hh2
        (try simp (maxSteps := 9999999) (disch := omega) only [go_sem])
        (repeat' (first | refine AWpA.seq ?_ | refine AWpA.block ?_ | (with_reducible refine CondP.tt ?_) | (with_reducible refine CondP.ff ?_) | refine AWpA.condv (by simp (maxSteps := 9999999) (disch := omega) only [go_sem, g2, g3, g4, hmt, sg.ren, sg.seg, tb_ren, hml, hTl]; rfl) ?_ | ((first | (apply AWpA.region; (focus (simp (maxSteps := 9999999) (disch := omega) only [go_sem, g2, g3, g4, hmt, sg.ren, sg.seg, tb_ren, hml, hTl]; rfl))) | (apply AWpA.draw [1] follows; (focus (simp (maxSteps := 9999999) (disch := omega) only [go_sem, g2, g3, g4, hmt, sg.ren, sg.seg, tb_ren, hml, hTl]; rfl)); (focus (simp (maxSteps := 9999999) (disch := omega) only [go_sem, g2, g3, g4, hmt, sg.ren, sg.seg, tb_ren, hml, hTl]; first | done | trivial)); (focus (simp (maxSteps := 9999999) (disch := omega) only [go_sem, g2, g3, g4, hmt, sg.ren, sg.seg, tb_ren, hml, hTl]; rfl))) | (apply TailK.go; (focus (simp (maxSteps := 9999999) (disch := omega) only [go_sem, g2, g3, g4, hmt, sg.ren, sg.seg, tb_ren, hml, hTl]; rfl))) | refine AWpA.skip ?_ | refine AWpA.exit ?_ | refine AWpA.ret ?_ | (with_reducible refine ARoundsA.succ ?_) | ((first | refine Runs.kt (by assumption) (fun h9 => ?_) | refine Runs.kf (by assumption) (fun h9 => ?_) | refine Runs.nt (by assumption) (fun h9 => ?_) | refine Runs.nf (by assumption) (fun h9 => ?_) | refine CondP.ht (by assumption) (fun h9 => ?_) | refine CondP.hf (by assumption) (fun h9 => ?_) | refine CondP.nt (by assumption) (fun h9 => ?_) | refine CondP.nf (by assumption) (fun h9 => ?_)); (try simp only [h9]); clear h9) | ((first | (with_reducible apply CallG.plain1 [1, 2] (hh1)) | (with_reducible apply CallG.draw1 [1, 2] (hh1))); (focus ((try refine And.intro (leAs_of_eq rfl) ?_); (try refine And.intro (leOL_of_eq rfl) ?_); simp (maxSteps := 9999999) (disch := omega) only [go_sem, g2, g3, g4, hmt, sg.ren, sg.seg, tb_ren, hml, hTl]; first | done | (repeat' (first | rfl | (refine And.intro ?_ ?_))))); (focus (simp (maxSteps := 9999999) (disch := omega) only [go_sem, g2, g3, g4, hmt, sg.ren, sg.seg, tb_ren, hml, hTl]; rfl))) | ((first | (with_reducible apply CallG.plain1 [1, 3] (hh2)) | (with_reducible apply CallG.draw1 [1, 3] (hh2))); (focus ((try refine And.intro (leAs_of_eq rfl) ?_); (try refine And.intro (leOL_of_eq rfl) ?_); simp (maxSteps := 9999999) (disch := omega) only [go_sem, g2, g3, g4, hmt, sg.ren, sg.seg, tb_ren, hml, hTl]; first | done | (repeat' (first | rfl | (refine And.intro ?_ ?_))))); (focus (simp (maxSteps := 9999999) (disch := omega) only [go_sem, g2, g3, g4, hmt, sg.ren, sg.seg, tb_ren, hml, hTl]; rfl)))); (try simp (maxSteps := 9999999) (disch := omega) only [go_sem, g2, g3, g4, hmt, sg.ren, sg.seg, tb_ren, hml, hTl]); (try (refine And.intro ?_ ?_; (focus (first | omega | (simp only [go_sem]; done) | (simp; done) | (simp; omega) | assumption))))) | ((first | refine CondP.split (fun hif => ?_) (fun hif => ?_) | refine Runs.part (fun hif => ?_) (fun hif => ?_)) <;> ((try simp only [hif]); (try simp only [decide_eq_true_eq, decide_eq_false_iff_not, Bool.not_eq_true, Bool.not_eq_false, Bool.not_eq_true', Bool.not_eq_false', beq_iff_eq, bne_iff_ne, bne_eq_false_iff_eq, beq_eq_false_iff_ne, ne_eq, Bool.and_eq_true, Bool.or_eq_true, Bool.or_eq_false_iff] at hif); (try (have h9 : _ = true := hif; simp only [h9])); (try (have h9 : _ = false := hif; simp only [h9])); (try simp (maxSteps := 9999999) (disch := omega) only [go_sem, g2, g3, g4, hmt, sg.ren, sg.seg, tb_ren, hml, hTl]); (try (refine And.intro ?_ ?_; (focus (first | omega | (simp only [go_sem]; done) | (simp; done) | (simp; omega) | assumption)))); (try (exfalso; omega; done))))))
        (refine TopPost.of (by first | exact .inl rfl | exact .inr rfl) (by (try simp (maxSteps := 9999999) (disch := omega) only [go_sem]); rfl) ?_; (try simp (maxSteps := 9999999) (disch := omega) only [go_sem]); (try (first | trivial | decide | (simp; done))))
    · have g2 : ((i : Int) < 32) = False := eq_false (by omega)
      clear g1
      by_cases hn : n = 0
      · have g4 : (((n : Nat) : Int) == 0) = true := by rw [hn]; rfl
        (try simp (maxSteps := 9999999) (disch := omega) only [go_sem])
        (repeat' (first | refine AWpA.seq ?_ | refine AWpA.block ?_ | (with_reducible refine CondP.tt ?_) | (with_reducible refine CondP.ff ?_) | refine AWpA.condv (by simp (maxSteps := 9999999) (disch := omega) only [go_sem, g2, g4, hmt, sg.ren, sg.seg, tb_ren, hml, hTl]; rfl) ?_ | ((first | (apply AWpA.region; (focus (simp (maxSteps := 9999999) (disch := omega) only [go_sem, g2, g4, hmt, sg.ren, sg.seg, tb_ren, hml, hTl]; rfl))) | (apply AWpA.draw [1] follows; (focus (simp (maxSteps := 9999999) (disch := omega) only [go_sem, g2, g4, hmt, sg.ren, sg.seg, tb_ren, hml, hTl]; rfl)); (focus (simp (maxSteps := 9999999) (disch := omega) only [go_sem, g2, g4, hmt, sg.ren, sg.seg, tb_ren, hml, hTl]; first | done | trivial)); (focus (simp (maxSteps := 9999999) (disch := omega) only [go_sem, g2, g4, hmt, sg.ren, sg.seg, tb_ren, hml, hTl]; rfl))) | (apply TailK.go; (focus (simp (maxSteps := 9999999) (disch := omega) only [go_sem, g2, g4, hmt, sg.ren, sg.seg, tb_ren, hml, hTl]; rfl))) | refine AWpA.skip ?_ | refine AWpA.exit ?_ | refine AWpA.ret ?_ | (with_reducible refine ARoundsA.succ ?_) | ((first | refine Runs.kt (by assumption) (fun h9 => ?_) | refine Runs.kf (by assumption) (fun h9 => ?_) | refine Runs.nt (by assumption) (fun h9 => ?_) | refine Runs.nf (by assumption) (fun h9 => ?_) | refine CondP.ht (by assumption) (fun h9 => ?_) | refine CondP.hf (by assumption) (fun h9 => ?_) | refine CondP.nt (by assumption) (fun h9 => ?_) | refine CondP.nf (by assumption) (fun h9 => ?_)); (try simp only [h9]); clear h9) | ((first | (with_reducible apply CallG.plain1 [1, 2] (hh1)) | (with_reducible apply CallG.draw1 [1, 2] (hh1))); (focus ((try refine And.intro (leAs_of_eq rfl) ?_); (try refine And.intro (leOL_of_eq rfl) ?_); simp (maxSteps := 9999999) (disch := omega) only [go_sem, g2, g4, hmt, sg.ren, sg.seg, tb_ren, hml, hTl]; first | done | (repeat' (first | rfl | (refine And.intro ?_ ?_))))); (focus (simp (maxSteps := 9999999) (disch := omega) only [go_sem, g2, g4, hmt, sg.ren, sg.seg, tb_ren, hml, hTl]; rfl)))); (try simp (maxSteps := 9999999) (disch := omega) only [go_sem, g2, g4, hmt, sg.ren, sg.seg, tb_ren, hml, hTl]); (try (refine And.intro ?_ ?_; (focus (first | omega | (simp only [go_sem]; done) | (simp; done) | (simp; omega) | assumption))))) | ((first | refine CondP.split (fun hif => ?_) (fun hif => ?_) | refine Runs.part (fun hif => ?_) (fun hif => ?_)) <;> ((try simp only [hif]); (try simp only [decide_eq_true_eq, decide_eq_false_iff_not, Bool.not_eq_true, Bool.not_eq_false, Bool.not_eq_true', Bool.not_eq_false', beq_iff_eq, bne_iff_ne, bne_eq_false_iff_eq, beq_eq_false_iff_ne, ne_eq, Bool.and_eq_true, Bool.or_eq_true, Bool.or_eq_false_iff] at hif); (try (have h9 : _ = true := hif; simp only [h9])); (try (have h9 : _ = false := hif; simp only [h9])); (try simp (maxSteps := 9999999) (disch := omega) only [go_sem, g2, g4, hmt, sg.ren, sg.seg, tb_ren, hml, hTl]); (try (refine And.intro ?_ ?_; (focus (first | omega | (simp only [go_sem]; done) | (simp; done) | (simp; omega) | assumption)))); (try (exfalso; omega; done))))))
        (refine TopPost.of (by first | exact .inl rfl | exact .inr rfl) (by (try simp (maxSteps := 9999999) (disch := omega) only [go_sem]); rfl) ?_; (try simp (maxSteps := 9999999) (disch := omega) only [go_sem]); (try (first | trivial | decide | (simp; done))))
      · have g4 : (((n : Nat) : Int) == 0) = false := by rw [beq_eq_false_iff_ne]; omega
        rw [hold hn] at hh2
        (try simp (maxSteps := 9999999) (disch := omega) only [go_sem])
        (repeat' (first | refine AWpA.seq ?_ | refine AWpA.block ?_ | (with_reducible refine CondP.tt ?_) | (with_reducible refine CondP.ff ?_) | refine AWpA.condv (by simp (maxSteps := 9999999) (disch := omega) only [go_sem, g2, g4, hmt, sg.ren, sg.seg, tb_ren, hml, hTl]; rfl) ?_ | ((first | (apply AWpA.region; (focus (simp (maxSteps := 9999999) (disch := omega) only [go_sem, g2, g4, hmt, sg.ren, sg.seg, tb_ren, hml, hTl]; rfl))) | (apply AWpA.draw [1] follows; (focus (simp (maxSteps := 9999999) (disch := omega) only [go_sem, g2, g4, hmt, sg.ren, sg.seg, tb_ren, hml, hTl]; rfl)); (focus (simp (maxSteps := 9999999) (disch := omega) only [go_sem, g2, g4, hmt, sg.ren, sg.seg, tb_ren, hml, hTl]; first | done | trivial)); (focus (simp (maxSteps := 9999999) (disch := omega) only [go_sem, g2, g4, hmt, sg.ren, sg.seg, tb_ren, hml, hTl]; rfl))) | (apply TailK.go; (focus (simp (maxSteps := 9999999) (disch := omega) only [go_sem, g2, g4, hmt, sg.ren, sg.seg, tb_ren, hml, hTl]; rfl))) | refine AWpA.skip ?_ | refine AWpA.exit ?_ | refine AWpA.ret ?_ | (with_reducible refine ARoundsA.succ ?_) | ((first | refine Runs.kt (by assumption) (fun h9 => ?_) | refine Runs.kf (by assumption) (fun h9 => ?_) | refine Runs.nt (by assumption) (fun h9 => ?_) | refine Runs.nf (by assumption) (fun h9 => ?_) | refine CondP.ht (by assumption) (fun h9 => ?_) | refine CondP.hf (by assumption) (fun h9 => ?_) | refine CondP.nt (by assumption) (fun h9 => ?_) | refine CondP.nf (by assumption) (fun h9 => ?_)); (try simp only [h9]); clear h9) | ((first | (with_reducible apply CallG.plain1 [1, 2] (hh1)) | (with_reducible apply CallG.draw1 [1, 2] (hh1))); (focus ((try refine And.intro (leAs_of_eq rfl) ?_); (try refine And.intro (leOL_of_eq rfl) ?_); simp (maxSteps := 9999999) (disch := omega) only [go_sem, g2, g4, hmt, sg.ren, sg.seg, tb_ren, hml, hTl]; first | done | (repeat' (first | rfl | (refine And.intro ?_ ?_))))); (focus (simp (maxSteps := 9999999) (disch := omega) only [go_sem, g2, g4, hmt, sg.ren, sg.seg, tb_ren, hml, hTl]; rfl))) | ((first | (with_reducible apply CallG.plain1 [1, 3] (hh2)) | (with_reducible apply CallG.draw1 [1, 3] (hh2))); (focus ((try refine And.intro (leAs_of_eq rfl) ?_); (try refine And.intro (leOL_of_eq rfl) ?_); simp (maxSteps := 9999999) (disch := omega) only [go_sem, g2, g4, hmt, sg.ren, sg.seg, tb_ren, hml, hTl]; first | done | (repeat' (first | rfl | (refine And.intro ?_ ?_))))); (focus (simp (maxSteps := 9999999) (disch := omega) only [go_sem, g2, g4, hmt, sg.ren, sg.seg, tb_ren, hml, hTl]; rfl)))); (try simp (maxSteps := 9999999) (disch := omega) only [go_sem, g2, g4, hmt, sg.ren, sg.seg, tb_ren, hml, hTl]); (try (refine And.intro ?_ ?_; (focus (first | omega | (simp only [go_sem]; done) | (simp; done) | (simp; omega) | assumption))))) | ((first | refine CondP.split (fun hif => ?_) (fun hif => ?_) | refine Runs.part (fun hif => ?_) (fun hif => ?_)) <;> ((try simp only [hif]); (try simp only [decide_eq_true_eq, decide_eq_false_iff_not, Bool.not_eq_true, Bool.not_eq_false, Bool.not_eq_true', Bool.not_eq_false', beq_iff_eq, bne_iff_ne, bne_eq_false_iff_eq, beq_eq_false_iff_ne, ne_eq, Bool.and_eq_true, Bool.or_eq_true, Bool.or_eq_false_iff] at hif); (try (have h9 : _ = true := hif; simp only [h9])); (try (have h9 : _ = false := hif; simp only [h9])); (try simp (maxSteps := 9999999) (disch := omega) only [go_sem, g2, g4, hmt, sg.ren, sg.seg, tb_ren, hml, hTl]); (try (refine And.intro ?_ ?_; (focus (first | omega | (simp only [go_sem]; done) | (simp; done) | (simp; omega) | assumption)))); (try (exfalso; omega; done))))))
        (refine TopPost.of (by first | exact .inl rfl | exact .inr rfl) (by (try simp (maxSteps := 9999999) (disch := omega) only [go_sem]); rfl) ?_; (try simp (maxSteps := 9999999) (disch := omega) only [go_sem]); (try (first | trivial | decide | (simp; done))))
end Go.Proofs.Ytnadhhmlehifnaa
