/- The walk of FrameTurned. -/
import Derived.Test.YthbpdmlbfnjoiaaAf8
namespace Go.Crc
set_option linter.unusedSimpArgs false
set_option linter.unusedVariables false
set_option maxHeartbeats 4000000
open Go Go.Am
theorem tn_same (l : List Int) (f : Nat) (y : R) (i : Nat) (h : ct y i = 0) : tn l f y i = l := by
  induction i with
  | zero => rfl
  | succ i ih =>
    simp only [ct] at h
    split at h
    · cases h
    · rename_i hb
      simp only [tn, hb]
      exact ih h
end Go.Crc
namespace Go.Proofs.Ythbpdmlbfnjoiaa
open Go Go.Am Go.RowKit Go.ChangeShapes Go.WideShapes Go.ChangeAt Go.Crc
set_option linter.unusedSimpArgs false
set_option maxHeartbeats 4000000
set_option maxRecDepth 100000
theorem fdE_sum {L : List Int} (h9 : 9 ≤ L.length) (h : mkdB L = false) : fdE L = 5 := by unfold fdE; rw [if_neg (by omega), if_pos h]
/- quidnunc/quidnunclaw03.FrameTurned -/
noncomputable def c4_1 : ACode := .region false [⟨some 3, .box 0, [.t 0], none⟩,
  ⟨some 6, .move, [.c (.val (.bool false))], none⟩] [] [] [1, 2, 3] true [] []
noncomputable def c4_4 : ACode := .region false [⟨some 15, .call 13, [], none⟩,
  ⟨some 16, .un .not, [.t 15], none⟩,
  ⟨some 17, .move, [.t 16], none⟩,
  ⟨some 18, .addr 3, [.t 3], some (some 17, false)⟩,
  ⟨some 19, .load false 1, [.t 18], some (some 17, false)⟩,
  ⟨some 20, .len, [.t 19], some (some 17, false)⟩,
  ⟨some 21, .bin .gtr, [.t 20, .c (.val (.int .i64 200))], some (some 17, false)⟩,
  ⟨some 22, .pick, [.t 17, .c (.val (.bool true)), .t 21], none⟩,
  ⟨some 23, .move, [.t 22], none⟩,
  ⟨some 24, .load true 4, [.t 3], some (some 23, false)⟩,
  ⟨some 25, .call 18, [.t 24], some (some 23, false)⟩,
  ⟨some 26, .bin .neq, [.t 25, .c (.val (.int .i64 0))], some (some 23, false)⟩,
  ⟨some 27, .pick, [.t 23, .c (.val (.bool true)), .t 26], none⟩] [] [] [1, 2, 3, 27] true [] []
noncomputable def c4_7 : ACode := .region false [⟨some 28, .call 13, [], none⟩,
  ⟨some 6, .move, [.t 28], none⟩] [] [] [6] true [] []
noncomputable def c4_6 : ACode := .seq c4_7 .ret
noncomputable def c4_5 : ACode := .cond (.t 27) c4_6 .skip
noncomputable def c4_3 : ACode := .seq c4_4 c4_5
noncomputable def c4_9 : ACode := .region false [⟨some 7, .alloc [(.int .u32 0), (.int .i32 0), (.int .u32 0), (.int .u32 0), (.int .u32 0), (.int .u32 0), (.int .u32 0), (.int .u32 0), (.int .u32 0), (.int .u32 0), (.int .u32 0), (.int .u32 0), (.int .u32 0), (.int .u32 0), (.int .u32 0), (.int .u32 0), (.int .u32 0), (.int .u32 0), (.int .u32 0), (.int .u32 0), (.int .u32 0), (.int .u32 0), (.int .u32 0), (.int .u32 0), (.int .u32 0), (.int .u32 0), (.int .u32 0), (.int .u32 0), (.int .u32 0), (.int .u32 0), (.int .u32 0), (.int .u32 0), (.int .u32 0), (.int .u32 0), (.int .u32 0), (.int .u32 0), (.int .u32 0), (.int .u32 0), (.int .u32 0), (.int .u32 0), (.int .u32 0), (.int .u32 0), (.int .u32 0), (.int .u32 0), (.int .u32 0), (.int .u32 0), (.int .u32 0), (.int .u32 0), (.int .u32 0), (.int .u32 0), (.int .u32 0), (.int .u32 0), (.int .u32 0), (.int .u32 0), (.int .u32 0), (.int .u32 0), (.int .u32 0), (.int .u32 0), (.int .u32 0), (.int .u32 0), (.int .u32 0), (.int .u32 0), (.int .u32 0), (.int .u32 0), (.int .u32 0), (.int .u32 0), (.int .u32 0), (.int .u32 0), (.int .u32 0), (.int .u32 0), (.int .u32 0), (.int .u32 0), (.int .u32 0), (.int .u32 0), (.int .u32 0), (.int .u32 0), (.int .u32 0), (.int .u32 0), (.int .u32 0), (.int .u32 0), (.int .u32 0), (.int .u32 0), (.int .u32 0), (.int .u32 0), (.int .u32 0), (.int .u32 0), (.int .u32 0), (.int .u32 0), (.int .u32 0), (.int .u32 0), (.int .u32 0), (.int .u32 0), (.int .u32 0), (.int .u32 0), (.int .u32 0), (.int .u32 0), (.int .u32 0), (.int .u32 0), (.int .u32 0), (.int .u32 0), (.int .u32 0), (.int .u32 0), (.int .u32 0), (.int .u32 0), (.int .u32 0), (.int .u32 0), (.int .u32 0), (.int .u32 0), (.int .u32 0), (.int .u32 0), (.int .u32 0), (.int .u32 0), (.int .u32 0), (.int .u32 0), (.int .u32 0), (.int .u32 0), (.int .u32 0), (.int .u32 0), (.int .u32 0), (.int .u32 0), (.int .u32 0), (.int .u32 0), (.int .u32 0), (.int .u32 0), (.int .u32 0), (.int .u32 0), (.int .u32 0), (.int .u32 0), (.int .u32 0), (.int .u32 0), (.int .u32 0), (.int .u32 0), (.int .u32 0), (.int .u32 0), (.int .u32 0), (.int .u32 0), (.int .u32 0), (.int .u32 0), (.int .u32 0), (.int .u32 0), (.int .u32 0), (.int .u32 0), (.int .u32 0), (.int .u32 0), (.int .u32 0), (.int .u32 0), (.int .u32 0), (.int .u32 0), (.int .u32 0), (.int .u32 0), (.int .u32 0), (.int .u32 0), (.int .u32 0), (.int .u32 0), (.int .u32 0), (.int .u32 0), (.int .u32 0), (.int .u32 0), (.int .u32 0), (.int .u32 0), (.int .u32 0), (.int .u32 0), (.int .u32 0), (.int .u32 0), (.int .u32 0), (.int .u32 0), (.int .u32 0), (.int .u32 0), (.int .u32 0), (.int .u32 0), (.int .u32 0), (.int .u32 0), (.int .u32 0), (.int .u32 0), (.int .u32 0), (.int .u32 0), (.int .u32 0), (.int .u32 0), (.int .u32 0), (.int .u32 0), (.int .u32 0), (.int .u32 0), (.int .u32 0), (.int .u32 0), (.int .u32 0), (.int .u32 0), (.int .u32 0), (.int .u32 0), (.int .u32 0), (.int .u32 0), (.int .u32 0), (.int .u32 0), (.int .u32 0), (.int .u32 0), (.int .u32 0), (.int .u32 0), (.int .u32 0), (.int .u32 0), (.int .u32 0), (.int .u32 0), (.int .u32 0), (.int .u32 0), (.int .u32 0), (.int .u32 0), (.int .u32 0), (.int .u32 0), (.int .u32 0), (.int .u32 0), (.int .u32 0), (.int .u32 0), (.int .u32 0), (.int .u32 0), (.int .u32 0), (.int .u32 0), (.int .u32 0), (.int .u32 0), (.int .u32 0), (.int .u32 0), (.int .u32 0), (.int .u32 0), (.int .u32 0), (.int .u32 0), (.int .u32 0), (.int .u32 0), (.int .u32 0), (.int .u32 0), (.int .u32 0), (.int .u32 0), (.int .u32 0), (.int .u32 0), (.int .u32 0), (.int .u32 0), (.int .u32 0), (.int .u32 0), (.int .u32 0), (.int .u32 0), (.int .u32 0), (.int .u32 0), (.int .u32 0), (.int .u32 0), (.int .u32 0), (.int .u32 0), (.int .u32 0), (.int .u32 0), (.int .u32 0), (.int .u32 0), (.int .u32 0), (.int .u32 0), (.int .u32 0), (.int .u32 0), (.int .u32 0), (.int .u32 0), (.int .u32 0), (.int .u32 0), (.int .u32 0), (.int .u32 0), (.int .u32 0), (.int .u32 0), (.int .u32 0)], [], none⟩] [] [] [1, 2, 3, 7] true [] []
noncomputable def c4_11 : ACode := .region false [⟨some 30, .load true 4, [.t 3], none⟩,
  ⟨some 31, .call 19, [.t 30], none⟩,
  ⟨some 32, .call 17, [.t 7, .t 31], none⟩,
  ⟨some 29, .move, [.t 32], none⟩,
  ⟨some 33, .ext 0, [.t 29], none⟩,
  ⟨some 34, .ext 1, [.t 29], none⟩,
  ⟨some 8, .move, [.t 33], none⟩,
  ⟨some 9, .move, [.t 34], none⟩] [] [] [1, 2, 3, 7, 8, 9] true [] []
noncomputable def c4_14 : ACode := .region false [⟨some 35, .move, [.t 9], none⟩,
  ⟨some 36, .bin .neq, [.t 35, .c (.val (.int .i64 0))], none⟩,
  ⟨some 37, .move, [.t 36], none⟩,
  ⟨some 38, .move, [.t 8], some (some 37, false)⟩,
  ⟨some 39, .len, [.t 38], some (some 37, false)⟩,
  ⟨some 40, .addr 3, [.t 3], some (some 37, false)⟩,
  ⟨some 41, .load false 1, [.t 40], some (some 37, false)⟩,
  ⟨some 42, .len, [.t 41], some (some 37, false)⟩,
  ⟨some 43, .bin .add, [.c (.val (.int .i64 9)), .t 42], some (some 37, false)⟩,
  ⟨some 44, .bin .neq, [.t 39, .t 43], some (some 37, false)⟩,
  ⟨some 45, .pick, [.t 37, .c (.val (.bool true)), .t 44], none⟩] [] [] [1, 2, 3, 7, 8, 45] false [] []
noncomputable def c4_17 : ACode := .region false [⟨some 6, .move, [.c (.val (.bool false))], none⟩] [] [] [6] false [] []
noncomputable def c4_16 : ACode := .seq c4_17 .ret
noncomputable def c4_15 : ACode := .cond (.t 45) c4_16 .skip
noncomputable def c4_13 : ACode := .seq c4_14 c4_15
noncomputable def c4_19 : ACode := .region false [⟨some 46, .move, [.t 1], none⟩,
  ⟨some 47, .bin .and, [.t 46, .c (.val (.int .i64 65535))], none⟩,
  ⟨some 48, .move, [.t 8], none⟩,
  ⟨some 49, .len, [.t 48], none⟩,
  ⟨some 50, .bin .mul, [.c (.val (.int .i64 8)), .t 49], none⟩,
  ⟨some 51, .bin .rem, [.t 47, .t 50], none⟩,
  ⟨some 10, .move, [.t 51], none⟩] [] [] [2, 3, 7, 8, 10] false [] []
noncomputable def c4_21 : ACode := .region false [⟨some 11, .move, [.c (.val (.int .i64 0))], none⟩] [] [] [2, 3, 7, 8, 10, 11] false [] []
noncomputable def c4_24 : ACode := .region false [⟨some 12, .move, [.c (.val (.int .i64 0))], none⟩] [] [] [2, 3, 7, 8, 10, 11, 12] false [] []
noncomputable def c4_29 : ACode := .region false [⟨some 52, .move, [.t 12], none⟩,
  ⟨some 53, .bin .lss, [.t 52, .c (.val (.int .i64 32))], none⟩,
  ⟨some 54, .move, [.t 53], none⟩,
  ⟨some 55, .move, [.t 10], some (some 54, true)⟩,
  ⟨some 56, .move, [.t 12], some (some 54, true)⟩,
  ⟨some 57, .bin .add, [.t 55, .t 56], some (some 54, true)⟩,
  ⟨some 58, .move, [.t 8], some (some 54, true)⟩,
  ⟨some 59, .len, [.t 58], some (some 54, true)⟩,
  ⟨some 60, .bin .mul, [.c (.val (.int .i64 8)), .t 59], some (some 54, true)⟩,
  ⟨some 61, .bin .lss, [.t 57, .t 60], some (some 54, true)⟩,
  ⟨some 62, .pick, [.t 54, .t 61, .c (.val (.bool false))], none⟩] [] [] [2, 3, 7, 8, 10, 11, 12, 62] false [] []
noncomputable def c4_30 : ACode := .cond (.t 62) .skip (.exit 0)
noncomputable def c4_28 : ACode := .seq c4_29 c4_30
noncomputable def c4_34 : ACode := .region false [⟨some 65, .move, [.t 2], none⟩,
  ⟨some 66, .move, [.t 12], none⟩,
  ⟨some 67, .bin .shr, [.t 65, .t 66], none⟩,
  ⟨some 68, .bin .and, [.t 67, .c (.val (.int .u32 1))], none⟩,
  ⟨some 69, .bin .eql, [.t 68, .c (.val (.int .u32 1))], none⟩] [] [] [2, 3, 7, 8, 10, 11, 12, 69] false [] []
noncomputable def c4_37 : ACode := .region true [⟨some 70, .move, [.t 8], none⟩,
  ⟨some 71, .move, [.t 10], none⟩,
  ⟨some 72, .move, [.t 12], none⟩,
  ⟨some 73, .bin .add, [.t 71, .t 72], none⟩,
  ⟨some 74, .bin .quo, [.t 73, .c (.val (.int .i64 8))], none⟩,
  ⟨some 75, .ixS 1, [.t 70, .t 74], none⟩,
  ⟨some 76, .load false 1, [.t 75], none⟩,
  ⟨some 77, .move, [.t 10], none⟩,
  ⟨some 78, .move, [.t 12], none⟩,
  ⟨some 79, .bin .add, [.t 77, .t 78], none⟩,
  ⟨some 80, .bin .rem, [.t 79, .c (.val (.int .i64 8))], none⟩,
  ⟨some 81, .bin .shl, [.c (.val (.int .u8 1)), .t 80], none⟩,
  ⟨some 82, .bin .xor, [.t 76, .t 81], none⟩,
  ⟨some 83, .ixS 1, [.t 70, .t 74], none⟩,
  ⟨none, .store 1, [.t 83, .t 82], none⟩] [6] [] [2, 3, 7, 8, 10, 11, 12] true [8] []
noncomputable def c4_38 : ACode := .region false [⟨some 84, .move, [.t 11], none⟩,
  ⟨some 85, .bin .add, [.t 84, .c (.val (.int .i64 1))], none⟩,
  ⟨some 11, .move, [.t 85], none⟩] [] [] [2, 3, 7, 8, 10, 11, 12] false [] []
noncomputable def c4_36 : ACode := .seq c4_37 c4_38
noncomputable def c4_35 : ACode := .cond (.t 69) c4_36 .skip
noncomputable def c4_33 : ACode := .seq c4_34 c4_35
noncomputable def c4_32 : ACode := .block 1 c4_33
noncomputable def c4_39 : ACode := .region false [⟨some 63, .move, [.t 12], none⟩,
  ⟨some 64, .bin .add, [.t 63, .c (.val (.int .i64 1))], none⟩,
  ⟨some 12, .move, [.t 64], none⟩] [] [] [2, 3, 7, 8, 10, 11, 12] false [] []
noncomputable def c4_31 : ACode := .seq c4_32 c4_39
noncomputable def c4_27 : ACode := .seq c4_28 c4_31
noncomputable def c4_26 : ACode := .loop c4_27
noncomputable def c4_25 : ACode := .block 0 c4_26
noncomputable def c4_23 : ACode := .seq c4_24 c4_25
noncomputable def c4_41 : ACode := .region false [⟨some 87, .move, [.t 8], none⟩,
  ⟨some 88, .call 14, [.t 7, .t 87], none⟩,
  ⟨some 86, .move, [.t 88], none⟩,
  ⟨some 89, .ext 0, [.t 86], none⟩,
  ⟨some 90, .ext 1, [.t 86], none⟩,
  ⟨some 13, .alloc [(.int .i64 0), (.int .i64 0), (.int .i64 0), (.slice none 0 0)], [], none⟩,
  ⟨none, .store 4, [.t 13, .t 89], none⟩,
  ⟨some 14, .move, [.t 90], none⟩] [] [] [3, 11, 13, 14] true [] []
noncomputable def c4_44 : ACode := .region false [⟨some 91, .move, [.t 11], none⟩,
  ⟨some 92, .bin .eql, [.t 91, .c (.val (.int .i64 0))], none⟩] [] [] [3, 13, 14, 92] false [] []
noncomputable def c4_47 : ACode := .region false [⟨some 93, .move, [.t 14], none⟩,
  ⟨some 94, .bin .eql, [.t 93, .c (.val (.int .i64 0))], none⟩,
  ⟨some 95, .move, [.t 94], none⟩,
  ⟨some 96, .load true 4, [.t 13], some (some 95, true)⟩,
  ⟨some 97, .load true 4, [.t 3], some (some 95, true)⟩,
  ⟨some 98, .call 16, [.t 96, .t 97], some (some 95, true)⟩,
  ⟨some 99, .pick, [.t 95, .t 98, .c (.val (.bool false))], none⟩,
  ⟨some 6, .move, [.t 99], none⟩] [] [] [6] true [] []
noncomputable def c4_46 : ACode := .seq c4_47 .ret
noncomputable def c4_45 : ACode := .cond (.t 92) c4_46 .skip
noncomputable def c4_43 : ACode := .seq c4_44 c4_45
noncomputable def c4_49 : ACode := .region false [⟨some 100, .move, [.t 14], none⟩,
  ⟨some 101, .bin .eql, [.t 100, .c (.val (.int .i64 5))], none⟩,
  ⟨some 102, .move, [.t 101], none⟩,
  ⟨some 103, .load true 4, [.t 13], some (some 102, true)⟩,
  ⟨some 104, .build [(.int .i64 0), (.int .i64 0), (.int .i64 0), (.slice none 0 0)] [], [], some (some 102, true)⟩,
  ⟨some 105, .call 16, [.t 103, .t 104], some (some 102, true)⟩,
  ⟨some 106, .pick, [.t 102, .t 105, .c (.val (.bool false))], none⟩,
  ⟨some 6, .move, [.t 106], none⟩] [] [] [6] true [] []
noncomputable def c4_48 : ACode := .seq c4_49 .ret
noncomputable def c4_42 : ACode := .seq c4_43 c4_48
noncomputable def c4_40 : ACode := .seq c4_41 c4_42
noncomputable def c4_22 : ACode := .seq c4_23 c4_40
noncomputable def c4_20 : ACode := .seq c4_21 c4_22
noncomputable def c4_18 : ACode := .seq c4_19 c4_20
noncomputable def c4_12 : ACode := .seq c4_13 c4_18
noncomputable def c4_10 : ACode := .seq c4_11 c4_12
noncomputable def c4_8 : ACode := .seq c4_9 c4_10
noncomputable def c4_2 : ACode := .seq c4_3 c4_8
noncomputable def c4_0 : ACode := .seq c4_1 c4_2
noncomputable def code4 : Code := (Try.f4.body).getD .skip
theorem c4_ok : compC Try.prog 107 code4 = some (strip c4_0) := by kernel_rfl
theorem res4_ok : Try.f4.results.toList.mapM (resC Try.prog) = some [(6, none)] := by kernel_rfl
theorem fturned_walk (W : World) (x : FrS) (at1 y : Int) (hx : x.ok W) (hy : IntKind.u32.min ≤ y ∧ y ≤ IntKind.u32.max) :
    Calls Try.prog 4 #[.agg (x.rep).toArray, .int .i64 at1, .int .u32 y] W fun e W' => e = .returned (.bool true) ∧ Below W.heap.size W W' := by
  obtain ⟨f, t, k, ⟨ad, off, cap, l⟩⟩ := x
  obtain ⟨-, -, -, hx4⟩ := hx
  have hz := hx4.fz
  have hb : ∀ x ∈ l, 0 ≤ x ∧ x ≤ 255 := hx4.all
  simp only at hz
  obtain ⟨hy1, hy2⟩ : 0 ≤ y ∧ y ≤ 4294967295 := hy
  obtain ⟨Y, rfl⟩ : ∃ s : R, y = (s.toNat : Int) := ⟨BitVec.ofInt 32 y, by rw [BitVec.toNat_ofInt]; omega⟩
  by_cases hs : l.length ≤ 200
  case neg =>
    have h1 : (200 < (l.length : Int)) = True := eq_true (by omega)
    refine top_call c4_ok Try.func4 rfl Try.ntmps4 res4_ok [ .agg [I f, I t, I k, .val (.slice ad l.length cap)], I at1, .val (.int .u32 (Y.toNat : Int))] (by simp) (by (repeat' (first | exact VRs_nil' _ | exact VR_val' _ _ | (refine VRs_cons' ?_ ?_) | (refine VR_agg' (by first | rfl | assumption) ?_; first | assumption | simp [Value.oneCell', FrS.rep])))) ?_; try simp (maxSteps := 9999999) (disch := omega) only [go_sem]
    (repeat' (first | refine AWpA.seq ?_ | refine AWpA.block ?_ | (with_reducible refine CondP.tt ?_) | (with_reducible refine CondP.ff ?_) | refine AWpA.condv (by simp (maxSteps := 9999999) (disch := omega) only [go_sem, h1]; rfl) ?_ | ((first | (apply AWpA.region; (focus (simp (maxSteps := 9999999) (disch := omega) only [go_sem, h1]; rfl))) | (apply AWpA.draw [] follows; (focus (simp (maxSteps := 9999999) (disch := omega) only [go_sem, h1]; rfl)); (focus (simp (maxSteps := 9999999) (disch := omega) only [go_sem, h1]; first | done | trivial)); (focus (simp (maxSteps := 9999999) (disch := omega) only [go_sem, h1]; rfl))) | (apply TailK.go; (focus (simp (maxSteps := 9999999) (disch := omega) only [go_sem, h1]; rfl))) | refine AWpA.skip ?_ | refine AWpA.exit ?_ | refine AWpA.ret ?_ | (with_reducible refine ARoundsA.succ ?_) | ((first | refine Runs.kt (by assumption) (fun h9 => ?_) | refine Runs.kf (by assumption) (fun h9 => ?_) | refine Runs.nt (by assumption) (fun h9 => ?_) | refine Runs.nf (by assumption) (fun h9 => ?_) | refine CondP.ht (by assumption) (fun h9 => ?_) | refine CondP.hf (by assumption) (fun h9 => ?_) | refine CondP.nt (by assumption) (fun h9 => ?_) | refine CondP.nf (by assumption) (fun h9 => ?_)); (try simp only [h9]); clear h9) | ((first | (with_reducible apply CallG.plain1 [] (speaks03_any)) | (with_reducible apply CallG.draw1 [] (speaks03_any))); (focus ((try refine And.intro (leAs_of_eq rfl) ?_); (try refine And.intro (leOL_of_eq rfl) ?_); simp (maxSteps := 9999999) (disch := omega) only [go_sem, h1]; first | done | (repeat' (first | rfl | (refine And.intro ?_ ?_))))); (focus (simp (maxSteps := 9999999) (disch := omega) only [go_sem, h1]; rfl)))); (try simp (maxSteps := 9999999) (disch := omega) only [go_sem, h1]); (try (refine And.intro ?_ ?_; (focus (first | omega | (simp only [go_sem]; done) | (simp; done) | (simp; omega) | assumption))))) | ((first | refine CondP.split (fun hif => ?_) (fun hif => ?_) | refine Runs.part (fun hif => ?_) (fun hif => ?_)) <;> ((try simp only [hif]); (try simp only [decide_eq_true_eq, decide_eq_false_iff_not, Bool.not_eq_true, Bool.not_eq_false, Bool.not_eq_true', Bool.not_eq_false', beq_iff_eq, bne_iff_ne, bne_eq_false_iff_eq, beq_eq_false_iff_ne, ne_eq, Bool.and_eq_true, Bool.or_eq_true, Bool.or_eq_false_iff] at hif); (try (have h9 : _ = true := hif; simp only [h9])); (try (have h9 : _ = false := hif; simp only [h9])); (try simp (maxSteps := 9999999) (disch := omega) only [go_sem, h1]); (try (refine And.intro ?_ ?_; (focus (first | omega | (simp only [go_sem]; done) | (simp; done) | (simp; omega) | assumption)))); (try (exfalso; omega; done))))))
    all_goals (refine TopPost.of (by first | exact .inl rfl | exact .inr rfl) (by (try simp (maxSteps := 9999999) (disch := omega) only [go_sem]); rfl) ?_; (try simp (maxSteps := 9999999) (disch := omega) only [go_sem]); (try (first | trivial | decide | (simp; done))))
  have h1 : (200 < (l.length : Int)) = False := eq_false (by omega)
  have sg := Seg.rows (off := off) (l := l) (by omega)
  refine top_call c4_ok Try.func4 rfl Try.ntmps4 res4_ok [ .agg [I f, I t, I k, .val (.slice ad l.length cap)], I at1, .val (.int .u32 (Y.toNat : Int))] (by simp) (by (repeat' (first | exact VRs_nil' _ | exact VR_val' _ _ | (refine VRs_cons' ?_ ?_) | (refine VR_agg' (by first | rfl | assumption) ?_; first | assumption | simp [Value.oneCell', FrS.rep])))) ?_; try simp (maxSteps := 9999999) (disch := omega) only [go_sem]
  refine AWpA.thawA 0 3 (fun n : Int => [.val (.int .u8 n)]) hz (fun _ => rfl) rfl rfl ?_
  generalize rowsC off (fun n : Int => [.val (.int .u8 n)]) l = P at sg
  simp only [List.set_cons_zero, List.set_cons_succ]
  have c1 := rfcheck_any sg f t k
  by_cases hk : chkF f t k l.length = 0
  case neg =>
    have g1 : (chkF f t k l.length != 0) = true := by rw [bne_iff_ne]; exact hk
    generalize chkF f t k l.length = c at *
    (try simp (maxSteps := 9999999) (disch := omega) only [go_sem])
    (repeat' (first | refine AWpA.seq ?_ | refine AWpA.block ?_ | (with_reducible refine CondP.tt ?_) | (with_reducible refine CondP.ff ?_) | refine AWpA.condv (by simp (maxSteps := 9999999) (disch := omega) only [go_sem, h1, g1, sg.ren]; rfl) ?_ | ((first | (apply AWpA.region; (focus (simp (maxSteps := 9999999) (disch := omega) only [go_sem, h1, g1, sg.ren]; rfl))) | (apply AWpA.draw [] follows; (focus (simp (maxSteps := 9999999) (disch := omega) only [go_sem, h1, g1, sg.ren]; rfl)); (focus (simp (maxSteps := 9999999) (disch := omega) only [go_sem, h1, g1, sg.ren]; first | done | trivial)); (focus (simp (maxSteps := 9999999) (disch := omega) only [go_sem, h1, g1, sg.ren]; rfl))) | (apply TailK.go; (focus (simp (maxSteps := 9999999) (disch := omega) only [go_sem, h1, g1, sg.ren]; rfl))) | refine AWpA.skip ?_ | refine AWpA.exit ?_ | refine AWpA.ret ?_ | (with_reducible refine ARoundsA.succ ?_) | ((first | refine Runs.kt (by assumption) (fun h9 => ?_) | refine Runs.kf (by assumption) (fun h9 => ?_) | refine Runs.nt (by assumption) (fun h9 => ?_) | refine Runs.nf (by assumption) (fun h9 => ?_) | refine CondP.ht (by assumption) (fun h9 => ?_) | refine CondP.hf (by assumption) (fun h9 => ?_) | refine CondP.nt (by assumption) (fun h9 => ?_) | refine CondP.nf (by assumption) (fun h9 => ?_)); (try simp only [h9]); clear h9) | ((first | (with_reducible apply CallG.plain1 [0] (c1)) | (with_reducible apply CallG.draw1 [0] (c1))); (focus ((try refine And.intro (leAs_of_eq rfl) ?_); (try refine And.intro (leOL_of_eq rfl) ?_); simp (maxSteps := 9999999) (disch := omega) only [go_sem, h1, g1, sg.ren]; first | done | (repeat' (first | rfl | (refine And.intro ?_ ?_))))); (focus (simp (maxSteps := 9999999) (disch := omega) only [go_sem, h1, g1, sg.ren]; rfl))) | ((first | (with_reducible apply CallG.plain1 [] (speaks03_any)) | (with_reducible apply CallG.draw1 [] (speaks03_any))); (focus ((try refine And.intro (leAs_of_eq rfl) ?_); (try refine And.intro (leOL_of_eq rfl) ?_); simp (maxSteps := 9999999) (disch := omega) only [go_sem, h1, g1, sg.ren]; first | done | (repeat' (first | rfl | (refine And.intro ?_ ?_))))); (focus (simp (maxSteps := 9999999) (disch := omega) only [go_sem, h1, g1, sg.ren]; rfl)))); (try simp (maxSteps := 9999999) (disch := omega) only [go_sem, h1, g1, sg.ren]); (try (refine And.intro ?_ ?_; (focus (first | omega | (simp only [go_sem]; done) | (simp; done) | (simp; omega) | assumption))))) | ((first | refine CondP.split (fun hif => ?_) (fun hif => ?_) | refine Runs.part (fun hif => ?_) (fun hif => ?_)) <;> ((try simp only [hif]); (try simp only [decide_eq_true_eq, decide_eq_false_iff_not, Bool.not_eq_true, Bool.not_eq_false, Bool.not_eq_true', Bool.not_eq_false', beq_iff_eq, bne_iff_ne, bne_eq_false_iff_eq, beq_eq_false_iff_ne, ne_eq, Bool.and_eq_true, Bool.or_eq_true, Bool.or_eq_false_iff] at hif); (try (have h9 : _ = true := hif; simp only [h9])); (try (have h9 : _ = false := hif; simp only [h9])); (try simp (maxSteps := 9999999) (disch := omega) only [go_sem, h1, g1, sg.ren]); (try (refine And.intro ?_ ?_; (focus (first | omega | (simp only [go_sem]; done) | (simp; done) | (simp; omega) | assumption)))); (try (exfalso; omega; done))))))
    all_goals (refine TopPost.of (by first | exact .inl rfl | exact .inr rfl) (by (try simp (maxSteps := 9999999) (disch := omega) only [go_sem]); rfl) ?_; (try simp (maxSteps := 9999999) (disch := omega) only [go_sem]); (try (first | trivial | decide | (simp; done))))
  rw [hk] at c1
  have c3 := of_any sg f t k
  have c7 := fenc_ok false sg hb f t k hk
  obtain ⟨e1, e2, e3, e4, e5⟩ := fd_enc hk
  have hfl : (frB f t k l).length = l.length + 9 := by unfold frB; rw [mkd_length, List.length_append, frH_len]; omega
  have hfb : ∀ x ∈ frB f t k l, 0 ≤ x ∧ x ≤ 255 := mkd_bytes (frH_bytes hk hb)
  have c8 := (fdec_any true (Seg.all (frB f t k l) (by omega)) hfb).2 e1
  rw [e2, e3, e4, e5, hfl, Nat.add_sub_cancel] at c8
  have c10 := is_any (Seg.all l (by omega)) sg hb hb f t k f t k
  rw [sameB_self] at c10
  have hfh := frH_bytes hk hb
  obtain ⟨f0, hf0, hf1⟩ := low16 at1
  have hgn : ((l.length : Int) + 9 != 9 + (l.length : Int)) = false := by rw [bne_eq_false_iff_eq]; omega
  obtain ⟨fr, hg2, hf2⟩ : ∃ fr : Nat, ((f0 : Int).tmod (8 * ((l.length : Int) + 9))) = (fr : Int) ∧ fr < 8 * (l.length + 9) := by
    refine ⟨f0 % (8 * (l.length + 9)), ?_, Nat.mod_lt _ (by omega)⟩
    rw [Int.tmod_eq_emod_of_nonneg (by omega), show (8 * ((l.length : Int) + 9)) = ((8 * (l.length + 9) : Nat) : Int) by omega]
    exact (Int.natCast_emod f0 _).symm
  have hle := sg.le
  (try simp (maxSteps := 9999999) (disch := omega) only [go_sem])
  (repeat' (first | refine AWpA.seq ?_ | refine AWpA.block ?_ | (with_reducible refine CondP.tt ?_) | (with_reducible refine CondP.ff ?_) | refine AWpA.condv (by simp (maxSteps := 9999999) (disch := omega) only [go_sem, h1, sg.ren, tb_ren, tb_lit, hf0, hfl, hgn, hg2]; rfl) ?_ | ((first | (apply AWpA.region; (focus (simp (maxSteps := 9999999) (disch := omega) only [go_sem, h1, sg.ren, tb_ren, tb_lit, hf0, hfl, hgn, hg2]; rfl))) | (apply AWpA.draw [] follows; (focus (simp (maxSteps := 9999999) (disch := omega) only [go_sem, h1, sg.ren, tb_ren, tb_lit, hf0, hfl, hgn, hg2]; rfl)); (focus (simp (maxSteps := 9999999) (disch := omega) only [go_sem, h1, sg.ren, tb_ren, tb_lit, hf0, hfl, hgn, hg2]; first | done | trivial)); (focus (simp (maxSteps := 9999999) (disch := omega) only [go_sem, h1, sg.ren, tb_ren, tb_lit, hf0, hfl, hgn, hg2]; rfl))) | (apply TailK.go; (focus (simp (maxSteps := 9999999) (disch := omega) only [go_sem, h1, sg.ren, tb_ren, tb_lit, hf0, hfl, hgn, hg2]; rfl))) | refine AWpA.skip ?_ | refine AWpA.exit ?_ | refine AWpA.ret ?_ | (with_reducible refine ARoundsA.succ ?_) | ((first | refine Runs.kt (by assumption) (fun h9 => ?_) | refine Runs.kf (by assumption) (fun h9 => ?_) | refine Runs.nt (by assumption) (fun h9 => ?_) | refine Runs.nf (by assumption) (fun h9 => ?_) | refine CondP.ht (by assumption) (fun h9 => ?_) | refine CondP.hf (by assumption) (fun h9 => ?_) | refine CondP.nt (by assumption) (fun h9 => ?_) | refine CondP.nf (by assumption) (fun h9 => ?_)); (try simp only [h9]); clear h9) | ((first | (with_reducible apply CallG.plain1 [0] (c1)) | (with_reducible apply CallG.draw1 [0] (c1))); (focus ((try refine And.intro (leAs_of_eq rfl) ?_); (try refine And.intro (leOL_of_eq rfl) ?_); simp (maxSteps := 9999999) (disch := omega) only [go_sem, h1, sg.ren, tb_ren, tb_lit, hf0, hfl, hgn, hg2]; first | done | (repeat' (first | rfl | (refine And.intro ?_ ?_))))); (focus (simp (maxSteps := 9999999) (disch := omega) only [go_sem, h1, sg.ren, tb_ren, tb_lit, hf0, hfl, hgn, hg2]; rfl))) | ((first | (with_reducible apply CallG.plain1 [0] (c3)) | (with_reducible apply CallG.draw1 [0] (c3))); (focus ((try refine And.intro (leAs_of_eq rfl) ?_); (try refine And.intro (leOL_of_eq rfl) ?_); simp (maxSteps := 9999999) (disch := omega) only [go_sem, h1, sg.ren, tb_ren, tb_lit, hf0, hfl, hgn, hg2]; first | done | (repeat' (first | rfl | (refine And.intro ?_ ?_))))); (focus (simp (maxSteps := 9999999) (disch := omega) only [go_sem, h1, sg.ren, tb_ren, tb_lit, hf0, hfl, hgn, hg2]; rfl))) | ((first | (with_reducible apply CallG.plain1 [241, 0] (c7)) | (with_reducible apply CallG.draw1 [241, 0] (c7))); (focus ((try refine And.intro (leAs_of_eq rfl) ?_); (try refine And.intro (leOL_of_eq rfl) ?_); simp (maxSteps := 9999999) (disch := omega) only [go_sem, h1, sg.ren, tb_ren, tb_lit, hf0, hfl, hgn, hg2]; first | done | (repeat' (first | rfl | (refine And.intro ?_ ?_))))); (focus (simp (maxSteps := 9999999) (disch := omega) only [go_sem, h1, sg.ren, tb_ren, tb_lit, hf0, hfl, hgn, hg2]; rfl))) | ((first | (with_reducible apply CallG.plain1 [] (speaks03_any)) | (with_reducible apply CallG.draw1 [] (speaks03_any))); (focus ((try refine And.intro (leAs_of_eq rfl) ?_); (try refine And.intro (leOL_of_eq rfl) ?_); simp (maxSteps := 9999999) (disch := omega) only [go_sem, h1, sg.ren, tb_ren, tb_lit, hf0, hfl, hgn, hg2]; first | done | (repeat' (first | rfl | (refine And.intro ?_ ?_))))); (focus (simp (maxSteps := 9999999) (disch := omega) only [go_sem, h1, sg.ren, tb_ren, tb_lit, hf0, hfl, hgn, hg2]; rfl)))); (try simp (maxSteps := 9999999) (disch := omega) only [go_sem, h1, sg.ren, tb_ren, tb_lit, hf0, hfl, hgn, hg2]); (try (refine And.intro ?_ ?_; (focus (first | omega | (simp only [go_sem]; done) | (simp; done) | (simp; omega) | assumption))))) | ((first | refine CondP.split (fun hif => ?_) (fun hif => ?_) | refine Runs.part (fun hif => ?_) (fun hif => ?_)) <;> ((try simp only [hif]); (try simp only [decide_eq_true_eq, decide_eq_false_iff_not, Bool.not_eq_true, Bool.not_eq_false, Bool.not_eq_true', Bool.not_eq_false', beq_iff_eq, bne_iff_ne, bne_eq_false_iff_eq, beq_eq_false_iff_ne, ne_eq, Bool.and_eq_true, Bool.or_eq_true, Bool.or_eq_false_iff] at hif); (try (have h9 : _ = true := hif; simp only [h9])); (try (have h9 : _ = false := hif; simp only [h9])); (try simp (maxSteps := 9999999) (disch := omega) only [go_sem, h1, sg.ren, tb_ren, tb_lit, hf0, hfl, hgn, hg2]); (try (refine And.intro ?_ ?_; (focus (first | omega | (simp only [go_sem]; done) | (simp; done) | (simp; omega) | assumption)))); (try (exfalso; omega; done))))))
  (apply AWpA.loopL (fun i : Nat => [(2, U32 Y.toNat), (3, .ptr 1 0), (7, .ptr 2 0), (8, .sl 3 0 (l.length + 9) 1 none), (10, I fr), (11, I (ct Y i)), (12, I i)]) (fun i => [.cells true P, .cells false [I f, I t, I k, .sl 0 off l.length 1 none], .cells false (tb true), .cells false (bA (tn (frB f t k l) fr Y i))]) (fun i => 32 - i) (fun i => i ≤ 32 ∧ fr + i ≤ 8 * (l.length + 9)) (0) [0, 1, 241, 289]; rotate_left; (focus (simp (maxSteps := 9999999) (disch := omega) only [go_sem, sg.ren, tb_ren, tn, ct]; (try (repeat' (first | done | trivial | rfl | exact leAs_rfl _ | decide | (refine And.intro ?_ ?_) | (simp; done) | omega | (simp; decide)))))); rotate_right)
  · exact ⟨by omega, by omega⟩
  rintro i ⟨hi, hfi⟩
  (try simp only at hi hfi)
  have hcl := ct_le Y i
  have hTl := tn_len (frB f t k l) fr Y i
  rw [hfl] at hTl
  have hTb := tn_bytes hfb fr Y i
  by_cases hin : i < 32 ∧ fr + i < 8 * (l.length + 9)
  · obtain ⟨hin, hfn⟩ := hin
    have g1 : ((i : Int) < 32) = True := eq_true (by omega)
    have g2 : ((fr : Int) + (i : Int) < 8 * ((l.length : Int) + 9)) = True := eq_true (by omega)
    have g3 := shr_min Y i hin
    have g4 := and1 (Y >>> i)
    rw [bit_at Y i hin] at g4
    cases hbt : Y.getLsbD i
    · rw [hbt] at g4
      simp only [Bool.false_eq_true, if_false] at g4
      have e1 : tn (frB f t k l) fr Y (i + 1) = tn (frB f t k l) fr Y i := by simp [tn, hbt]
      have e2 : ct Y (i + 1) = ct Y i := by simp [ct, hbt]
      generalize tn (frB f t k l) fr Y i = T at hTl hTb e1
      generalize ct Y i = n at e2 hcl
      (try simp (maxSteps := 9999999) (disch := omega) only [go_sem])
      (repeat' (first | refine AWpA.seq ?_ | refine AWpA.block ?_ | (with_reducible refine CondP.tt ?_) | (with_reducible refine CondP.ff ?_) | refine AWpA.condv (by simp (maxSteps := 9999999) (disch := omega) only [go_sem, g1, g2, g3, g4, sg.ren, tb_ren, hfl, hTl]; rfl) ?_ | ((first | (apply AWpA.region; (focus (simp (maxSteps := 9999999) (disch := omega) only [go_sem, g1, g2, g3, g4, sg.ren, tb_ren, hfl, hTl]; rfl))) | (apply AWpA.draw [] follows; (focus (simp (maxSteps := 9999999) (disch := omega) only [go_sem, g1, g2, g3, g4, sg.ren, tb_ren, hfl, hTl]; rfl)); (focus (simp (maxSteps := 9999999) (disch := omega) only [go_sem, g1, g2, g3, g4, sg.ren, tb_ren, hfl, hTl]; first | done | trivial)); (focus (simp (maxSteps := 9999999) (disch := omega) only [go_sem, g1, g2, g3, g4, sg.ren, tb_ren, hfl, hTl]; rfl))) | (apply TailK.go; (focus (simp (maxSteps := 9999999) (disch := omega) only [go_sem, g1, g2, g3, g4, sg.ren, tb_ren, hfl, hTl]; rfl))) | refine AWpA.skip ?_ | refine AWpA.exit ?_ | refine AWpA.ret ?_ | (with_reducible refine ARoundsA.succ ?_) | ((first | refine Runs.kt (by assumption) (fun h9 => ?_) | refine Runs.kf (by assumption) (fun h9 => ?_) | refine Runs.nt (by assumption) (fun h9 => ?_) | refine Runs.nf (by assumption) (fun h9 => ?_) | refine CondP.ht (by assumption) (fun h9 => ?_) | refine CondP.hf (by assumption) (fun h9 => ?_) | refine CondP.nt (by assumption) (fun h9 => ?_) | refine CondP.nf (by assumption) (fun h9 => ?_)); (try simp only [h9]); clear h9)); (try simp (maxSteps := 9999999) (disch := omega) only [go_sem, g1, g2, g3, g4, sg.ren, tb_ren, hfl, hTl]); (try (refine And.intro ?_ ?_; (focus (first | omega | (simp only [go_sem]; done) | (simp; done) | (simp; omega) | assumption))))) | ((first | refine CondP.split (fun hif => ?_) (fun hif => ?_) | refine Runs.part (fun hif => ?_) (fun hif => ?_)) <;> ((try simp only [hif]); (try simp only [decide_eq_true_eq, decide_eq_false_iff_not, Bool.not_eq_true, Bool.not_eq_false, Bool.not_eq_true', Bool.not_eq_false', beq_iff_eq, bne_iff_ne, bne_eq_false_iff_eq, beq_eq_false_iff_ne, ne_eq, Bool.and_eq_true, Bool.or_eq_true, Bool.or_eq_false_iff] at hif); (try (have h9 : _ = true := hif; simp only [h9])); (try (have h9 : _ = false := hif; simp only [h9])); (try simp (maxSteps := 9999999) (disch := omega) only [go_sem, g1, g2, g3, g4, sg.ren, tb_ren, hfl, hTl]); (try (refine And.intro ?_ ?_; (focus (first | omega | (simp only [go_sem]; done) | (simp; done) | (simp; omega) | assumption)))); (try (exfalso; omega; done))))))
      (apply Back.to (i + 1) [0, 1, 2, 3]; (focus ((try simp (maxSteps := 9999999) (disch := omega) only [go_sem, e1, e2, sg.ren, tb_ren]); first | done | omega)); rotate_left; (focus (simp (maxSteps := 9999999) (disch := omega) only [go_sem, e1, e2, sg.ren, tb_ren]; (try (repeat' (first | done | trivial | rfl | exact leAs_rfl _ | decide | (refine And.intro ?_ ?_) | (simp; done) | omega | (simp; decide)))))))
      exact ⟨by omega, by omega⟩
    · rw [hbt] at g4
      simp only [if_true] at g4
      have hk : (fr + i) / 8 < l.length + 9 := by omega
      have hj : (fr + i) % 8 < 8 := by omega
      have g5 : ((fr : Int) + (i : Int)).tdiv 8 = (((fr + i) / 8 : Nat) : Int) := by rw [Int.tdiv_eq_ediv_of_nonneg (by omega)]; omega
      have g6 : ((fr : Int) + (i : Int)).tmod 8 = (((fr + i) % 8 : Nat) : Int) := by rw [Int.tmod_eq_emod_of_nonneg (by omega)]; omega
      have e1 : tn (frB f t k l) fr Y (i + 1) = (tn (frB f t k l) fr Y i).set ((fr + i) / 8) (tb1 ((tn (frB f t k l) fr Y i).getD ((fr + i) / 8) 0) ((fr + i) % 8)) := by simp [tn, hbt]
      have e2 : ct Y (i + 1) = ct Y i + 1 := by simp [ct, hbt]
      generalize hT : tn (frB f t k l) fr Y i = T at hTl hTb e1
      generalize ct Y i = n at e2 hcl
      generalize (fr + i) / 8 = p at hk g5 e1
      generalize (fr + i) % 8 = j at hj g6 e1
      have g7 := bA_getD2 (L := T) (a := p) (by omega)
      have g8 := bA_put2 T p (tb1 (T.getD p 0) j) (by omega)
      generalize hcc : T.getD p 0 = c at g7 g8 e1
      have g9 : bits .xor .u8 c (IntKind.u8.wrap (1 * 2 ^ min j 8)) = tb1 c j := by rw [shl1 hj]; rfl
      (try simp (maxSteps := 9999999) (disch := omega) only [go_sem])
      (repeat' (first | refine AWpA.seq ?_ | refine AWpA.block ?_ | (with_reducible refine CondP.tt ?_) | (with_reducible refine CondP.ff ?_) | refine AWpA.condv (by simp (maxSteps := 9999999) (disch := omega) only [go_sem, g1, g2, g3, g4, g5, g6, g7, sg.ren, tb_ren, hfl, hTl]; rfl) ?_ | ((first | (apply AWpA.region; (focus (simp (maxSteps := 9999999) (disch := omega) only [go_sem, g1, g2, g3, g4, g5, g6, g7, sg.ren, tb_ren, hfl, hTl]; rfl))) | (apply AWpA.draw [] follows; (focus (simp (maxSteps := 9999999) (disch := omega) only [go_sem, g1, g2, g3, g4, g5, g6, g7, sg.ren, tb_ren, hfl, hTl]; rfl)); (focus (simp (maxSteps := 9999999) (disch := omega) only [go_sem, g1, g2, g3, g4, g5, g6, g7, sg.ren, tb_ren, hfl, hTl]; first | done | trivial)); (focus (simp (maxSteps := 9999999) (disch := omega) only [go_sem, g1, g2, g3, g4, g5, g6, g7, sg.ren, tb_ren, hfl, hTl]; rfl))) | (apply TailK.go; (focus (simp (maxSteps := 9999999) (disch := omega) only [go_sem, g1, g2, g3, g4, g5, g6, g7, sg.ren, tb_ren, hfl, hTl]; rfl))) | refine AWpA.skip ?_ | refine AWpA.exit ?_ | refine AWpA.ret ?_ | (with_reducible refine ARoundsA.succ ?_) | ((first | refine Runs.kt (by assumption) (fun h9 => ?_) | refine Runs.kf (by assumption) (fun h9 => ?_) | refine Runs.nt (by assumption) (fun h9 => ?_) | refine Runs.nf (by assumption) (fun h9 => ?_) | refine CondP.ht (by assumption) (fun h9 => ?_) | refine CondP.hf (by assumption) (fun h9 => ?_) | refine CondP.nt (by assumption) (fun h9 => ?_) | refine CondP.nf (by assumption) (fun h9 => ?_)); (try simp only [h9]); clear h9)); (try simp (maxSteps := 9999999) (disch := omega) only [go_sem, g1, g2, g3, g4, g5, g6, g7, sg.ren, tb_ren, hfl, hTl]); (try (refine And.intro ?_ ?_; (focus (first | omega | (simp only [go_sem]; done) | (simp; done) | (simp; omega) | assumption))))) | ((first | refine CondP.split (fun hif => ?_) (fun hif => ?_) | refine Runs.part (fun hif => ?_) (fun hif => ?_)) <;> ((try simp only [hif]); (try simp only [decide_eq_true_eq, decide_eq_false_iff_not, Bool.not_eq_true, Bool.not_eq_false, Bool.not_eq_true', Bool.not_eq_false', beq_iff_eq, bne_iff_ne, bne_eq_false_iff_eq, beq_eq_false_iff_ne, ne_eq, Bool.and_eq_true, Bool.or_eq_true, Bool.or_eq_false_iff] at hif); (try (have h9 : _ = true := hif; simp only [h9])); (try (have h9 : _ = false := hif; simp only [h9])); (try simp (maxSteps := 9999999) (disch := omega) only [go_sem, g1, g2, g3, g4, g5, g6, g7, sg.ren, tb_ren, hfl, hTl]); (try (refine And.intro ?_ ?_; (focus (first | omega | (simp only [go_sem]; done) | (simp; done) | (simp; omega) | assumption)))); (try (exfalso; omega; done))))))
      (apply Back.to (i + 1) [0, 1, 2, 3]; (focus ((try simp (maxSteps := 9999999) (disch := omega) only [go_sem, g9, g8, e1, e2, sg.ren, tb_ren]); first | done | omega)); rotate_left; (focus (simp (maxSteps := 9999999) (disch := omega) only [go_sem, g9, g8, e1, e2, sg.ren, tb_ren]; (try (repeat' (first | done | trivial | rfl | exact leAs_rfl _ | decide | (refine And.intro ?_ ?_) | (simp; done) | omega | (simp; decide)))))))
      exact ⟨by omega, by omega⟩
  · have g1 : (i : Int) < 32 → ((fr : Int) + (i : Int) < 8 * ((l.length : Int) + 9)) = False := fun h => eq_false (by omega)
    have hold : ct Y i ≠ 0 → mkdB (tn (frB f t k l) fr Y i) = false := turned_told hfh fr Y i hi (by rw [show mkd (frH f t k l.length ++ l) = frB f t k l from rfl, hfl]; omega)
    have hsame := tn_same (frB f t k l) fr Y i
    have sT := Seg.all (tn (frB f t k l) fr Y i) (by omega)
    have c9 := (fdec_any true sT hTb).1
    rw [hTl] at c9
    by_cases hn : ct Y i = 0
    · have g4 : (((ct Y i : Nat) : Int) == 0) = true := by rw [hn]; rfl
      rw [hsame hn]
      clear hold c9
      generalize frB f t k l = B at *
      generalize ct Y i = n at *
      by_cases h32 : i < 32
      · have g2 : ((i : Int) < 32) = True := eq_true (by omega)
        have g3 := g1 (by omega)
        clear g1
        (try simp (maxSteps := 9999999) (disch := omega) only [go_sem])
        (repeat' (first | refine AWpA.seq ?_ | refine AWpA.block ?_ | (with_reducible refine CondP.tt ?_) | (with_reducible refine CondP.ff ?_) | refine AWpA.condv (by simp (maxSteps := 9999999) (disch := omega) only [go_sem, g2, g3, g4, sg.ren, tb_ren]; rfl) ?_ | ((first | (apply AWpA.region; (focus (simp (maxSteps := 9999999) (disch := omega) only [go_sem, g2, g3, g4, sg.ren, tb_ren]; rfl))) | (apply AWpA.draw [] follows; (focus (simp (maxSteps := 9999999) (disch := omega) only [go_sem, g2, g3, g4, sg.ren, tb_ren]; rfl)); (focus (simp (maxSteps := 9999999) (disch := omega) only [go_sem, g2, g3, g4, sg.ren, tb_ren]; first | done | trivial)); (focus (simp (maxSteps := 9999999) (disch := omega) only [go_sem, g2, g3, g4, sg.ren, tb_ren]; rfl))) | (apply TailK.go; (focus (simp (maxSteps := 9999999) (disch := omega) only [go_sem, g2, g3, g4, sg.ren, tb_ren]; rfl))) | refine AWpA.skip ?_ | refine AWpA.exit ?_ | refine AWpA.ret ?_ | (with_reducible refine ARoundsA.succ ?_) | ((first | refine Runs.kt (by assumption) (fun h9 => ?_) | refine Runs.kf (by assumption) (fun h9 => ?_) | refine Runs.nt (by assumption) (fun h9 => ?_) | refine Runs.nf (by assumption) (fun h9 => ?_) | refine CondP.ht (by assumption) (fun h9 => ?_) | refine CondP.hf (by assumption) (fun h9 => ?_) | refine CondP.nt (by assumption) (fun h9 => ?_) | refine CondP.nf (by assumption) (fun h9 => ?_)); (try simp only [h9]); clear h9) | ((first | (with_reducible apply CallG.plain1 [2, 3] (c8)) | (with_reducible apply CallG.draw1 [2, 3] (c8))); (focus ((try refine And.intro (leAs_of_eq rfl) ?_); (try refine And.intro (leOL_of_eq rfl) ?_); simp (maxSteps := 9999999) (disch := omega) only [go_sem, g2, g3, g4, sg.ren, tb_ren]; first | done | (repeat' (first | rfl | (refine And.intro ?_ ?_))))); (focus (simp (maxSteps := 9999999) (disch := omega) only [go_sem, g2, g3, g4, sg.ren, tb_ren]; rfl))) | ((first | (with_reducible apply CallG.plain1 [196, 0] (c10)) | (with_reducible apply CallG.draw1 [196, 0] (c10))); (focus ((try refine And.intro (leAs_of_eq rfl) ?_); (try refine And.intro (leOL_of_eq rfl) ?_); simp (maxSteps := 9999999) (disch := omega) only [go_sem, g2, g3, g4, sg.ren, tb_ren]; first | done | (repeat' (first | rfl | (refine And.intro ?_ ?_))))); (focus (simp (maxSteps := 9999999) (disch := omega) only [go_sem, g2, g3, g4, sg.ren, tb_ren]; rfl)))); (try simp (maxSteps := 9999999) (disch := omega) only [go_sem, g2, g3, g4, sg.ren, tb_ren]); (try (refine And.intro ?_ ?_; (focus (first | omega | (simp only [go_sem]; done) | (simp; done) | (simp; omega) | assumption))))) | ((first | refine CondP.split (fun hif => ?_) (fun hif => ?_) | refine Runs.part (fun hif => ?_) (fun hif => ?_)) <;> ((try simp only [hif]); (try simp only [decide_eq_true_eq, decide_eq_false_iff_not, Bool.not_eq_true, Bool.not_eq_false, Bool.not_eq_true', Bool.not_eq_false', beq_iff_eq, bne_iff_ne, bne_eq_false_iff_eq, beq_eq_false_iff_ne, ne_eq, Bool.and_eq_true, Bool.or_eq_true, Bool.or_eq_false_iff] at hif); (try (have h9 : _ = true := hif; simp only [h9])); (try (have h9 : _ = false := hif; simp only [h9])); (try simp (maxSteps := 9999999) (disch := omega) only [go_sem, g2, g3, g4, sg.ren, tb_ren]); (try (refine And.intro ?_ ?_; (focus (first | omega | (simp only [go_sem]; done) | (simp; done) | (simp; omega) | assumption)))); (try (exfalso; omega; done))))))
        (refine TopPost.of (by first | exact .inl rfl | exact .inr rfl) (by (try simp (maxSteps := 9999999) (disch := omega) only [go_sem]); rfl) ?_; (try simp (maxSteps := 9999999) (disch := omega) only [go_sem]); (try (first | trivial | decide | (simp; done))))
      · have g2 : ((i : Int) < 32) = False := eq_false (by omega)
        clear g1
        (try simp (maxSteps := 9999999) (disch := omega) only [go_sem])
        (repeat' (first | refine AWpA.seq ?_ | refine AWpA.block ?_ | (with_reducible refine CondP.tt ?_) | (with_reducible refine CondP.ff ?_) | refine AWpA.condv (by simp (maxSteps := 9999999) (disch := omega) only [go_sem, g2, g4, sg.ren, tb_ren]; rfl) ?_ | ((first | (apply AWpA.region; (focus (simp (maxSteps := 9999999) (disch := omega) only [go_sem, g2, g4, sg.ren, tb_ren]; rfl))) | (apply AWpA.draw [] follows; (focus (simp (maxSteps := 9999999) (disch := omega) only [go_sem, g2, g4, sg.ren, tb_ren]; rfl)); (focus (simp (maxSteps := 9999999) (disch := omega) only [go_sem, g2, g4, sg.ren, tb_ren]; first | done | trivial)); (focus (simp (maxSteps := 9999999) (disch := omega) only [go_sem, g2, g4, sg.ren, tb_ren]; rfl))) | (apply TailK.go; (focus (simp (maxSteps := 9999999) (disch := omega) only [go_sem, g2, g4, sg.ren, tb_ren]; rfl))) | refine AWpA.skip ?_ | refine AWpA.exit ?_ | refine AWpA.ret ?_ | (with_reducible refine ARoundsA.succ ?_) | ((first | refine Runs.kt (by assumption) (fun h9 => ?_) | refine Runs.kf (by assumption) (fun h9 => ?_) | refine Runs.nt (by assumption) (fun h9 => ?_) | refine Runs.nf (by assumption) (fun h9 => ?_) | refine CondP.ht (by assumption) (fun h9 => ?_) | refine CondP.hf (by assumption) (fun h9 => ?_) | refine CondP.nt (by assumption) (fun h9 => ?_) | refine CondP.nf (by assumption) (fun h9 => ?_)); (try simp only [h9]); clear h9) | ((first | (with_reducible apply CallG.plain1 [2, 3] (c8)) | (with_reducible apply CallG.draw1 [2, 3] (c8))); (focus ((try refine And.intro (leAs_of_eq rfl) ?_); (try refine And.intro (leOL_of_eq rfl) ?_); simp (maxSteps := 9999999) (disch := omega) only [go_sem, g2, g4, sg.ren, tb_ren]; first | done | (repeat' (first | rfl | (refine And.intro ?_ ?_))))); (focus (simp (maxSteps := 9999999) (disch := omega) only [go_sem, g2, g4, sg.ren, tb_ren]; rfl))) | ((first | (with_reducible apply CallG.plain1 [196, 0] (c10)) | (with_reducible apply CallG.draw1 [196, 0] (c10))); (focus ((try refine And.intro (leAs_of_eq rfl) ?_); (try refine And.intro (leOL_of_eq rfl) ?_); simp (maxSteps := 9999999) (disch := omega) only [go_sem, g2, g4, sg.ren, tb_ren]; first | done | (repeat' (first | rfl | (refine And.intro ?_ ?_))))); (focus (simp (maxSteps := 9999999) (disch := omega) only [go_sem, g2, g4, sg.ren, tb_ren]; rfl)))); (try simp (maxSteps := 9999999) (disch := omega) only [go_sem, g2, g4, sg.ren, tb_ren]); (try (refine And.intro ?_ ?_; (focus (first | omega | (simp only [go_sem]; done) | (simp; done) | (simp; omega) | assumption))))) | ((first | refine CondP.split (fun hif => ?_) (fun hif => ?_) | refine Runs.part (fun hif => ?_) (fun hif => ?_)) <;> ((try simp only [hif]); (try simp only [decide_eq_true_eq, decide_eq_false_iff_not, Bool.not_eq_true, Bool.not_eq_false, Bool.not_eq_true', Bool.not_eq_false', beq_iff_eq, bne_iff_ne, bne_eq_false_iff_eq, beq_eq_false_iff_ne, ne_eq, Bool.and_eq_true, Bool.or_eq_true, Bool.or_eq_false_iff] at hif); (try (have h9 : _ = true := hif; simp only [h9])); (try (have h9 : _ = false := hif; simp only [h9])); (try simp (maxSteps := 9999999) (disch := omega) only [go_sem, g2, g4, sg.ren, tb_ren]); (try (refine And.intro ?_ ?_; (focus (first | omega | (simp only [go_sem]; done) | (simp; done) | (simp; omega) | assumption)))); (try (exfalso; omega; done))))))
        (refine TopPost.of (by first | exact .inl rfl | exact .inr rfl) (by (try simp (maxSteps := 9999999) (disch := omega) only [go_sem]); rfl) ?_; (try simp (maxSteps := 9999999) (disch := omega) only [go_sem]); (try (first | trivial | decide | (simp; done))))
    · have g4 : (((ct Y i : Nat) : Int) == 0) = false := by rw [beq_eq_false_iff_ne]; omega
      have h5 := fdE_sum (L := tn (frB f t k l) fr Y i) (by omega) (hold hn)
      have c9 := c9 (by rw [h5]; decide)
      rw [h5] at c9
      simp only [Bool.true_or] at c9
      clear hold hsame h5
      generalize tn (frB f t k l) fr Y i = T at *
      generalize ct Y i = n at *
      by_cases h32 : i < 32
      · have g2 : ((i : Int) < 32) = True := eq_true (by omega)
        have g3 := g1 (by omega)
        clear g1
        (try simp (maxSteps := 9999999) (disch := omega) only [go_sem])
        (repeat' (first | refine AWpA.seq ?_ | refine AWpA.block ?_ | (with_reducible refine CondP.tt ?_) | (with_reducible refine CondP.ff ?_) | refine AWpA.condv (by simp (maxSteps := 9999999) (disch := omega) only [go_sem, g2, g3, g4, sg.ren, tb_ren]; rfl) ?_ | ((first | (apply AWpA.region; (focus (simp (maxSteps := 9999999) (disch := omega) only [go_sem, g2, g3, g4, sg.ren, tb_ren]; rfl))) | (apply AWpA.draw [] follows; (focus (simp (maxSteps := 9999999) (disch := omega) only [go_sem, g2, g3, g4, sg.ren, tb_ren]; rfl)); (focus (simp (maxSteps := 9999999) (disch := omega) only [go_sem, g2, g3, g4, sg.ren, tb_ren]; first | done | trivial)); (focus (simp (maxSteps := 9999999) (disch := omega) only [go_sem, g2, g3, g4, sg.ren, tb_ren]; rfl))) | (apply TailK.go; (focus (simp (maxSteps := 9999999) (disch := omega) only [go_sem, g2, g3, g4, sg.ren, tb_ren]; rfl))) | refine AWpA.skip ?_ | refine AWpA.exit ?_ | refine AWpA.ret ?_ | (with_reducible refine ARoundsA.succ ?_) | ((first | refine Runs.kt (by assumption) (fun h9 => ?_) | refine Runs.kf (by assumption) (fun h9 => ?_) | refine Runs.nt (by assumption) (fun h9 => ?_) | refine Runs.nf (by assumption) (fun h9 => ?_) | refine CondP.ht (by assumption) (fun h9 => ?_) | refine CondP.hf (by assumption) (fun h9 => ?_) | refine CondP.nt (by assumption) (fun h9 => ?_) | refine CondP.nf (by assumption) (fun h9 => ?_)); (try simp only [h9]); clear h9) | ((first | (with_reducible apply CallG.plain1 [2, 3] (c9)) | (with_reducible apply CallG.draw1 [2, 3] (c9))); (focus ((try refine And.intro (leAs_of_eq rfl) ?_); (try refine And.intro (leOL_of_eq rfl) ?_); simp (maxSteps := 9999999) (disch := omega) only [go_sem, g2, g3, g4, sg.ren, tb_ren]; first | done | (repeat' (first | rfl | (refine And.intro ?_ ?_))))); (focus (simp (maxSteps := 9999999) (disch := omega) only [go_sem, g2, g3, g4, sg.ren, tb_ren]; rfl))) | ((first | (with_reducible apply CallG.plain1 [] (is_zero)) | (with_reducible apply CallG.draw1 [] (is_zero))); (focus ((try refine And.intro (leAs_of_eq rfl) ?_); (try refine And.intro (leOL_of_eq rfl) ?_); simp (maxSteps := 9999999) (disch := omega) only [go_sem, g2, g3, g4, sg.ren, tb_ren]; first | done | (repeat' (first | rfl | (refine And.intro ?_ ?_))))); (focus (simp (maxSteps := 9999999) (disch := omega) only [go_sem, g2, g3, g4, sg.ren, tb_ren]; rfl)))); (try simp (maxSteps := 9999999) (disch := omega) only [go_sem, g2, g3, g4, sg.ren, tb_ren]); (try (refine And.intro ?_ ?_; (focus (first | omega | (simp only [go_sem]; done) | (simp; done) | (simp; omega) | assumption))))) | ((first | refine CondP.split (fun hif => ?_) (fun hif => ?_) | refine Runs.part (fun hif => ?_) (fun hif => ?_)) <;> ((try simp only [hif]); (try simp only [decide_eq_true_eq, decide_eq_false_iff_not, Bool.not_eq_true, Bool.not_eq_false, Bool.not_eq_true', Bool.not_eq_false', beq_iff_eq, bne_iff_ne, bne_eq_false_iff_eq, beq_eq_false_iff_ne, ne_eq, Bool.and_eq_true, Bool.or_eq_true, Bool.or_eq_false_iff] at hif); (try (have h9 : _ = true := hif; simp only [h9])); (try (have h9 : _ = false := hif; simp only [h9])); (try simp (maxSteps := 9999999) (disch := omega) only [go_sem, g2, g3, g4, sg.ren, tb_ren]); (try (refine And.intro ?_ ?_; (focus (first | omega | (simp only [go_sem]; done) | (simp; done) | (simp; omega) | assumption)))); (try (exfalso; omega; done))))))
        (refine TopPost.of (by first | exact .inl rfl | exact .inr rfl) (by (try simp (maxSteps := 9999999) (disch := omega) only [go_sem]); rfl) ?_; (try simp (maxSteps := 9999999) (disch := omega) only [go_sem]); (try (first | trivial | decide | (simp; done))))
      · have g2 : ((i : Int) < 32) = False := eq_false (by omega)
        clear g1
        (try simp (maxSteps := 9999999) (disch := omega) only [go_sem])
        (repeat' (first | refine AWpA.seq ?_ | refine AWpA.block ?_ | (with_reducible refine CondP.tt ?_) | (with_reducible refine CondP.ff ?_) | refine AWpA.condv (by simp (maxSteps := 9999999) (disch := omega) only [go_sem, g2, g4, sg.ren, tb_ren]; rfl) ?_ | ((first | (apply AWpA.region; (focus (simp (maxSteps := 9999999) (disch := omega) only [go_sem, g2, g4, sg.ren, tb_ren]; rfl))) | (apply AWpA.draw [] follows; (focus (simp (maxSteps := 9999999) (disch := omega) only [go_sem, g2, g4, sg.ren, tb_ren]; rfl)); (focus (simp (maxSteps := 9999999) (disch := omega) only [go_sem, g2, g4, sg.ren, tb_ren]; first | done | trivial)); (focus (simp (maxSteps := 9999999) (disch := omega) only [go_sem, g2, g4, sg.ren, tb_ren]; rfl))) | (apply TailK.go; (focus (simp (maxSteps := 9999999) (disch := omega) only [go_sem, g2, g4, sg.ren, tb_ren]; rfl))) | refine AWpA.skip ?_ | refine AWpA.exit ?_ | refine AWpA.ret ?_ | (with_reducible refine ARoundsA.succ ?_) | ((first | refine Runs.kt (by assumption) (fun h9 => ?_) | refine Runs.kf (by assumption) (fun h9 => ?_) | refine Runs.nt (by assumption) (fun h9 => ?_) | refine Runs.nf (by assumption) (fun h9 => ?_) | refine CondP.ht (by assumption) (fun h9 => ?_) | refine CondP.hf (by assumption) (fun h9 => ?_) | refine CondP.nt (by assumption) (fun h9 => ?_) | refine CondP.nf (by assumption) (fun h9 => ?_)); (try simp only [h9]); clear h9) | ((first | (with_reducible apply CallG.plain1 [2, 3] (c9)) | (with_reducible apply CallG.draw1 [2, 3] (c9))); (focus ((try refine And.intro (leAs_of_eq rfl) ?_); (try refine And.intro (leOL_of_eq rfl) ?_); simp (maxSteps := 9999999) (disch := omega) only [go_sem, g2, g4, sg.ren, tb_ren]; first | done | (repeat' (first | rfl | (refine And.intro ?_ ?_))))); (focus (simp (maxSteps := 9999999) (disch := omega) only [go_sem, g2, g4, sg.ren, tb_ren]; rfl))) | ((first | (with_reducible apply CallG.plain1 [] (is_zero)) | (with_reducible apply CallG.draw1 [] (is_zero))); (focus ((try refine And.intro (leAs_of_eq rfl) ?_); (try refine And.intro (leOL_of_eq rfl) ?_); simp (maxSteps := 9999999) (disch := omega) only [go_sem, g2, g4, sg.ren, tb_ren]; first | done | (repeat' (first | rfl | (refine And.intro ?_ ?_))))); (focus (simp (maxSteps := 9999999) (disch := omega) only [go_sem, g2, g4, sg.ren, tb_ren]; rfl)))); (try simp (maxSteps := 9999999) (disch := omega) only [go_sem, g2, g4, sg.ren, tb_ren]); (try (refine And.intro ?_ ?_; (focus (first | omega | (simp only [go_sem]; done) | (simp; done) | (simp; omega) | assumption))))) | ((first | refine CondP.split (fun hif => ?_) (fun hif => ?_) | refine Runs.part (fun hif => ?_) (fun hif => ?_)) <;> ((try simp only [hif]); (try simp only [decide_eq_true_eq, decide_eq_false_iff_not, Bool.not_eq_true, Bool.not_eq_false, Bool.not_eq_true', Bool.not_eq_false', beq_iff_eq, bne_iff_ne, bne_eq_false_iff_eq, beq_eq_false_iff_ne, ne_eq, Bool.and_eq_true, Bool.or_eq_true, Bool.or_eq_false_iff] at hif); (try (have h9 : _ = true := hif; simp only [h9])); (try (have h9 : _ = false := hif; simp only [h9])); (try simp (maxSteps := 9999999) (disch := omega) only [go_sem, g2, g4, sg.ren, tb_ren]); (try (refine And.intro ?_ ?_; (focus (first | omega | (simp only [go_sem]; done) | (simp; done) | (simp; omega) | assumption)))); (try (exfalso; omega; done))))))
        (refine TopPost.of (by first | exact .inl rfl | exact .inr rfl) (by (try simp (maxSteps := 9999999) (disch := omega) only [go_sem]); rfl) ?_; (try simp (maxSteps := 9999999) (disch := omega) only [go_sem]); (try (first | trivial | decide | (simp; done))))
end Go.Proofs.Ythbpdmlbfnjoiaa
