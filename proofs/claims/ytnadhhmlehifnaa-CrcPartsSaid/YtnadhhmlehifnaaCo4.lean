/- Contracts: sums of bytes, the program's and the document's. -/
import Derived.Test.YtnadhhmlehifnaaCo3
namespace Go.Proofs.Ytnadhhmlehifnaa
set_option linter.unusedSimpArgs false
set_option linter.unusedVariables false
set_option maxHeartbeats 4000000
open Go Go.Am Go.RowKit Go.Crc
set_option maxRecDepth 100000
/- (*quidnunc/crc.Table).More -/
noncomputable def c28_1 : ACode := .region false [⟨some 6, .move, [.c (.val (.int .u32 0))], none⟩] [] [] [0, 1, 2] false [] []
noncomputable def c28_3 : ACode := .region false [⟨some 10, .move, [.t 0], none⟩,
  ⟨some 11, .nilChk, [.t 10], none⟩,
  ⟨some 12, .addr 0, [.t 11], none⟩,
  ⟨some 13, .move, [.t 0], none⟩,
  ⟨some 14, .mkFn 54 1, [.t 13], none⟩,
  ⟨some 15, .call 53, [.t 12, .t 14], none⟩] [] [] [0, 1, 2] true [] []
noncomputable def c28_5 : ACode := .region false [⟨some 16, .move, [.t 1], none⟩,
  ⟨some 17, .un .xor, [.t 16], none⟩,
  ⟨some 7, .move, [.t 17], none⟩] [] [] [0, 2, 7] false [] []
noncomputable def c28_8 : ACode := .region false [⟨some 18, .move, [.t 2], none⟩,
  ⟨some 19, .len, [.t 18], none⟩,
  ⟨some 20, .move, [.c (.val (.int .i64 0))], none⟩] [] [] [0, 7, 18, 19, 20] false [] []
noncomputable def c28_12 : ACode := .region false [⟨some 21, .bin .lss, [.t 20, .t 19], none⟩] [] [] [0, 7, 18, 19, 20, 21] false [] []
noncomputable def c28_14 : ACode := .cond (.t 21) .skip (.exit 0)
noncomputable def c28_18 : ACode := .region false [⟨some 22, .ixS 1, [.t 18, .t 20], none⟩,
  ⟨some 23, .load false 1, [.t 22], none⟩,
  ⟨some 9, .move, [.t 23], none⟩] [] [] [0, 7, 9, 18, 19, 20] false [] []
noncomputable def c28_19 : ACode := .region false [⟨some 24, .move, [.t 0], none⟩,
  ⟨some 25, .move, [.t 7], none⟩,
  ⟨some 26, .conv .u8, [.t 25], none⟩,
  ⟨some 27, .move, [.t 9], none⟩,
  ⟨some 28, .bin .xor, [.t 26, .t 27], none⟩,
  ⟨some 29, .nilChk, [.t 24], none⟩,
  ⟨some 30, .addr 3, [.t 29], none⟩,
  ⟨some 31, .ixA 256 1, [.t 30, .t 28], none⟩,
  ⟨some 32, .load false 1, [.t 31], none⟩,
  ⟨some 33, .move, [.t 7], none⟩,
  ⟨some 34, .bin .shr, [.t 33, .c (.val (.int .u64 8))], none⟩,
  ⟨some 35, .bin .xor, [.t 32, .t 34], none⟩,
  ⟨some 7, .move, [.t 35], none⟩] [] [] [0, 7, 18, 19, 20] false [] []
noncomputable def c28_17 : ACode := .seq c28_18 c28_19
noncomputable def c28_16 : ACode := .block 1 c28_17
noncomputable def c28_20 : ACode := .region false [⟨some 36, .bin .add, [.t 20, .c (.val (.int .i64 1))], none⟩,
  ⟨some 20, .move, [.t 36], none⟩] [] [] [0, 7, 18, 19, 20] false [] []
noncomputable def c28_15 : ACode := .seq c28_16 c28_20
noncomputable def c28_13 : ACode := .seq c28_14 c28_15
noncomputable def c28_11 : ACode := .seq c28_12 c28_13
noncomputable def c28_10 : ACode := .loop c28_11
noncomputable def c28_9 : ACode := .block 0 c28_10
noncomputable def c28_7 : ACode := .seq c28_8 c28_9
noncomputable def c28_22 : ACode := .region false [⟨some 37, .move, [.t 7], none⟩,
  ⟨some 38, .un .xor, [.t 37], none⟩,
  ⟨some 6, .move, [.t 38], none⟩] [] [] [6] false [] []
noncomputable def c28_21 : ACode := .seq c28_22 .ret
noncomputable def c28_6 : ACode := .seq c28_7 c28_21
noncomputable def c28_4 : ACode := .seq c28_5 c28_6
noncomputable def c28_2 : ACode := .seq c28_3 c28_4
noncomputable def c28_0 : ACode := .seq c28_1 c28_2
noncomputable def code28 : Code := (Try.f28.body).getD .skip
theorem c28_ok : compC Try.prog 39 code28 = some (strip c28_0) := by kernel_rfl
theorem res28_ok : Try.f28.results.toList.mapM (resC Try.prog) = some [(6, none)] := by kernel_rfl
/- (*quidnunc/crc.Table).Row -/
noncomputable def c30_1 : ACode := .region false [⟨some 4, .move, [.c (.val (.int .u32 0))], none⟩] [] [] [0, 1] false [] []
noncomputable def c30_4 : ACode := .region false [⟨some 5, .move, [.t 1], none⟩,
  ⟨some 6, .bin .lss, [.t 5, .c (.val (.int .i64 0))], none⟩,
  ⟨some 7, .move, [.t 6], none⟩,
  ⟨some 8, .move, [.t 1], some (some 7, false)⟩,
  ⟨some 9, .bin .geq, [.t 8, .c (.val (.int .i64 256))], some (some 7, false)⟩,
  ⟨some 10, .pick, [.t 7, .c (.val (.bool true)), .t 9], none⟩] [] [] [0, 1, 10] false [] []
noncomputable def c30_7 : ACode := .region false [⟨some 4, .move, [.c (.val (.int .u32 0))], none⟩] [] [] [4] false [] []
noncomputable def c30_6 : ACode := .seq c30_7 .ret
noncomputable def c30_5 : ACode := .cond (.t 10) c30_6 .skip
noncomputable def c30_3 : ACode := .seq c30_4 c30_5
noncomputable def c30_9 : ACode := .region false [⟨some 11, .move, [.t 0], none⟩,
  ⟨some 12, .nilChk, [.t 11], none⟩,
  ⟨some 13, .addr 0, [.t 12], none⟩,
  ⟨some 14, .move, [.t 0], none⟩,
  ⟨some 15, .mkFn 54 1, [.t 14], none⟩,
  ⟨some 16, .call 53, [.t 13, .t 15], none⟩] [] [] [0, 1] true [] []
noncomputable def c30_11 : ACode := .region false [⟨some 17, .move, [.t 0], none⟩,
  ⟨some 18, .move, [.t 1], none⟩,
  ⟨some 19, .nilChk, [.t 17], none⟩,
  ⟨some 20, .addr 3, [.t 19], none⟩,
  ⟨some 21, .ixA 256 1, [.t 20, .t 18], none⟩,
  ⟨some 22, .load false 1, [.t 21], none⟩,
  ⟨some 4, .move, [.t 22], none⟩] [] [] [4] false [] []
noncomputable def c30_10 : ACode := .seq c30_11 .ret
noncomputable def c30_8 : ACode := .seq c30_9 c30_10
noncomputable def c30_2 : ACode := .seq c30_3 c30_8
noncomputable def c30_0 : ACode := .seq c30_1 c30_2
noncomputable def code30 : Code := (Try.f30.body).getD .skip
theorem c30_ok : compC Try.prog 23 code30 = some (strip c30_0) := by kernel_rfl
theorem res30_ok : Try.f30.results.toList.mapM (resC Try.prog) = some [(4, none)] := by kernel_rfl
/- quidnunc/quidnuncref02.moved -/
noncomputable def c55_1 : ACode := .region false [⟨some 2, .move, [.c (.val (.int .u32 0))], none⟩] [] [] [0] false [] []
noncomputable def c55_4 : ACode := .region false [⟨some 3, .move, [.c (.val (.int .i64 0))], none⟩] [] [] [0, 3] false [] []
noncomputable def c55_9 : ACode := .region false [⟨some 5, .move, [.t 3], none⟩,
  ⟨some 6, .bin .lss, [.t 5, .c (.val (.int .i64 8))], none⟩] [] [] [0, 3, 6] false [] []
noncomputable def c55_10 : ACode := .cond (.t 6) .skip (.exit 0)
noncomputable def c55_8 : ACode := .seq c55_9 c55_10
noncomputable def c55_14 : ACode := .region false [⟨some 9, .move, [.t 0], none⟩,
  ⟨some 10, .bin .rem, [.t 9, .c (.val (.int .u32 2))], none⟩,
  ⟨some 11, .bin .eql, [.t 10, .c (.val (.int .u32 1))], none⟩,
  ⟨some 4, .move, [.t 11], none⟩] [] [] [0, 3, 4] false [] []
noncomputable def c55_16 : ACode := .region false [⟨some 12, .move, [.t 0], none⟩,
  ⟨some 13, .bin .quo, [.t 12, .c (.val (.int .u32 2))], none⟩,
  ⟨some 0, .move, [.t 13], none⟩] [] [] [0, 3, 4] false [] []
noncomputable def c55_18 : ACode := .region false [⟨some 14, .move, [.t 4], none⟩] [] [] [0, 3, 14] false [] []
noncomputable def c55_20 : ACode := .region false [⟨some 15, .move, [.t 0], none⟩,
  ⟨some 16, .bin .xor, [.t 15, .c (.val (.int .u32 3988292384))], none⟩,
  ⟨some 0, .move, [.t 16], none⟩] [] [] [0, 3] false [] []
noncomputable def c55_19 : ACode := .cond (.t 14) c55_20 .skip
noncomputable def c55_17 : ACode := .seq c55_18 c55_19
noncomputable def c55_15 : ACode := .seq c55_16 c55_17
noncomputable def c55_13 : ACode := .seq c55_14 c55_15
noncomputable def c55_12 : ACode := .block 1 c55_13
noncomputable def c55_21 : ACode := .region false [⟨some 7, .move, [.t 3], none⟩,
  ⟨some 8, .bin .add, [.t 7, .c (.val (.int .i64 1))], none⟩,
  ⟨some 3, .move, [.t 8], none⟩] [] [] [0, 3] false [] []
noncomputable def c55_11 : ACode := .seq c55_12 c55_21
noncomputable def c55_7 : ACode := .seq c55_8 c55_11
noncomputable def c55_6 : ACode := .loop c55_7
noncomputable def c55_5 : ACode := .block 0 c55_6
noncomputable def c55_3 : ACode := .seq c55_4 c55_5
noncomputable def c55_23 : ACode := .region false [⟨some 17, .move, [.t 0], none⟩,
  ⟨some 2, .move, [.t 17], none⟩] [] [] [2] false [] []
noncomputable def c55_22 : ACode := .seq c55_23 .ret
noncomputable def c55_2 : ACode := .seq c55_3 c55_22
noncomputable def c55_0 : ACode := .seq c55_1 c55_2
noncomputable def code55 : Code := (Try.f55.body).getD .skip
theorem c55_ok : compC Try.prog 18 code55 = some (strip c55_0) := by kernel_rfl
theorem res55_ok : Try.f55.results.toList.mapM (resC Try.prog) = some [(2, none)] := by kernel_rfl
/- quidnunc/quidnuncref02.More -/
noncomputable def c33_1 : ACode := .region false [⟨some 4, .move, [.c (.val (.int .u32 0))], none⟩] [] [] [0, 1] false [] []
noncomputable def c33_3 : ACode := .region false [⟨some 7, .move, [.t 0], none⟩,
  ⟨some 8, .call 56, [.t 7], none⟩,
  ⟨some 5, .move, [.t 8], none⟩] [] [] [1, 5] true [] []
noncomputable def c33_6 : ACode := .region false [⟨some 6, .move, [.c (.val (.int .i64 0))], none⟩] [] [] [1, 5, 6] false [] []
noncomputable def c33_11 : ACode := .region false [⟨some 9, .move, [.t 6], none⟩,
  ⟨some 10, .move, [.t 1], none⟩,
  ⟨some 11, .len, [.t 10], none⟩,
  ⟨some 12, .bin .lss, [.t 9, .t 11], none⟩] [] [] [1, 5, 6, 12] false [] []
noncomputable def c33_12 : ACode := .cond (.t 12) .skip (.exit 0)
noncomputable def c33_10 : ACode := .seq c33_11 c33_12
noncomputable def c33_15 : ACode := .region false [⟨some 15, .move, [.t 5], none⟩,
  ⟨some 16, .move, [.t 1], none⟩,
  ⟨some 17, .move, [.t 6], none⟩,
  ⟨some 18, .ixS 1, [.t 16, .t 17], none⟩,
  ⟨some 19, .load false 1, [.t 18], none⟩,
  ⟨some 20, .conv .u32, [.t 19], none⟩,
  ⟨some 21, .bin .xor, [.t 15, .t 20], none⟩,
  ⟨some 22, .call 55, [.t 21], none⟩,
  ⟨some 5, .move, [.t 22], none⟩] [] [] [1, 5, 6] true [] []
noncomputable def c33_14 : ACode := .block 1 c33_15
noncomputable def c33_16 : ACode := .region false [⟨some 13, .move, [.t 6], none⟩,
  ⟨some 14, .bin .add, [.t 13, .c (.val (.int .i64 1))], none⟩,
  ⟨some 6, .move, [.t 14], none⟩] [] [] [1, 5, 6] false [] []
noncomputable def c33_13 : ACode := .seq c33_14 c33_16
noncomputable def c33_9 : ACode := .seq c33_10 c33_13
noncomputable def c33_8 : ACode := .loop c33_9
noncomputable def c33_7 : ACode := .block 0 c33_8
noncomputable def c33_5 : ACode := .seq c33_6 c33_7
noncomputable def c33_18 : ACode := .region false [⟨some 23, .move, [.t 5], none⟩,
  ⟨some 24, .call 56, [.t 23], none⟩,
  ⟨some 4, .move, [.t 24], none⟩] [] [] [4] true [] []
noncomputable def c33_17 : ACode := .seq c33_18 .ret
noncomputable def c33_4 : ACode := .seq c33_5 c33_17
noncomputable def c33_2 : ACode := .seq c33_3 c33_4
noncomputable def c33_0 : ACode := .seq c33_1 c33_2
noncomputable def code33 : Code := (Try.f33.body).getD .skip
theorem c33_ok : compC Try.prog 25 code33 = some (strip c33_0) := by kernel_rfl
theorem res33_ok : Try.f33.results.toList.mapM (resC Try.prog) = some [(4, none)] := by kernel_rfl
/- quidnunc/quidnuncref02.turned -/
noncomputable def c56_1 : ACode := .region false [⟨some 2, .move, [.c (.val (.int .u32 0))], none⟩] [] [] [0] false [] []
noncomputable def c56_3 : ACode := .region false [⟨some 3, .move, [.t 0], none⟩,
  ⟨some 4, .bin .sub, [.c (.val (.int .u32 4294967295)), .t 3], none⟩,
  ⟨some 2, .move, [.t 4], none⟩] [] [] [2] false [] []
noncomputable def c56_2 : ACode := .seq c56_3 .ret
noncomputable def c56_0 : ACode := .seq c56_1 c56_2
noncomputable def code56 : Code := (Try.f56.body).getD .skip
theorem c56_ok : compC Try.prog 5 code56 = some (strip c56_0) := by kernel_rfl
theorem res56_ok : Try.f56.results.toList.mapM (resC Try.prog) = some [(2, none)] := by kernel_rfl
/- quidnunc/quidnuncref02.Row -/
noncomputable def c31_1 : ACode := .region false [⟨some 2, .move, [.c (.val (.int .u32 0))], none⟩] [] [] [0] false [] []
noncomputable def c31_4 : ACode := .region false [⟨some 3, .move, [.t 0], none⟩,
  ⟨some 4, .bin .lss, [.t 3, .c (.val (.int .i64 0))], none⟩,
  ⟨some 5, .move, [.t 4], none⟩,
  ⟨some 6, .move, [.t 0], some (some 5, false)⟩,
  ⟨some 7, .bin .gtr, [.t 6, .c (.val (.int .i64 255))], some (some 5, false)⟩,
  ⟨some 8, .pick, [.t 5, .c (.val (.bool true)), .t 7], none⟩] [] [] [0, 8] false [] []
noncomputable def c31_7 : ACode := .region false [⟨some 2, .move, [.c (.val (.int .u32 0))], none⟩] [] [] [2] false [] []
noncomputable def c31_6 : ACode := .seq c31_7 .ret
noncomputable def c31_5 : ACode := .cond (.t 8) c31_6 .skip
noncomputable def c31_3 : ACode := .seq c31_4 c31_5
noncomputable def c31_9 : ACode := .region false [⟨some 9, .move, [.t 0], none⟩,
  ⟨some 10, .conv .u32, [.t 9], none⟩,
  ⟨some 11, .call 55, [.t 10], none⟩,
  ⟨some 2, .move, [.t 11], none⟩] [] [] [2] true [] []
noncomputable def c31_8 : ACode := .seq c31_9 .ret
noncomputable def c31_2 : ACode := .seq c31_3 c31_8
noncomputable def c31_0 : ACode := .seq c31_1 c31_2
noncomputable def code31 : Code := (Try.f31.body).getD .skip
theorem c31_ok : compC Try.prog 12 code31 = some (strip c31_0) := by kernel_rfl
theorem res31_ok : Try.f31.results.toList.mapM (resC Try.prog) = some [(2, none)] := by kernel_rfl
/- quidnunc/quidnuncref02.Sum -/
noncomputable def c32_1 : ACode := .region false [⟨some 2, .move, [.c (.val (.int .u32 0))], none⟩] [] [] [0] false [] []
noncomputable def c32_3 : ACode := .region false [⟨some 3, .move, [.t 0], none⟩,
  ⟨some 4, .call 33, [.c (.val (.int .u32 0)), .t 3], none⟩,
  ⟨some 2, .move, [.t 4], none⟩] [] [] [2] true [] []
noncomputable def c32_2 : ACode := .seq c32_3 .ret
noncomputable def c32_0 : ACode := .seq c32_1 c32_2
noncomputable def code32 : Code := (Try.f32.body).getD .skip
theorem c32_ok : compC Try.prog 5 code32 = some (strip c32_0) := by kernel_rfl
theorem res32_ok : Try.f32.results.toList.mapM (resC Try.prog) = some [(2, none)] := by kernel_rfl
theorem rem2 (a : R) : ((a.toNat : Int).tmod 2 == 1) = a.getLsbD 0 := by
  rw [Int.tmod_eq_emod_of_nonneg (by omega)]
  have : (a.toNat : Int) % 2 = ((a.toNat % 2 : Nat) : Int) := by omega
  rw [this]
  rcases Nat.mod_two_eq_zero_or_one a.toNat with h2 | h2 <;> simp [BitVec.getLsbD, Nat.testBit_zero, h2]
theorem quo2 (a : R) : IntKind.u32.wrap ((a.toNat : Int).tdiv 2) = ((a >>> 1).toNat : Int) := by
  rw [Int.tdiv_eq_ediv_of_nonneg (by omega), BitVec.toNat_ushiftRight, Nat.shiftRight_eq_div_pow]
  have := a.isLt
  simp [IntKind.wrap, IntKind.bits, IntKind.signed]
  omega
theorem sub_not (a : R) : IntKind.u32.wrap (4294967295 - (a.toNat : Int)) = ((~~~ a).toNat : Int) := by
  have := a.isLt
  rw [BitVec.toNat_not]
  simp [IntKind.wrap, IntKind.bits, IntKind.signed]
  omega
theorem conv_by8 {c : Int} (h0 : 0 ≤ c) (h1 : c ≤ 255) : IntKind.u32.wrap c = ((by8 c).toNat : Int) := by
  rw [by8_small h0 h1]
  simp [IntKind.wrap, IntKind.bits, IntKind.signed]
  omega
theorem moved_any (v : R) : ACall Try.prog 55 [U32 v.toNat] [] (Det (U32 (mv v).toNat) []) := by
  refine ACall.startA c55_ok Try.func55 rfl Try.ntmps55 (by kernel_rfl) res55_ok rfl rfl rfl ?_; simp (maxSteps := 9999999) (disch := omega) only [go_sem]
  (repeat' (first | refine AWpA.seq ?_ | refine AWpA.block ?_ | (with_reducible refine CondP.tt ?_) | (with_reducible refine CondP.ff ?_) | refine AWpA.condv (by simp (maxSteps := 9999999) (disch := omega) only [go_sem]; rfl) ?_ | ((first | (apply AWpA.region; (focus (simp (maxSteps := 9999999) (disch := omega) only [go_sem]; rfl))) | (apply AWpA.draw [] [] follows; (focus (first | rfl | decide)); (focus (simp (maxSteps := 9999999) (disch := omega) only [go_sem]; rfl)); (focus (simp (maxSteps := 9999999) (disch := omega) only [go_sem]; first | done | trivial)); (focus (simp (maxSteps := 9999999) (disch := omega) only [go_sem]; rfl))) | (apply TailK.go; (focus (simp (maxSteps := 9999999) (disch := omega) only [go_sem]; rfl))) | refine AWpA.skip ?_ | refine AWpA.exit ?_ | refine AWpA.ret ?_ | (with_reducible refine ARoundsA.succ ?_) | ((first | refine Runs.kt (by assumption) (fun h9 => ?_) | refine Runs.kf (by assumption) (fun h9 => ?_) | refine Runs.nt (by assumption) (fun h9 => ?_) | refine Runs.nf (by assumption) (fun h9 => ?_) | refine CondP.ht (by assumption) (fun h9 => ?_) | refine CondP.hf (by assumption) (fun h9 => ?_) | refine CondP.nt (by assumption) (fun h9 => ?_) | refine CondP.nf (by assumption) (fun h9 => ?_)); (try simp only [h9]); clear h9)); (try simp (maxSteps := 9999999) (disch := omega) only [go_sem]); (try (refine And.intro ?_ ?_; (focus (first | omega | (simp only [go_sem]; done) | (simp; done) | (simp; omega) | assumption))))) | ((first | refine CondP.split (fun hif => ?_) (fun hif => ?_) | refine Runs.part (fun hif => ?_) (fun hif => ?_)) <;> ((try simp only [hif]); (try simp only [decide_eq_true_eq, decide_eq_false_iff_not, Bool.not_eq_true, Bool.not_eq_false, Bool.not_eq_true', Bool.not_eq_false', beq_iff_eq, bne_iff_ne, bne_eq_false_iff_eq, beq_eq_false_iff_ne, ne_eq, Bool.and_eq_true, Bool.or_eq_true, Bool.or_eq_false_iff] at hif); (try (have h9 : _ = true := hif; simp only [h9])); (try (have h9 : _ = false := hif; simp only [h9])); (try simp (maxSteps := 9999999) (disch := omega) only [go_sem]); (try (refine And.intro ?_ ?_; (focus (first | omega | (simp only [go_sem]; done) | (simp; done) | (simp; omega) | assumption)))); (try (exfalso; omega; done))))))
  (apply AWpA.loopL (fun k : Nat => [(0, U32 (dns k v).toNat), (3, I k)]) (fun k => []) (fun k => 8 - k) (fun k => k ≤ 8) (0) []; rotate_left; (focus (simp (maxSteps := 9999999) (disch := omega) only [go_sem, dns]; (try (repeat' (first | done | trivial | rfl | exact leAs_rfl _ | decide | (refine And.intro ?_ ?_) | (simp; done) | omega | (simp; decide)))))); rotate_right)
  · exact Nat.zero_le _
  rintro k hk
  (try simp only at hk)
  by_cases hkn : k < 8
  · have h1 : ((k : Int) < 8) = True := eq_true (by omega)
    have h2 := rem2 (dns k v)
    have h3 := quo2 (dns k v)
    cases hb : (dns k v).getLsbD 0
    · rw [hb] at h2
      have g := dn_false hb
      (try simp (maxSteps := 9999999) (disch := omega) only [go_sem])
      (repeat' (first | refine AWpA.seq ?_ | refine AWpA.block ?_ | (with_reducible refine CondP.tt ?_) | (with_reducible refine CondP.ff ?_) | refine AWpA.condv (by simp (maxSteps := 9999999) (disch := omega) only [go_sem, h1, h2, h3]; rfl) ?_ | ((first | (apply AWpA.region; (focus (simp (maxSteps := 9999999) (disch := omega) only [go_sem, h1, h2, h3]; rfl))) | (apply AWpA.draw [] [] follows; (focus (first | rfl | decide)); (focus (simp (maxSteps := 9999999) (disch := omega) only [go_sem, h1, h2, h3]; rfl)); (focus (simp (maxSteps := 9999999) (disch := omega) only [go_sem, h1, h2, h3]; first | done | trivial)); (focus (simp (maxSteps := 9999999) (disch := omega) only [go_sem, h1, h2, h3]; rfl))) | (apply TailK.go; (focus (simp (maxSteps := 9999999) (disch := omega) only [go_sem, h1, h2, h3]; rfl))) | refine AWpA.skip ?_ | refine AWpA.exit ?_ | refine AWpA.ret ?_ | (with_reducible refine ARoundsA.succ ?_) | ((first | refine Runs.kt (by assumption) (fun h9 => ?_) | refine Runs.kf (by assumption) (fun h9 => ?_) | refine Runs.nt (by assumption) (fun h9 => ?_) | refine Runs.nf (by assumption) (fun h9 => ?_) | refine CondP.ht (by assumption) (fun h9 => ?_) | refine CondP.hf (by assumption) (fun h9 => ?_) | refine CondP.nt (by assumption) (fun h9 => ?_) | refine CondP.nf (by assumption) (fun h9 => ?_)); (try simp only [h9]); clear h9)); (try simp (maxSteps := 9999999) (disch := omega) only [go_sem, h1, h2, h3]); (try (refine And.intro ?_ ?_; (focus (first | omega | (simp only [go_sem]; done) | (simp; done) | (simp; omega) | assumption))))) | ((first | refine CondP.split (fun hif => ?_) (fun hif => ?_) | refine Runs.part (fun hif => ?_) (fun hif => ?_)) <;> ((try simp only [hif]); (try simp only [decide_eq_true_eq, decide_eq_false_iff_not, Bool.not_eq_true, Bool.not_eq_false, Bool.not_eq_true', Bool.not_eq_false', beq_iff_eq, bne_iff_ne, bne_eq_false_iff_eq, beq_eq_false_iff_ne, ne_eq, Bool.and_eq_true, Bool.or_eq_true, Bool.or_eq_false_iff] at hif); (try (have h9 : _ = true := hif; simp only [h9])); (try (have h9 : _ = false := hif; simp only [h9])); (try simp (maxSteps := 9999999) (disch := omega) only [go_sem, h1, h2, h3]); (try (refine And.intro ?_ ?_; (focus (first | omega | (simp only [go_sem]; done) | (simp; done) | (simp; omega) | assumption)))); (try (exfalso; omega; done))))))
      (apply Back.to (k + 1) []; (focus ((try simp (maxSteps := 9999999) (disch := omega) only [go_sem, dns_last, g]); first | done | omega)); rotate_left; (focus (simp (maxSteps := 9999999) (disch := omega) only [go_sem, dns_last, g]; (try (repeat' (first | done | trivial | rfl | exact leAs_rfl _ | decide | (refine And.intro ?_ ?_) | (simp; done) | omega | (simp; decide)))))))
      omega
    · rw [hb] at h2
      have g := dn_true hb
      (try simp (maxSteps := 9999999) (disch := omega) only [go_sem])
      (repeat' (first | refine AWpA.seq ?_ | refine AWpA.block ?_ | (with_reducible refine CondP.tt ?_) | (with_reducible refine CondP.ff ?_) | refine AWpA.condv (by simp (maxSteps := 9999999) (disch := omega) only [go_sem, h1, h2, h3, x32_poly, g]; rfl) ?_ | ((first | (apply AWpA.region; (focus (simp (maxSteps := 9999999) (disch := omega) only [go_sem, h1, h2, h3, x32_poly, g]; rfl))) | (apply AWpA.draw [] [] follows; (focus (first | rfl | decide)); (focus (simp (maxSteps := 9999999) (disch := omega) only [go_sem, h1, h2, h3, x32_poly, g]; rfl)); (focus (simp (maxSteps := 9999999) (disch := omega) only [go_sem, h1, h2, h3, x32_poly, g]; first | done | trivial)); (focus (simp (maxSteps := 9999999) (disch := omega) only [go_sem, h1, h2, h3, x32_poly, g]; rfl))) | (apply TailK.go; (focus (simp (maxSteps := 9999999) (disch := omega) only [go_sem, h1, h2, h3, x32_poly, g]; rfl))) | refine AWpA.skip ?_ | refine AWpA.exit ?_ | refine AWpA.ret ?_ | (with_reducible refine ARoundsA.succ ?_) | ((first | refine Runs.kt (by assumption) (fun h9 => ?_) | refine Runs.kf (by assumption) (fun h9 => ?_) | refine Runs.nt (by assumption) (fun h9 => ?_) | refine Runs.nf (by assumption) (fun h9 => ?_) | refine CondP.ht (by assumption) (fun h9 => ?_) | refine CondP.hf (by assumption) (fun h9 => ?_) | refine CondP.nt (by assumption) (fun h9 => ?_) | refine CondP.nf (by assumption) (fun h9 => ?_)); (try simp only [h9]); clear h9)); (try simp (maxSteps := 9999999) (disch := omega) only [go_sem, h1, h2, h3, x32_poly, g]); (try (refine And.intro ?_ ?_; (focus (first | omega | (simp only [go_sem]; done) | (simp; done) | (simp; omega) | assumption))))) | ((first | refine CondP.split (fun hif => ?_) (fun hif => ?_) | refine Runs.part (fun hif => ?_) (fun hif => ?_)) <;> ((try simp only [hif]); (try simp only [decide_eq_true_eq, decide_eq_false_iff_not, Bool.not_eq_true, Bool.not_eq_false, Bool.not_eq_true', Bool.not_eq_false', beq_iff_eq, bne_iff_ne, bne_eq_false_iff_eq, beq_eq_false_iff_ne, ne_eq, Bool.and_eq_true, Bool.or_eq_true, Bool.or_eq_false_iff] at hif); (try (have h9 : _ = true := hif; simp only [h9])); (try (have h9 : _ = false := hif; simp only [h9])); (try simp (maxSteps := 9999999) (disch := omega) only [go_sem, h1, h2, h3, x32_poly, g]); (try (refine And.intro ?_ ?_; (focus (first | omega | (simp only [go_sem]; done) | (simp; done) | (simp; omega) | assumption)))); (try (exfalso; omega; done))))))
      (apply Back.to (k + 1) []; (focus ((try simp (maxSteps := 9999999) (disch := omega) only [go_sem, dns_last, g]); first | done | omega)); rotate_left; (focus (simp (maxSteps := 9999999) (disch := omega) only [go_sem, dns_last, g]; (try (repeat' (first | done | trivial | rfl | exact leAs_rfl _ | decide | (refine And.intro ?_ ?_) | (simp; done) | omega | (simp; decide)))))))
      omega
  · obtain rfl : k = 8 := by omega
    (try simp (maxSteps := 9999999) (disch := omega) only [go_sem])
    (repeat' (first | refine AWpA.seq ?_ | refine AWpA.block ?_ | (with_reducible refine CondP.tt ?_) | (with_reducible refine CondP.ff ?_) | refine AWpA.condv (by simp (maxSteps := 9999999) (disch := omega) only [go_sem]; rfl) ?_ | ((first | (apply AWpA.region; (focus (simp (maxSteps := 9999999) (disch := omega) only [go_sem]; rfl))) | (apply AWpA.draw [] [] follows; (focus (first | rfl | decide)); (focus (simp (maxSteps := 9999999) (disch := omega) only [go_sem]; rfl)); (focus (simp (maxSteps := 9999999) (disch := omega) only [go_sem]; first | done | trivial)); (focus (simp (maxSteps := 9999999) (disch := omega) only [go_sem]; rfl))) | (apply TailK.go; (focus (simp (maxSteps := 9999999) (disch := omega) only [go_sem]; rfl))) | refine AWpA.skip ?_ | refine AWpA.exit ?_ | refine AWpA.ret ?_ | (with_reducible refine ARoundsA.succ ?_) | ((first | refine Runs.kt (by assumption) (fun h9 => ?_) | refine Runs.kf (by assumption) (fun h9 => ?_) | refine Runs.nt (by assumption) (fun h9 => ?_) | refine Runs.nf (by assumption) (fun h9 => ?_) | refine CondP.ht (by assumption) (fun h9 => ?_) | refine CondP.hf (by assumption) (fun h9 => ?_) | refine CondP.nt (by assumption) (fun h9 => ?_) | refine CondP.nf (by assumption) (fun h9 => ?_)); (try simp only [h9]); clear h9)); (try simp (maxSteps := 9999999) (disch := omega) only [go_sem]); (try (refine And.intro ?_ ?_; (focus (first | omega | (simp only [go_sem]; done) | (simp; done) | (simp; omega) | assumption))))) | ((first | refine CondP.split (fun hif => ?_) (fun hif => ?_) | refine Runs.part (fun hif => ?_) (fun hif => ?_)) <;> ((try simp only [hif]); (try simp only [decide_eq_true_eq, decide_eq_false_iff_not, Bool.not_eq_true, Bool.not_eq_false, Bool.not_eq_true', Bool.not_eq_false', beq_iff_eq, bne_iff_ne, bne_eq_false_iff_eq, beq_eq_false_iff_ne, ne_eq, Bool.and_eq_true, Bool.or_eq_true, Bool.or_eq_false_iff] at hif); (try (have h9 : _ = true := hif; simp only [h9])); (try (have h9 : _ = false := hif; simp only [h9])); (try simp (maxSteps := 9999999) (disch := omega) only [go_sem]); (try (refine And.intro ?_ ?_; (focus (first | omega | (simp only [go_sem]; done) | (simp; done) | (simp; omega) | assumption)))); (try (exfalso; omega; done))))))
    (apply Ret.det []; (focus (first | exact .inl rfl | exact .inr rfl)); (focus (simp (maxSteps := 9999999) (disch := omega) only [go_sem, mv]; rfl)); (simp (maxSteps := 9999999) (disch := omega) only [go_sem, mv]; (try (repeat' (first | done | trivial | rfl | exact leAs_rfl _ | decide | (refine And.intro ?_ ?_) | (simp; done) | omega | (simp; decide))))))
theorem turned_any (v : R) : ACall Try.prog 56 [U32 v.toNat] [] (Det (U32 (~~~ v).toNat) []) := by
  refine ACall.startA c56_ok Try.func56 rfl Try.ntmps56 (by kernel_rfl) res56_ok rfl rfl rfl ?_; simp (maxSteps := 9999999) (disch := omega) only [go_sem]
  (repeat' (first | refine AWpA.seq ?_ | refine AWpA.block ?_ | (with_reducible refine CondP.tt ?_) | (with_reducible refine CondP.ff ?_) | refine AWpA.condv (by simp (maxSteps := 9999999) (disch := omega) only [go_sem, sub_not]; rfl) ?_ | ((first | (apply AWpA.region; (focus (simp (maxSteps := 9999999) (disch := omega) only [go_sem, sub_not]; rfl))) | (apply AWpA.draw [] [] follows; (focus (first | rfl | decide)); (focus (simp (maxSteps := 9999999) (disch := omega) only [go_sem, sub_not]; rfl)); (focus (simp (maxSteps := 9999999) (disch := omega) only [go_sem, sub_not]; first | done | trivial)); (focus (simp (maxSteps := 9999999) (disch := omega) only [go_sem, sub_not]; rfl))) | (apply TailK.go; (focus (simp (maxSteps := 9999999) (disch := omega) only [go_sem, sub_not]; rfl))) | refine AWpA.skip ?_ | refine AWpA.exit ?_ | refine AWpA.ret ?_ | (with_reducible refine ARoundsA.succ ?_) | ((first | refine Runs.kt (by assumption) (fun h9 => ?_) | refine Runs.kf (by assumption) (fun h9 => ?_) | refine Runs.nt (by assumption) (fun h9 => ?_) | refine Runs.nf (by assumption) (fun h9 => ?_) | refine CondP.ht (by assumption) (fun h9 => ?_) | refine CondP.hf (by assumption) (fun h9 => ?_) | refine CondP.nt (by assumption) (fun h9 => ?_) | refine CondP.nf (by assumption) (fun h9 => ?_)); (try simp only [h9]); clear h9)); (try simp (maxSteps := 9999999) (disch := omega) only [go_sem, sub_not]); (try (refine And.intro ?_ ?_; (focus (first | omega | (simp only [go_sem]; done) | (simp; done) | (simp; omega) | assumption))))) | ((first | refine CondP.split (fun hif => ?_) (fun hif => ?_) | refine Runs.part (fun hif => ?_) (fun hif => ?_)) <;> ((try simp only [hif]); (try simp only [decide_eq_true_eq, decide_eq_false_iff_not, Bool.not_eq_true, Bool.not_eq_false, Bool.not_eq_true', Bool.not_eq_false', beq_iff_eq, bne_iff_ne, bne_eq_false_iff_eq, beq_eq_false_iff_ne, ne_eq, Bool.and_eq_true, Bool.or_eq_true, Bool.or_eq_false_iff] at hif); (try (have h9 : _ = true := hif; simp only [h9])); (try (have h9 : _ = false := hif; simp only [h9])); (try simp (maxSteps := 9999999) (disch := omega) only [go_sem, sub_not]); (try (refine And.intro ?_ ?_; (focus (first | omega | (simp only [go_sem]; done) | (simp; done) | (simp; omega) | assumption)))); (try (exfalso; omega; done))))))
  (apply Ret.det []; (focus (first | exact .inl rfl | exact .inr rfl)); (focus (simp (maxSteps := 9999999) (disch := omega) only [go_sem]; rfl)); (simp (maxSteps := 9999999) (disch := omega) only [go_sem]; (try (repeat' (first | done | trivial | rfl | exact leAs_rfl _ | decide | (refine And.intro ?_ ?_) | (simp; done) | omega | (simp; decide))))))
theorem more_any (d : Bool) (s : R) {P : List AV} {o : Nat} {l : List Int} (sg : Seg P o l) (hby : ∀ x ∈ l, 0 ≤ x ∧ x ≤ 255) :
    ACall Try.prog 28 [.ptr 0 0, U32 s.toNat, .sl 1 o l.length 1 none] [.cells false (tb d), .cells true P] (Det (U32 (more s l).toNat) [.cells false (tb true), .cells true P]) := by
  have hle := sg.le
  have hsm := sg.small
  refine ACall.startA c28_ok Try.func28 rfl Try.ntmps28 (by kernel_rfl) res28_ok rfl rfl rfl ?_; simp (maxSteps := 9999999) (disch := omega) only [go_sem]
  (repeat' (first | refine AWpA.seq ?_ | refine AWpA.block ?_ | (with_reducible refine CondP.tt ?_) | (with_reducible refine CondP.ff ?_) | refine AWpA.condv (by simp (maxSteps := 9999999) (disch := omega) only [go_sem, sg.ren, tb_ren, x32_not2]; rfl) ?_ | ((first | (apply AWpA.region; (focus (simp (maxSteps := 9999999) (disch := omega) only [go_sem, sg.ren, tb_ren, x32_not2]; rfl))) | (apply AWpA.draw [] [] follows; (focus (first | rfl | decide)); (focus (simp (maxSteps := 9999999) (disch := omega) only [go_sem, sg.ren, tb_ren, x32_not2]; rfl)); (focus (simp (maxSteps := 9999999) (disch := omega) only [go_sem, sg.ren, tb_ren, x32_not2]; first | done | trivial)); (focus (simp (maxSteps := 9999999) (disch := omega) only [go_sem, sg.ren, tb_ren, x32_not2]; rfl))) | (apply TailK.go; (focus (simp (maxSteps := 9999999) (disch := omega) only [go_sem, sg.ren, tb_ren, x32_not2]; rfl))) | refine AWpA.skip ?_ | refine AWpA.exit ?_ | refine AWpA.ret ?_ | (with_reducible refine ARoundsA.succ ?_) | ((first | refine Runs.kt (by assumption) (fun h9 => ?_) | refine Runs.kf (by assumption) (fun h9 => ?_) | refine Runs.nt (by assumption) (fun h9 => ?_) | refine Runs.nf (by assumption) (fun h9 => ?_) | refine CondP.ht (by assumption) (fun h9 => ?_) | refine CondP.hf (by assumption) (fun h9 => ?_) | refine CondP.nt (by assumption) (fun h9 => ?_) | refine CondP.nf (by assumption) (fun h9 => ?_)); (try simp only [h9]); clear h9) | ((first | (with_reducible apply CallG.plain1 [0] (do_any d)) | (with_reducible apply CallG.draw1 [0] (do_any d))); (focus ((try refine And.intro (leAs_of_eq rfl) ?_); (try refine And.intro (leOL_of_eq rfl) ?_); simp (maxSteps := 9999999) (disch := omega) only [go_sem, sg.ren, tb_ren, x32_not2]; first | done | (repeat' (first | rfl | (refine And.intro ?_ ?_))))); (focus (simp (maxSteps := 9999999) (disch := omega) only [go_sem, sg.ren, tb_ren, x32_not2]; rfl)))); (try simp (maxSteps := 9999999) (disch := omega) only [go_sem, sg.ren, tb_ren, x32_not2]); (try (refine And.intro ?_ ?_; (focus (first | omega | (simp only [go_sem]; done) | (simp; done) | (simp; omega) | assumption))))) | ((first | refine CondP.split (fun hif => ?_) (fun hif => ?_) | refine Runs.part (fun hif => ?_) (fun hif => ?_)) <;> ((try simp only [hif]); (try simp only [decide_eq_true_eq, decide_eq_false_iff_not, Bool.not_eq_true, Bool.not_eq_false, Bool.not_eq_true', Bool.not_eq_false', beq_iff_eq, bne_iff_ne, bne_eq_false_iff_eq, beq_eq_false_iff_ne, ne_eq, Bool.and_eq_true, Bool.or_eq_true, Bool.or_eq_false_iff] at hif); (try (have h9 : _ = true := hif; simp only [h9])); (try (have h9 : _ = false := hif; simp only [h9])); (try simp (maxSteps := 9999999) (disch := omega) only [go_sem, sg.ren, tb_ren, x32_not2]); (try (refine And.intro ?_ ?_; (focus (first | omega | (simp only [go_sem]; done) | (simp; done) | (simp; omega) | assumption)))); (try (exfalso; omega; done))))))
  (apply AWpA.loopL (fun i : Nat => [(0, .ptr 0 0), (7, U32 (upd (~~~ s) (l.take i)).toNat), (18, .sl 1 o l.length 1 none), (19, I l.length), (20, I i)]) (fun i => [.cells false (tb true), .cells true P]) (fun i => l.length - i) (fun i => i ≤ l.length) (0) [0, 1]; rotate_left; (focus (simp (maxSteps := 9999999) (disch := omega) only [go_sem, sg.ren, tb_ren, List.take_zero, upd_nil]; (try (repeat' (first | done | trivial | rfl | exact leAs_rfl _ | decide | (refine And.intro ?_ ?_) | (simp; done) | omega | (simp; decide)))))); rotate_right)
  · exact Nat.zero_le _
  rintro i hi
  (try simp only at hi)
  by_cases hin : i < l.length
  · have g1 : ((i : Int) < (l.length : Int)) = True := eq_true (by omega)
    have hb := hby l[i] (List.getElem_mem hin)
    have g2 : P.getD (o + i) .bad = .val (.int .u8 l[i]) := sg.byte i hin
    have g3 : l.take (i + 1) = l.take i ++ [l[i]] := by rw [List.take_add_one, List.getElem?_eq_getElem hin]; rfl
    generalize l[i] = c at hb g2 g3
    generalize hv : upd (~~~ s) (l.take i) = v
    have g4 : upd (~~~ s) (l.take (i + 1)) = mv (v ^^^ by8 c) := by rw [g3, upd_app, hv]; rfl
    have g5 := x8 v hb.1 hb.2
    have g6 := step_row v hb.1 hb.2
    have g7 := and255_lt (v ^^^ by8 c)
    have g8 := tb_get _ g7
    rw [BitVec.ofNat_toNat, BitVec.setWidth_eq] at g8
    have g9 := tb_len true
    generalize hx : ((v ^^^ by8 c) &&& 255#32) = x at g5 g6 g7 g8
    (try simp (maxSteps := 9999999) (disch := omega) only [go_sem])
    (repeat' (first | refine AWpA.seq ?_ | refine AWpA.block ?_ | (with_reducible refine CondP.tt ?_) | (with_reducible refine CondP.ff ?_) | refine AWpA.condv (by simp (maxSteps := 9999999) (disch := omega) only [go_sem, g1, sg.ren, tb_ren, g2, low8, g5, shr8, x32, g6, g8, g9]; rfl) ?_ | ((first | (apply AWpA.region; (focus (simp (maxSteps := 9999999) (disch := omega) only [go_sem, g1, sg.ren, tb_ren, g2, low8, g5, shr8, x32, g6, g8, g9]; rfl))) | (apply AWpA.draw [] [] follows; (focus (first | rfl | decide)); (focus (simp (maxSteps := 9999999) (disch := omega) only [go_sem, g1, sg.ren, tb_ren, g2, low8, g5, shr8, x32, g6, g8, g9]; rfl)); (focus (simp (maxSteps := 9999999) (disch := omega) only [go_sem, g1, sg.ren, tb_ren, g2, low8, g5, shr8, x32, g6, g8, g9]; first | done | trivial)); (focus (simp (maxSteps := 9999999) (disch := omega) only [go_sem, g1, sg.ren, tb_ren, g2, low8, g5, shr8, x32, g6, g8, g9]; rfl))) | (apply TailK.go; (focus (simp (maxSteps := 9999999) (disch := omega) only [go_sem, g1, sg.ren, tb_ren, g2, low8, g5, shr8, x32, g6, g8, g9]; rfl))) | refine AWpA.skip ?_ | refine AWpA.exit ?_ | refine AWpA.ret ?_ | (with_reducible refine ARoundsA.succ ?_) | ((first | refine Runs.kt (by assumption) (fun h9 => ?_) | refine Runs.kf (by assumption) (fun h9 => ?_) | refine Runs.nt (by assumption) (fun h9 => ?_) | refine Runs.nf (by assumption) (fun h9 => ?_) | refine CondP.ht (by assumption) (fun h9 => ?_) | refine CondP.hf (by assumption) (fun h9 => ?_) | refine CondP.nt (by assumption) (fun h9 => ?_) | refine CondP.nf (by assumption) (fun h9 => ?_)); (try simp only [h9]); clear h9)); (try simp (maxSteps := 9999999) (disch := omega) only [go_sem, g1, sg.ren, tb_ren, g2, low8, g5, shr8, x32, g6, g8, g9]); (try (refine And.intro ?_ ?_; (focus (first | omega | (simp only [go_sem]; done) | (simp; done) | (simp; omega) | assumption))))) | ((first | refine CondP.split (fun hif => ?_) (fun hif => ?_) | refine Runs.part (fun hif => ?_) (fun hif => ?_)) <;> ((try simp only [hif]); (try simp only [decide_eq_true_eq, decide_eq_false_iff_not, Bool.not_eq_true, Bool.not_eq_false, Bool.not_eq_true', Bool.not_eq_false', beq_iff_eq, bne_iff_ne, bne_eq_false_iff_eq, beq_eq_false_iff_ne, ne_eq, Bool.and_eq_true, Bool.or_eq_true, Bool.or_eq_false_iff] at hif); (try (have h9 : _ = true := hif; simp only [h9])); (try (have h9 : _ = false := hif; simp only [h9])); (try simp (maxSteps := 9999999) (disch := omega) only [go_sem, g1, sg.ren, tb_ren, g2, low8, g5, shr8, x32, g6, g8, g9]); (try (refine And.intro ?_ ?_; (focus (first | omega | (simp only [go_sem]; done) | (simp; done) | (simp; omega) | assumption)))); (try (exfalso; omega; done))))))
    (apply Back.to (i + 1) [0, 1]; (focus ((try simp (maxSteps := 9999999) (disch := omega) only [go_sem, g4, sg.ren, tb_ren]); first | done | omega)); rotate_left; (focus (simp (maxSteps := 9999999) (disch := omega) only [go_sem, g4, sg.ren, tb_ren]; (try (repeat' (first | done | trivial | rfl | exact leAs_rfl _ | decide | (refine And.intro ?_ ?_) | (simp; done) | omega | (simp; decide)))))))
    omega
  · obtain rfl : i = l.length := by omega
    (try simp (maxSteps := 9999999) (disch := omega) only [go_sem])
    (repeat' (first | refine AWpA.seq ?_ | refine AWpA.block ?_ | (with_reducible refine CondP.tt ?_) | (with_reducible refine CondP.ff ?_) | refine AWpA.condv (by simp (maxSteps := 9999999) (disch := omega) only [go_sem, x32_not2, List.take_length]; rfl) ?_ | ((first | (apply AWpA.region; (focus (simp (maxSteps := 9999999) (disch := omega) only [go_sem, x32_not2, List.take_length]; rfl))) | (apply AWpA.draw [] [] follows; (focus (first | rfl | decide)); (focus (simp (maxSteps := 9999999) (disch := omega) only [go_sem, x32_not2, List.take_length]; rfl)); (focus (simp (maxSteps := 9999999) (disch := omega) only [go_sem, x32_not2, List.take_length]; first | done | trivial)); (focus (simp (maxSteps := 9999999) (disch := omega) only [go_sem, x32_not2, List.take_length]; rfl))) | (apply TailK.go; (focus (simp (maxSteps := 9999999) (disch := omega) only [go_sem, x32_not2, List.take_length]; rfl))) | refine AWpA.skip ?_ | refine AWpA.exit ?_ | refine AWpA.ret ?_ | (with_reducible refine ARoundsA.succ ?_) | ((first | refine Runs.kt (by assumption) (fun h9 => ?_) | refine Runs.kf (by assumption) (fun h9 => ?_) | refine Runs.nt (by assumption) (fun h9 => ?_) | refine Runs.nf (by assumption) (fun h9 => ?_) | refine CondP.ht (by assumption) (fun h9 => ?_) | refine CondP.hf (by assumption) (fun h9 => ?_) | refine CondP.nt (by assumption) (fun h9 => ?_) | refine CondP.nf (by assumption) (fun h9 => ?_)); (try simp only [h9]); clear h9)); (try simp (maxSteps := 9999999) (disch := omega) only [go_sem, x32_not2, List.take_length]); (try (refine And.intro ?_ ?_; (focus (first | omega | (simp only [go_sem]; done) | (simp; done) | (simp; omega) | assumption))))) | ((first | refine CondP.split (fun hif => ?_) (fun hif => ?_) | refine Runs.part (fun hif => ?_) (fun hif => ?_)) <;> ((try simp only [hif]); (try simp only [decide_eq_true_eq, decide_eq_false_iff_not, Bool.not_eq_true, Bool.not_eq_false, Bool.not_eq_true', Bool.not_eq_false', beq_iff_eq, bne_iff_ne, bne_eq_false_iff_eq, beq_eq_false_iff_ne, ne_eq, Bool.and_eq_true, Bool.or_eq_true, Bool.or_eq_false_iff] at hif); (try (have h9 : _ = true := hif; simp only [h9])); (try (have h9 : _ = false := hif; simp only [h9])); (try simp (maxSteps := 9999999) (disch := omega) only [go_sem, x32_not2, List.take_length]); (try (refine And.intro ?_ ?_; (focus (first | omega | (simp only [go_sem]; done) | (simp; done) | (simp; omega) | assumption)))); (try (exfalso; omega; done))))))
    (apply Ret.det [0, 1]; (focus (first | exact .inl rfl | exact .inr rfl)); (focus (simp (maxSteps := 9999999) (disch := omega) only [go_sem, sg.ren, tb_ren, more]; rfl)); (simp (maxSteps := 9999999) (disch := omega) only [go_sem, sg.ren, tb_ren, more]; (try (repeat' (first | done | trivial | rfl | exact leAs_rfl _ | decide | (refine And.intro ?_ ?_) | (simp; done) | omega | (simp; decide))))))
theorem rmore_any (s : R) {P : List AV} {o : Nat} {l : List Int} (sg : Seg P o l) (hby : ∀ x ∈ l, 0 ≤ x ∧ x ≤ 255) :
    ACall Try.prog 33 [U32 s.toNat, .sl 0 o l.length 1 none] [.cells true P] (Det (U32 (more s l).toNat) [.cells true P]) := by
  have hle := sg.le
  have hsm := sg.small
  refine ACall.startA c33_ok Try.func33 rfl Try.ntmps33 (by kernel_rfl) res33_ok rfl rfl rfl ?_; simp (maxSteps := 9999999) (disch := omega) only [go_sem]
  (repeat' (first | refine AWpA.seq ?_ | refine AWpA.block ?_ | (with_reducible refine CondP.tt ?_) | (with_reducible refine CondP.ff ?_) | refine AWpA.condv (by simp (maxSteps := 9999999) (disch := omega) only [go_sem, sg.ren]; rfl) ?_ | ((first | (apply AWpA.region; (focus (simp (maxSteps := 9999999) (disch := omega) only [go_sem, sg.ren]; rfl))) | (apply AWpA.draw [] [] follows; (focus (first | rfl | decide)); (focus (simp (maxSteps := 9999999) (disch := omega) only [go_sem, sg.ren]; rfl)); (focus (simp (maxSteps := 9999999) (disch := omega) only [go_sem, sg.ren]; first | done | trivial)); (focus (simp (maxSteps := 9999999) (disch := omega) only [go_sem, sg.ren]; rfl))) | (apply TailK.go; (focus (simp (maxSteps := 9999999) (disch := omega) only [go_sem, sg.ren]; rfl))) | refine AWpA.skip ?_ | refine AWpA.exit ?_ | refine AWpA.ret ?_ | (with_reducible refine ARoundsA.succ ?_) | ((first | refine Runs.kt (by assumption) (fun h9 => ?_) | refine Runs.kf (by assumption) (fun h9 => ?_) | refine Runs.nt (by assumption) (fun h9 => ?_) | refine Runs.nf (by assumption) (fun h9 => ?_) | refine CondP.ht (by assumption) (fun h9 => ?_) | refine CondP.hf (by assumption) (fun h9 => ?_) | refine CondP.nt (by assumption) (fun h9 => ?_) | refine CondP.nf (by assumption) (fun h9 => ?_)); (try simp only [h9]); clear h9) | ((first | (with_reducible apply CallG.plain1 [] (turned_any s)) | (with_reducible apply CallG.draw1 [] (turned_any s))); (focus ((try refine And.intro (leAs_of_eq rfl) ?_); (try refine And.intro (leOL_of_eq rfl) ?_); simp (maxSteps := 9999999) (disch := omega) only [go_sem, sg.ren]; first | done | (repeat' (first | rfl | (refine And.intro ?_ ?_))))); (focus (simp (maxSteps := 9999999) (disch := omega) only [go_sem, sg.ren]; rfl)))); (try simp (maxSteps := 9999999) (disch := omega) only [go_sem, sg.ren]); (try (refine And.intro ?_ ?_; (focus (first | omega | (simp only [go_sem]; done) | (simp; done) | (simp; omega) | assumption))))) | ((first | refine CondP.split (fun hif => ?_) (fun hif => ?_) | refine Runs.part (fun hif => ?_) (fun hif => ?_)) <;> ((try simp only [hif]); (try simp only [decide_eq_true_eq, decide_eq_false_iff_not, Bool.not_eq_true, Bool.not_eq_false, Bool.not_eq_true', Bool.not_eq_false', beq_iff_eq, bne_iff_ne, bne_eq_false_iff_eq, beq_eq_false_iff_ne, ne_eq, Bool.and_eq_true, Bool.or_eq_true, Bool.or_eq_false_iff] at hif); (try (have h9 : _ = true := hif; simp only [h9])); (try (have h9 : _ = false := hif; simp only [h9])); (try simp (maxSteps := 9999999) (disch := omega) only [go_sem, sg.ren]); (try (refine And.intro ?_ ?_; (focus (first | omega | (simp only [go_sem]; done) | (simp; done) | (simp; omega) | assumption)))); (try (exfalso; omega; done))))))
  (apply AWpA.loopL (fun i : Nat => [(1, .sl 0 o l.length 1 none), (5, U32 (upd (~~~ s) (l.take i)).toNat), (6, I i)]) (fun i => [.cells true P]) (fun i => l.length - i) (fun i => i ≤ l.length) (0) [0]; rotate_left; (focus (simp (maxSteps := 9999999) (disch := omega) only [go_sem, sg.ren, List.take_zero, upd_nil]; (try (repeat' (first | done | trivial | rfl | exact leAs_rfl _ | decide | (refine And.intro ?_ ?_) | (simp; done) | omega | (simp; decide)))))); rotate_right)
  · exact Nat.zero_le _
  rintro i hi
  (try simp only at hi)
  by_cases hin : i < l.length
  · have g1 : ((i : Int) < (l.length : Int)) = True := eq_true (by omega)
    have hb := hby l[i] (List.getElem_mem hin)
    have g2 : P.getD (o + i) .bad = .val (.int .u8 l[i]) := sg.byte i hin
    have g3 : l.take (i + 1) = l.take i ++ [l[i]] := by rw [List.take_add_one, List.getElem?_eq_getElem hin]; rfl
    generalize l[i] = c at hb g2 g3
    generalize hv : upd (~~~ s) (l.take i) = v
    have g4 : upd (~~~ s) (l.take (i + 1)) = mv (v ^^^ by8 c) := by rw [g3, upd_app, hv]; rfl
    have g5 := conv_by8 hb.1 hb.2
    (try simp (maxSteps := 9999999) (disch := omega) only [go_sem])
    (repeat' (first | refine AWpA.seq ?_ | refine AWpA.block ?_ | (with_reducible refine CondP.tt ?_) | (with_reducible refine CondP.ff ?_) | refine AWpA.condv (by simp (maxSteps := 9999999) (disch := omega) only [go_sem, g1, sg.ren, g2, g5, x32]; rfl) ?_ | ((first | (apply AWpA.region; (focus (simp (maxSteps := 9999999) (disch := omega) only [go_sem, g1, sg.ren, g2, g5, x32]; rfl))) | (apply AWpA.draw [] [] follows; (focus (first | rfl | decide)); (focus (simp (maxSteps := 9999999) (disch := omega) only [go_sem, g1, sg.ren, g2, g5, x32]; rfl)); (focus (simp (maxSteps := 9999999) (disch := omega) only [go_sem, g1, sg.ren, g2, g5, x32]; first | done | trivial)); (focus (simp (maxSteps := 9999999) (disch := omega) only [go_sem, g1, sg.ren, g2, g5, x32]; rfl))) | (apply TailK.go; (focus (simp (maxSteps := 9999999) (disch := omega) only [go_sem, g1, sg.ren, g2, g5, x32]; rfl))) | refine AWpA.skip ?_ | refine AWpA.exit ?_ | refine AWpA.ret ?_ | (with_reducible refine ARoundsA.succ ?_) | ((first | refine Runs.kt (by assumption) (fun h9 => ?_) | refine Runs.kf (by assumption) (fun h9 => ?_) | refine Runs.nt (by assumption) (fun h9 => ?_) | refine Runs.nf (by assumption) (fun h9 => ?_) | refine CondP.ht (by assumption) (fun h9 => ?_) | refine CondP.hf (by assumption) (fun h9 => ?_) | refine CondP.nt (by assumption) (fun h9 => ?_) | refine CondP.nf (by assumption) (fun h9 => ?_)); (try simp only [h9]); clear h9) | ((first | (with_reducible apply CallG.plain1 [] (moved_any (v ^^^ by8 c))) | (with_reducible apply CallG.draw1 [] (moved_any (v ^^^ by8 c)))); (focus ((try refine And.intro (leAs_of_eq rfl) ?_); (try refine And.intro (leOL_of_eq rfl) ?_); simp (maxSteps := 9999999) (disch := omega) only [go_sem, g1, sg.ren, g2, g5, x32]; first | done | (repeat' (first | rfl | (refine And.intro ?_ ?_))))); (focus (simp (maxSteps := 9999999) (disch := omega) only [go_sem, g1, sg.ren, g2, g5, x32]; rfl)))); (try simp (maxSteps := 9999999) (disch := omega) only [go_sem, g1, sg.ren, g2, g5, x32]); (try (refine And.intro ?_ ?_; (focus (first | omega | (simp only [go_sem]; done) | (simp; done) | (simp; omega) | assumption))))) | ((first | refine CondP.split (fun hif => ?_) (fun hif => ?_) | refine Runs.part (fun hif => ?_) (fun hif => ?_)) <;> ((try simp only [hif]); (try simp only [decide_eq_true_eq, decide_eq_false_iff_not, Bool.not_eq_true, Bool.not_eq_false, Bool.not_eq_true', Bool.not_eq_false', beq_iff_eq, bne_iff_ne, bne_eq_false_iff_eq, beq_eq_false_iff_ne, ne_eq, Bool.and_eq_true, Bool.or_eq_true, Bool.or_eq_false_iff] at hif); (try (have h9 : _ = true := hif; simp only [h9])); (try (have h9 : _ = false := hif; simp only [h9])); (try simp (maxSteps := 9999999) (disch := omega) only [go_sem, g1, sg.ren, g2, g5, x32]); (try (refine And.intro ?_ ?_; (focus (first | omega | (simp only [go_sem]; done) | (simp; done) | (simp; omega) | assumption)))); (try (exfalso; omega; done))))))
    (apply Back.to (i + 1) [0]; (focus ((try simp (maxSteps := 9999999) (disch := omega) only [go_sem, g4, sg.ren]); first | done | omega)); rotate_left; (focus (simp (maxSteps := 9999999) (disch := omega) only [go_sem, g4, sg.ren]; (try (repeat' (first | done | trivial | rfl | exact leAs_rfl _ | decide | (refine And.intro ?_ ?_) | (simp; done) | omega | (simp; decide)))))))
    omega
  · obtain rfl : i = l.length := by omega
    (try simp (maxSteps := 9999999) (disch := omega) only [go_sem])
    (repeat' (first | refine AWpA.seq ?_ | refine AWpA.block ?_ | (with_reducible refine CondP.tt ?_) | (with_reducible refine CondP.ff ?_) | refine AWpA.condv (by simp (maxSteps := 9999999) (disch := omega) only [go_sem, List.take_length]; rfl) ?_ | ((first | (apply AWpA.region; (focus (simp (maxSteps := 9999999) (disch := omega) only [go_sem, List.take_length]; rfl))) | (apply AWpA.draw [] [] follows; (focus (first | rfl | decide)); (focus (simp (maxSteps := 9999999) (disch := omega) only [go_sem, List.take_length]; rfl)); (focus (simp (maxSteps := 9999999) (disch := omega) only [go_sem, List.take_length]; first | done | trivial)); (focus (simp (maxSteps := 9999999) (disch := omega) only [go_sem, List.take_length]; rfl))) | (apply TailK.go; (focus (simp (maxSteps := 9999999) (disch := omega) only [go_sem, List.take_length]; rfl))) | refine AWpA.skip ?_ | refine AWpA.exit ?_ | refine AWpA.ret ?_ | (with_reducible refine ARoundsA.succ ?_) | ((first | refine Runs.kt (by assumption) (fun h9 => ?_) | refine Runs.kf (by assumption) (fun h9 => ?_) | refine Runs.nt (by assumption) (fun h9 => ?_) | refine Runs.nf (by assumption) (fun h9 => ?_) | refine CondP.ht (by assumption) (fun h9 => ?_) | refine CondP.hf (by assumption) (fun h9 => ?_) | refine CondP.nt (by assumption) (fun h9 => ?_) | refine CondP.nf (by assumption) (fun h9 => ?_)); (try simp only [h9]); clear h9) | ((first | (with_reducible apply CallG.plain1 [] (turned_any (upd (~~~ s) l))) | (with_reducible apply CallG.draw1 [] (turned_any (upd (~~~ s) l)))); (focus ((try refine And.intro (leAs_of_eq rfl) ?_); (try refine And.intro (leOL_of_eq rfl) ?_); simp (maxSteps := 9999999) (disch := omega) only [go_sem, List.take_length]; first | done | (repeat' (first | rfl | (refine And.intro ?_ ?_))))); (focus (simp (maxSteps := 9999999) (disch := omega) only [go_sem, List.take_length]; rfl)))); (try simp (maxSteps := 9999999) (disch := omega) only [go_sem, List.take_length]); (try (refine And.intro ?_ ?_; (focus (first | omega | (simp only [go_sem]; done) | (simp; done) | (simp; omega) | assumption))))) | ((first | refine CondP.split (fun hif => ?_) (fun hif => ?_) | refine Runs.part (fun hif => ?_) (fun hif => ?_)) <;> ((try simp only [hif]); (try simp only [decide_eq_true_eq, decide_eq_false_iff_not, Bool.not_eq_true, Bool.not_eq_false, Bool.not_eq_true', Bool.not_eq_false', beq_iff_eq, bne_iff_ne, bne_eq_false_iff_eq, beq_eq_false_iff_ne, ne_eq, Bool.and_eq_true, Bool.or_eq_true, Bool.or_eq_false_iff] at hif); (try (have h9 : _ = true := hif; simp only [h9])); (try (have h9 : _ = false := hif; simp only [h9])); (try simp (maxSteps := 9999999) (disch := omega) only [go_sem, List.take_length]); (try (refine And.intro ?_ ?_; (focus (first | omega | (simp only [go_sem]; done) | (simp; done) | (simp; omega) | assumption)))); (try (exfalso; omega; done))))))
    (apply Ret.det [0]; (focus (first | exact .inl rfl | exact .inr rfl)); (focus (simp (maxSteps := 9999999) (disch := omega) only [go_sem, sg.ren, more]; rfl)); (simp (maxSteps := 9999999) (disch := omega) only [go_sem, sg.ren, more]; (try (repeat' (first | done | trivial | rfl | exact leAs_rfl _ | decide | (refine And.intro ?_ ?_) | (simp; done) | omega | (simp; decide))))))
theorem rsum_any {P : List AV} {o : Nat} {l : List Int} (sg : Seg P o l) (hby : ∀ x ∈ l, 0 ≤ x ∧ x ≤ 255) :
    ACall Try.prog 32 [.sl 0 o l.length 1 none] [.cells true P] (Det (U32 (sum l).toNat) [.cells true P]) := by
  have h := rmore_any 0#32 sg hby
  simp only [show ((0#32).toNat : Int) = 0 from rfl] at h
  refine ACall.startA c32_ok Try.func32 rfl Try.ntmps32 (by kernel_rfl) res32_ok rfl rfl rfl ?_; simp (maxSteps := 9999999) (disch := omega) only [go_sem]
  (repeat' (first | refine AWpA.seq ?_ | refine AWpA.block ?_ | (with_reducible refine CondP.tt ?_) | (with_reducible refine CondP.ff ?_) | refine AWpA.condv (by simp (maxSteps := 9999999) (disch := omega) only [go_sem, sg.ren]; rfl) ?_ | ((first | (apply AWpA.region; (focus (simp (maxSteps := 9999999) (disch := omega) only [go_sem, sg.ren]; rfl))) | (apply AWpA.draw [] [] follows; (focus (first | rfl | decide)); (focus (simp (maxSteps := 9999999) (disch := omega) only [go_sem, sg.ren]; rfl)); (focus (simp (maxSteps := 9999999) (disch := omega) only [go_sem, sg.ren]; first | done | trivial)); (focus (simp (maxSteps := 9999999) (disch := omega) only [go_sem, sg.ren]; rfl))) | (apply TailK.go; (focus (simp (maxSteps := 9999999) (disch := omega) only [go_sem, sg.ren]; rfl))) | refine AWpA.skip ?_ | refine AWpA.exit ?_ | refine AWpA.ret ?_ | (with_reducible refine ARoundsA.succ ?_) | ((first | refine Runs.kt (by assumption) (fun h9 => ?_) | refine Runs.kf (by assumption) (fun h9 => ?_) | refine Runs.nt (by assumption) (fun h9 => ?_) | refine Runs.nf (by assumption) (fun h9 => ?_) | refine CondP.ht (by assumption) (fun h9 => ?_) | refine CondP.hf (by assumption) (fun h9 => ?_) | refine CondP.nt (by assumption) (fun h9 => ?_) | refine CondP.nf (by assumption) (fun h9 => ?_)); (try simp only [h9]); clear h9) | ((first | (with_reducible apply CallG.plain1 [0] (h)) | (with_reducible apply CallG.draw1 [0] (h))); (focus ((try refine And.intro (leAs_of_eq rfl) ?_); (try refine And.intro (leOL_of_eq rfl) ?_); simp (maxSteps := 9999999) (disch := omega) only [go_sem, sg.ren]; first | done | (repeat' (first | rfl | (refine And.intro ?_ ?_))))); (focus (simp (maxSteps := 9999999) (disch := omega) only [go_sem, sg.ren]; rfl)))); (try simp (maxSteps := 9999999) (disch := omega) only [go_sem, sg.ren]); (try (refine And.intro ?_ ?_; (focus (first | omega | (simp only [go_sem]; done) | (simp; done) | (simp; omega) | assumption))))) | ((first | refine CondP.split (fun hif => ?_) (fun hif => ?_) | refine Runs.part (fun hif => ?_) (fun hif => ?_)) <;> ((try simp only [hif]); (try simp only [decide_eq_true_eq, decide_eq_false_iff_not, Bool.not_eq_true, Bool.not_eq_false, Bool.not_eq_true', Bool.not_eq_false', beq_iff_eq, bne_iff_ne, bne_eq_false_iff_eq, beq_eq_false_iff_ne, ne_eq, Bool.and_eq_true, Bool.or_eq_true, Bool.or_eq_false_iff] at hif); (try (have h9 : _ = true := hif; simp only [h9])); (try (have h9 : _ = false := hif; simp only [h9])); (try simp (maxSteps := 9999999) (disch := omega) only [go_sem, sg.ren]); (try (refine And.intro ?_ ?_; (focus (first | omega | (simp only [go_sem]; done) | (simp; done) | (simp; omega) | assumption)))); (try (exfalso; omega; done))))))
  (apply Ret.det [0]; (focus (first | exact .inl rfl | exact .inr rfl)); (focus (simp (maxSteps := 9999999) (disch := omega) only [go_sem, sg.ren, sum]; rfl)); (simp (maxSteps := 9999999) (disch := omega) only [go_sem, sg.ren, sum]; (try (repeat' (first | done | trivial | rfl | exact leAs_rfl _ | decide | (refine And.intro ?_ ?_) | (simp; done) | omega | (simp; decide))))))
theorem row_any (d : Bool) (n : Nat) (hn : n < 256) :
    ACall Try.prog 30 [.ptr 0 0, I n] [.cells false (tb d)] (Det (U32 (mv (BitVec.ofNat 32 n)).toNat) [.cells false (tb true)]) := by
  have g8 := tb_get n hn
  have g9 := tb_len true
  have g1 : (n : Int).toNat = n := by omega
  refine ACall.startA c30_ok Try.func30 rfl Try.ntmps30 (by kernel_rfl) res30_ok rfl rfl rfl ?_; simp (maxSteps := 9999999) (disch := omega) only [go_sem]
  (repeat' (first | refine AWpA.seq ?_ | refine AWpA.block ?_ | (with_reducible refine CondP.tt ?_) | (with_reducible refine CondP.ff ?_) | refine AWpA.condv (by simp (maxSteps := 9999999) (disch := omega) only [go_sem, tb_ren, g8, g9, g1]; rfl) ?_ | ((first | (apply AWpA.region; (focus (simp (maxSteps := 9999999) (disch := omega) only [go_sem, tb_ren, g8, g9, g1]; rfl))) | (apply AWpA.draw [] [] follows; (focus (first | rfl | decide)); (focus (simp (maxSteps := 9999999) (disch := omega) only [go_sem, tb_ren, g8, g9, g1]; rfl)); (focus (simp (maxSteps := 9999999) (disch := omega) only [go_sem, tb_ren, g8, g9, g1]; first | done | trivial)); (focus (simp (maxSteps := 9999999) (disch := omega) only [go_sem, tb_ren, g8, g9, g1]; rfl))) | (apply TailK.go; (focus (simp (maxSteps := 9999999) (disch := omega) only [go_sem, tb_ren, g8, g9, g1]; rfl))) | refine AWpA.skip ?_ | refine AWpA.exit ?_ | refine AWpA.ret ?_ | (with_reducible refine ARoundsA.succ ?_) | ((first | refine Runs.kt (by assumption) (fun h9 => ?_) | refine Runs.kf (by assumption) (fun h9 => ?_) | refine Runs.nt (by assumption) (fun h9 => ?_) | refine Runs.nf (by assumption) (fun h9 => ?_) | refine CondP.ht (by assumption) (fun h9 => ?_) | refine CondP.hf (by assumption) (fun h9 => ?_) | refine CondP.nt (by assumption) (fun h9 => ?_) | refine CondP.nf (by assumption) (fun h9 => ?_)); (try simp only [h9]); clear h9) | ((first | (with_reducible apply CallG.plain1 [0] (do_any d)) | (with_reducible apply CallG.draw1 [0] (do_any d))); (focus ((try refine And.intro (leAs_of_eq rfl) ?_); (try refine And.intro (leOL_of_eq rfl) ?_); simp (maxSteps := 9999999) (disch := omega) only [go_sem, tb_ren, g8, g9, g1]; first | done | (repeat' (first | rfl | (refine And.intro ?_ ?_))))); (focus (simp (maxSteps := 9999999) (disch := omega) only [go_sem, tb_ren, g8, g9, g1]; rfl)))); (try simp (maxSteps := 9999999) (disch := omega) only [go_sem, tb_ren, g8, g9, g1]); (try (refine And.intro ?_ ?_; (focus (first | omega | (simp only [go_sem]; done) | (simp; done) | (simp; omega) | assumption))))) | ((first | refine CondP.split (fun hif => ?_) (fun hif => ?_) | refine Runs.part (fun hif => ?_) (fun hif => ?_)) <;> ((try simp only [hif]); (try simp only [decide_eq_true_eq, decide_eq_false_iff_not, Bool.not_eq_true, Bool.not_eq_false, Bool.not_eq_true', Bool.not_eq_false', beq_iff_eq, bne_iff_ne, bne_eq_false_iff_eq, beq_eq_false_iff_ne, ne_eq, Bool.and_eq_true, Bool.or_eq_true, Bool.or_eq_false_iff] at hif); (try (have h9 : _ = true := hif; simp only [h9])); (try (have h9 : _ = false := hif; simp only [h9])); (try simp (maxSteps := 9999999) (disch := omega) only [go_sem, tb_ren, g8, g9, g1]); (try (refine And.intro ?_ ?_; (focus (first | omega | (simp only [go_sem]; done) | (simp; done) | (simp; omega) | assumption)))); (try (exfalso; omega; done))))))
  (apply Ret.det [0]; (focus (first | exact .inl rfl | exact .inr rfl)); (focus (simp (maxSteps := 9999999) (disch := omega) only [go_sem, tb_ren]; rfl)); (simp (maxSteps := 9999999) (disch := omega) only [go_sem, tb_ren]; (try (repeat' (first | done | trivial | rfl | exact leAs_rfl _ | decide | (refine And.intro ?_ ?_) | (simp; done) | omega | (simp; decide))))))
theorem row_out (i : Int) (h : i < 0 ∨ 255 < i) (l : List AV) (hren : ∀ ρ, renL ρ l = l) :
    ACall Try.prog 30 [.ptr 0 0, I i] [.cells true l] (Det (U32 0) [.cells true l]) := by
  refine ACall.startA c30_ok Try.func30 rfl Try.ntmps30 (by kernel_rfl) res30_ok rfl rfl rfl ?_; simp (maxSteps := 9999999) (disch := omega) only [go_sem]
  rcases h with h | h
  · have g1 : (i < 0) = True := eq_true h
    (repeat' (first | refine AWpA.seq ?_ | refine AWpA.block ?_ | (with_reducible refine CondP.tt ?_) | (with_reducible refine CondP.ff ?_) | refine AWpA.condv (by simp (maxSteps := 9999999) (disch := omega) only [go_sem, g1]; rfl) ?_ | ((first | (apply AWpA.region; (focus (simp (maxSteps := 9999999) (disch := omega) only [go_sem, g1]; rfl))) | (apply AWpA.draw [] [] follows; (focus (first | rfl | decide)); (focus (simp (maxSteps := 9999999) (disch := omega) only [go_sem, g1]; rfl)); (focus (simp (maxSteps := 9999999) (disch := omega) only [go_sem, g1]; first | done | trivial)); (focus (simp (maxSteps := 9999999) (disch := omega) only [go_sem, g1]; rfl))) | (apply TailK.go; (focus (simp (maxSteps := 9999999) (disch := omega) only [go_sem, g1]; rfl))) | refine AWpA.skip ?_ | refine AWpA.exit ?_ | refine AWpA.ret ?_ | (with_reducible refine ARoundsA.succ ?_) | ((first | refine Runs.kt (by assumption) (fun h9 => ?_) | refine Runs.kf (by assumption) (fun h9 => ?_) | refine Runs.nt (by assumption) (fun h9 => ?_) | refine Runs.nf (by assumption) (fun h9 => ?_) | refine CondP.ht (by assumption) (fun h9 => ?_) | refine CondP.hf (by assumption) (fun h9 => ?_) | refine CondP.nt (by assumption) (fun h9 => ?_) | refine CondP.nf (by assumption) (fun h9 => ?_)); (try simp only [h9]); clear h9)); (try simp (maxSteps := 9999999) (disch := omega) only [go_sem, g1]); (try (refine And.intro ?_ ?_; (focus (first | omega | (simp only [go_sem]; done) | (simp; done) | (simp; omega) | assumption))))) | ((first | refine CondP.split (fun hif => ?_) (fun hif => ?_) | refine Runs.part (fun hif => ?_) (fun hif => ?_)) <;> ((try simp only [hif]); (try simp only [decide_eq_true_eq, decide_eq_false_iff_not, Bool.not_eq_true, Bool.not_eq_false, Bool.not_eq_true', Bool.not_eq_false', beq_iff_eq, bne_iff_ne, bne_eq_false_iff_eq, beq_eq_false_iff_ne, ne_eq, Bool.and_eq_true, Bool.or_eq_true, Bool.or_eq_false_iff] at hif); (try (have h9 : _ = true := hif; simp only [h9])); (try (have h9 : _ = false := hif; simp only [h9])); (try simp (maxSteps := 9999999) (disch := omega) only [go_sem, g1]); (try (refine And.intro ?_ ?_; (focus (first | omega | (simp only [go_sem]; done) | (simp; done) | (simp; omega) | assumption)))); (try (exfalso; omega; done))))))
    (apply Ret.det [0]; (focus (first | exact .inl rfl | exact .inr rfl)); (focus (simp (maxSteps := 9999999) (disch := omega) only [go_sem, hren]; rfl)); (simp (maxSteps := 9999999) (disch := omega) only [go_sem, hren]; (try (repeat' (first | done | trivial | rfl | exact leAs_rfl _ | decide | (refine And.intro ?_ ?_) | (simp; done) | omega | (simp; decide))))))
  · have g1 : (i < 0) = False := eq_false (by omega)
    have g2 : (256 ≤ i) = True := eq_true (by omega)
    (repeat' (first | refine AWpA.seq ?_ | refine AWpA.block ?_ | (with_reducible refine CondP.tt ?_) | (with_reducible refine CondP.ff ?_) | refine AWpA.condv (by simp (maxSteps := 9999999) (disch := omega) only [go_sem, g1, g2]; rfl) ?_ | ((first | (apply AWpA.region; (focus (simp (maxSteps := 9999999) (disch := omega) only [go_sem, g1, g2]; rfl))) | (apply AWpA.draw [] [] follows; (focus (first | rfl | decide)); (focus (simp (maxSteps := 9999999) (disch := omega) only [go_sem, g1, g2]; rfl)); (focus (simp (maxSteps := 9999999) (disch := omega) only [go_sem, g1, g2]; first | done | trivial)); (focus (simp (maxSteps := 9999999) (disch := omega) only [go_sem, g1, g2]; rfl))) | (apply TailK.go; (focus (simp (maxSteps := 9999999) (disch := omega) only [go_sem, g1, g2]; rfl))) | refine AWpA.skip ?_ | refine AWpA.exit ?_ | refine AWpA.ret ?_ | (with_reducible refine ARoundsA.succ ?_) | ((first | refine Runs.kt (by assumption) (fun h9 => ?_) | refine Runs.kf (by assumption) (fun h9 => ?_) | refine Runs.nt (by assumption) (fun h9 => ?_) | refine Runs.nf (by assumption) (fun h9 => ?_) | refine CondP.ht (by assumption) (fun h9 => ?_) | refine CondP.hf (by assumption) (fun h9 => ?_) | refine CondP.nt (by assumption) (fun h9 => ?_) | refine CondP.nf (by assumption) (fun h9 => ?_)); (try simp only [h9]); clear h9)); (try simp (maxSteps := 9999999) (disch := omega) only [go_sem, g1, g2]); (try (refine And.intro ?_ ?_; (focus (first | omega | (simp only [go_sem]; done) | (simp; done) | (simp; omega) | assumption))))) | ((first | refine CondP.split (fun hif => ?_) (fun hif => ?_) | refine Runs.part (fun hif => ?_) (fun hif => ?_)) <;> ((try simp only [hif]); (try simp only [decide_eq_true_eq, decide_eq_false_iff_not, Bool.not_eq_true, Bool.not_eq_false, Bool.not_eq_true', Bool.not_eq_false', beq_iff_eq, bne_iff_ne, bne_eq_false_iff_eq, beq_eq_false_iff_ne, ne_eq, Bool.and_eq_true, Bool.or_eq_true, Bool.or_eq_false_iff] at hif); (try (have h9 : _ = true := hif; simp only [h9])); (try (have h9 : _ = false := hif; simp only [h9])); (try simp (maxSteps := 9999999) (disch := omega) only [go_sem, g1, g2]); (try (refine And.intro ?_ ?_; (focus (first | omega | (simp only [go_sem]; done) | (simp; done) | (simp; omega) | assumption)))); (try (exfalso; omega; done))))))
    (apply Ret.det [0]; (focus (first | exact .inl rfl | exact .inr rfl)); (focus (simp (maxSteps := 9999999) (disch := omega) only [go_sem, hren]; rfl)); (simp (maxSteps := 9999999) (disch := omega) only [go_sem, hren]; (try (repeat' (first | done | trivial | rfl | exact leAs_rfl _ | decide | (refine And.intro ?_ ?_) | (simp; done) | omega | (simp; decide))))))
theorem rrow_any (n : Nat) (hn : n < 256) :
    ACall Try.prog 31 [I n] [] (Det (U32 (mv (BitVec.ofNat 32 n)).toNat) []) := by
  have g3 : IntKind.u32.wrap (n : Int) = ((BitVec.ofNat 32 n).toNat : Int) := by
    simp only [BitVec.toNat_ofNat, IntKind.wrap, IntKind.bits, IntKind.signed]; simp
  refine ACall.startA c31_ok Try.func31 rfl Try.ntmps31 (by kernel_rfl) res31_ok rfl rfl rfl ?_; simp (maxSteps := 9999999) (disch := omega) only [go_sem]
  (repeat' (first | refine AWpA.seq ?_ | refine AWpA.block ?_ | (with_reducible refine CondP.tt ?_) | (with_reducible refine CondP.ff ?_) | refine AWpA.condv (by simp (maxSteps := 9999999) (disch := omega) only [go_sem, g3]; rfl) ?_ | ((first | (apply AWpA.region; (focus (simp (maxSteps := 9999999) (disch := omega) only [go_sem, g3]; rfl))) | (apply AWpA.draw [] [] follows; (focus (first | rfl | decide)); (focus (simp (maxSteps := 9999999) (disch := omega) only [go_sem, g3]; rfl)); (focus (simp (maxSteps := 9999999) (disch := omega) only [go_sem, g3]; first | done | trivial)); (focus (simp (maxSteps := 9999999) (disch := omega) only [go_sem, g3]; rfl))) | (apply TailK.go; (focus (simp (maxSteps := 9999999) (disch := omega) only [go_sem, g3]; rfl))) | refine AWpA.skip ?_ | refine AWpA.exit ?_ | refine AWpA.ret ?_ | (with_reducible refine ARoundsA.succ ?_) | ((first | refine Runs.kt (by assumption) (fun h9 => ?_) | refine Runs.kf (by assumption) (fun h9 => ?_) | refine Runs.nt (by assumption) (fun h9 => ?_) | refine Runs.nf (by assumption) (fun h9 => ?_) | refine CondP.ht (by assumption) (fun h9 => ?_) | refine CondP.hf (by assumption) (fun h9 => ?_) | refine CondP.nt (by assumption) (fun h9 => ?_) | refine CondP.nf (by assumption) (fun h9 => ?_)); (try simp only [h9]); clear h9) | ((first | (with_reducible apply CallG.plain1 [] (moved_any _)) | (with_reducible apply CallG.draw1 [] (moved_any _))); (focus ((try refine And.intro (leAs_of_eq rfl) ?_); (try refine And.intro (leOL_of_eq rfl) ?_); simp (maxSteps := 9999999) (disch := omega) only [go_sem, g3]; first | done | (repeat' (first | rfl | (refine And.intro ?_ ?_))))); (focus (simp (maxSteps := 9999999) (disch := omega) only [go_sem, g3]; rfl)))); (try simp (maxSteps := 9999999) (disch := omega) only [go_sem, g3]); (try (refine And.intro ?_ ?_; (focus (first | omega | (simp only [go_sem]; done) | (simp; done) | (simp; omega) | assumption))))) | ((first | refine CondP.split (fun hif => ?_) (fun hif => ?_) | refine Runs.part (fun hif => ?_) (fun hif => ?_)) <;> ((try simp only [hif]); (try simp only [decide_eq_true_eq, decide_eq_false_iff_not, Bool.not_eq_true, Bool.not_eq_false, Bool.not_eq_true', Bool.not_eq_false', beq_iff_eq, bne_iff_ne, bne_eq_false_iff_eq, beq_eq_false_iff_ne, ne_eq, Bool.and_eq_true, Bool.or_eq_true, Bool.or_eq_false_iff] at hif); (try (have h9 : _ = true := hif; simp only [h9])); (try (have h9 : _ = false := hif; simp only [h9])); (try simp (maxSteps := 9999999) (disch := omega) only [go_sem, g3]); (try (refine And.intro ?_ ?_; (focus (first | omega | (simp only [go_sem]; done) | (simp; done) | (simp; omega) | assumption)))); (try (exfalso; omega; done))))))
  (apply Ret.det []; (focus (first | exact .inl rfl | exact .inr rfl)); (focus (simp (maxSteps := 9999999) (disch := omega) only [go_sem]; rfl)); (simp (maxSteps := 9999999) (disch := omega) only [go_sem]; (try (repeat' (first | done | trivial | rfl | exact leAs_rfl _ | decide | (refine And.intro ?_ ?_) | (simp; done) | omega | (simp; decide))))))
theorem rrow_out (i : Int) (h : i < 0 ∨ 255 < i) :
    ACall Try.prog 31 [I i] [] (Det (U32 0) []) := by
  refine ACall.startA c31_ok Try.func31 rfl Try.ntmps31 (by kernel_rfl) res31_ok rfl rfl rfl ?_; simp (maxSteps := 9999999) (disch := omega) only [go_sem]
  rcases h with h | h
  · have g1 : (i < 0) = True := eq_true h
    (repeat' (first | refine AWpA.seq ?_ | refine AWpA.block ?_ | (with_reducible refine CondP.tt ?_) | (with_reducible refine CondP.ff ?_) | refine AWpA.condv (by simp (maxSteps := 9999999) (disch := omega) only [go_sem, g1]; rfl) ?_ | ((first | (apply AWpA.region; (focus (simp (maxSteps := 9999999) (disch := omega) only [go_sem, g1]; rfl))) | (apply AWpA.draw [] [] follows; (focus (first | rfl | decide)); (focus (simp (maxSteps := 9999999) (disch := omega) only [go_sem, g1]; rfl)); (focus (simp (maxSteps := 9999999) (disch := omega) only [go_sem, g1]; first | done | trivial)); (focus (simp (maxSteps := 9999999) (disch := omega) only [go_sem, g1]; rfl))) | (apply TailK.go; (focus (simp (maxSteps := 9999999) (disch := omega) only [go_sem, g1]; rfl))) | refine AWpA.skip ?_ | refine AWpA.exit ?_ | refine AWpA.ret ?_ | (with_reducible refine ARoundsA.succ ?_) | ((first | refine Runs.kt (by assumption) (fun h9 => ?_) | refine Runs.kf (by assumption) (fun h9 => ?_) | refine Runs.nt (by assumption) (fun h9 => ?_) | refine Runs.nf (by assumption) (fun h9 => ?_) | refine CondP.ht (by assumption) (fun h9 => ?_) | refine CondP.hf (by assumption) (fun h9 => ?_) | refine CondP.nt (by assumption) (fun h9 => ?_) | refine CondP.nf (by assumption) (fun h9 => ?_)); (try simp only [h9]); clear h9)); (try simp (maxSteps := 9999999) (disch := omega) only [go_sem, g1]); (try (refine And.intro ?_ ?_; (focus (first | omega | (simp only [go_sem]; done) | (simp; done) | (simp; omega) | assumption))))) | ((first | refine CondP.split (fun hif => ?_) (fun hif => ?_) | refine Runs.part (fun hif => ?_) (fun hif => ?_)) <;> ((try simp only [hif]); (try simp only [decide_eq_true_eq, decide_eq_false_iff_not, Bool.not_eq_true, Bool.not_eq_false, Bool.not_eq_true', Bool.not_eq_false', beq_iff_eq, bne_iff_ne, bne_eq_false_iff_eq, beq_eq_false_iff_ne, ne_eq, Bool.and_eq_true, Bool.or_eq_true, Bool.or_eq_false_iff] at hif); (try (have h9 : _ = true := hif; simp only [h9])); (try (have h9 : _ = false := hif; simp only [h9])); (try simp (maxSteps := 9999999) (disch := omega) only [go_sem, g1]); (try (refine And.intro ?_ ?_; (focus (first | omega | (simp only [go_sem]; done) | (simp; done) | (simp; omega) | assumption)))); (try (exfalso; omega; done))))))
    (apply Ret.det []; (focus (first | exact .inl rfl | exact .inr rfl)); (focus (simp (maxSteps := 9999999) (disch := omega) only [go_sem]; rfl)); (simp (maxSteps := 9999999) (disch := omega) only [go_sem]; (try (repeat' (first | done | trivial | rfl | exact leAs_rfl _ | decide | (refine And.intro ?_ ?_) | (simp; done) | omega | (simp; decide))))))
  · have g1 : (i < 0) = False := eq_false (by omega)
    have g2 : (255 < i) = True := eq_true (by omega)
    (repeat' (first | refine AWpA.seq ?_ | refine AWpA.block ?_ | (with_reducible refine CondP.tt ?_) | (with_reducible refine CondP.ff ?_) | refine AWpA.condv (by simp (maxSteps := 9999999) (disch := omega) only [go_sem, g1, g2]; rfl) ?_ | ((first | (apply AWpA.region; (focus (simp (maxSteps := 9999999) (disch := omega) only [go_sem, g1, g2]; rfl))) | (apply AWpA.draw [] [] follows; (focus (first | rfl | decide)); (focus (simp (maxSteps := 9999999) (disch := omega) only [go_sem, g1, g2]; rfl)); (focus (simp (maxSteps := 9999999) (disch := omega) only [go_sem, g1, g2]; first | done | trivial)); (focus (simp (maxSteps := 9999999) (disch := omega) only [go_sem, g1, g2]; rfl))) | (apply TailK.go; (focus (simp (maxSteps := 9999999) (disch := omega) only [go_sem, g1, g2]; rfl))) | refine AWpA.skip ?_ | refine AWpA.exit ?_ | refine AWpA.ret ?_ | (with_reducible refine ARoundsA.succ ?_) | ((first | refine Runs.kt (by assumption) (fun h9 => ?_) | refine Runs.kf (by assumption) (fun h9 => ?_) | refine Runs.nt (by assumption) (fun h9 => ?_) | refine Runs.nf (by assumption) (fun h9 => ?_) | refine CondP.ht (by assumption) (fun h9 => ?_) | refine CondP.hf (by assumption) (fun h9 => ?_) | refine CondP.nt (by assumption) (fun h9 => ?_) | refine CondP.nf (by assumption) (fun h9 => ?_)); (try simp only [h9]); clear h9)); (try simp (maxSteps := 9999999) (disch := omega) only [go_sem, g1, g2]); (try (refine And.intro ?_ ?_; (focus (first | omega | (simp only [go_sem]; done) | (simp; done) | (simp; omega) | assumption))))) | ((first | refine CondP.split (fun hif => ?_) (fun hif => ?_) | refine Runs.part (fun hif => ?_) (fun hif => ?_)) <;> ((try simp only [hif]); (try simp only [decide_eq_true_eq, decide_eq_false_iff_not, Bool.not_eq_true, Bool.not_eq_false, Bool.not_eq_true', Bool.not_eq_false', beq_iff_eq, bne_iff_ne, bne_eq_false_iff_eq, beq_eq_false_iff_ne, ne_eq, Bool.and_eq_true, Bool.or_eq_true, Bool.or_eq_false_iff] at hif); (try (have h9 : _ = true := hif; simp only [h9])); (try (have h9 : _ = false := hif; simp only [h9])); (try simp (maxSteps := 9999999) (disch := omega) only [go_sem, g1, g2]); (try (refine And.intro ?_ ?_; (focus (first | omega | (simp only [go_sem]; done) | (simp; done) | (simp; omega) | assumption)))); (try (exfalso; omega; done))))))
    (apply Ret.det []; (focus (first | exact .inl rfl | exact .inr rfl)); (focus (simp (maxSteps := 9999999) (disch := omega) only [go_sem]; rfl)); (simp (maxSteps := 9999999) (disch := omega) only [go_sem]; (try (repeat' (first | done | trivial | rfl | exact leAs_rfl _ | decide | (refine And.intro ?_ ?_) | (simp; done) | omega | (simp; decide))))))
end Go.Proofs.Ytnadhhmlehifnaa
