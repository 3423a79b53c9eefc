/- Contracts: sums of bytes, the program's and the document's. -/
import Derived.Test.YthbpdmlbfnjoiaaCo3
namespace Go.Proofs.Ythbpdmlbfnjoiaa
set_option linter.unusedSimpArgs false
set_option linter.unusedVariables false
set_option maxHeartbeats 4000000
open Go Go.Am Go.RowKit Go.Crc
set_option maxRecDepth 100000
/- (*quidnunc/crc.Table).More -/
noncomputable def c82_1 : ACode := .region false [⟨some 6, .move, [.c (.val (.int .u32 0))], none⟩] [] [] [0, 1, 2] false [] []
noncomputable def c82_3 : ACode := .region false [⟨some 10, .move, [.t 0], none⟩,
  ⟨some 11, .nilChk, [.t 10], none⟩,
  ⟨some 12, .addr 0, [.t 11], none⟩,
  ⟨some 13, .move, [.t 0], none⟩,
  ⟨some 14, .mkFn 87 1, [.t 13], none⟩,
  ⟨some 15, .call 86, [.t 12, .t 14], none⟩] [] [] [0, 1, 2] true [] []
noncomputable def c82_5 : ACode := .region false [⟨some 16, .move, [.t 1], none⟩,
  ⟨some 17, .un .xor, [.t 16], none⟩,
  ⟨some 7, .move, [.t 17], none⟩] [] [] [0, 2, 7] false [] []
noncomputable def c82_8 : ACode := .region false [⟨some 18, .move, [.t 2], none⟩,
  ⟨some 19, .len, [.t 18], none⟩,
  ⟨some 20, .move, [.c (.val (.int .i64 0))], none⟩] [] [] [0, 7, 18, 19, 20] false [] []
noncomputable def c82_12 : ACode := .region false [⟨some 21, .bin .lss, [.t 20, .t 19], none⟩] [] [] [0, 7, 18, 19, 20, 21] false [] []
noncomputable def c82_14 : ACode := .cond (.t 21) .skip (.exit 0)
noncomputable def c82_18 : ACode := .region false [⟨some 22, .ixS 1, [.t 18, .t 20], none⟩,
  ⟨some 23, .load false 1, [.t 22], none⟩,
  ⟨some 9, .move, [.t 23], none⟩] [] [] [0, 7, 9, 18, 19, 20] false [] []
noncomputable def c82_19 : ACode := .region false [⟨some 24, .move, [.t 0], none⟩,
  ⟨some 25, .move, [.t 7], none⟩,
  ⟨some 26, .conv .u8, [.t 25], none⟩,
  ⟨some 27, .move, [.t 9], none⟩,
  ⟨some 28, .bin .xor, [.t 26, .t 27], none⟩,
  ⟨some 29, .nilChk, [.t 24], none⟩,
  ⟨some 30, .addr 3, [.t 29], none⟩,
  ⟨some 31, .ixA 256 1, [.t 30, .t 28], none⟩,
  ⟨some 32, .load false 1, [.t 31], none⟩,
  ⟨some 33, .move, [.t 7], none⟩,
  ⟨some 34, .bin .shr, [.t 33, .c (.val (.int .u64 8))], none⟩,
  ⟨some 35, .bin .xor, [.t 32, .t 34], none⟩,
  ⟨some 7, .move, [.t 35], none⟩] [] [] [0, 7, 18, 19, 20] false [] []
noncomputable def c82_17 : ACode := .seq c82_18 c82_19
noncomputable def c82_16 : ACode := .block 1 c82_17
noncomputable def c82_20 : ACode := .region false [⟨some 36, .bin .add, [.t 20, .c (.val (.int .i64 1))], none⟩,
  ⟨some 20, .move, [.t 36], none⟩] [] [] [0, 7, 18, 19, 20] false [] []
noncomputable def c82_15 : ACode := .seq c82_16 c82_20
noncomputable def c82_13 : ACode := .seq c82_14 c82_15
noncomputable def c82_11 : ACode := .seq c82_12 c82_13
noncomputable def c82_10 : ACode := .loop c82_11
noncomputable def c82_9 : ACode := .block 0 c82_10
noncomputable def c82_7 : ACode := .seq c82_8 c82_9
noncomputable def c82_22 : ACode := .region false [⟨some 37, .move, [.t 7], none⟩,
  ⟨some 38, .un .xor, [.t 37], none⟩,
  ⟨some 6, .move, [.t 38], none⟩] [] [] [6] false [] []
noncomputable def c82_21 : ACode := .seq c82_22 .ret
noncomputable def c82_6 : ACode := .seq c82_7 c82_21
noncomputable def c82_4 : ACode := .seq c82_5 c82_6
noncomputable def c82_2 : ACode := .seq c82_3 c82_4
noncomputable def c82_0 : ACode := .seq c82_1 c82_2
noncomputable def code82 : Code := (Try.f82.body).getD .skip
theorem c82_ok : compC Try.prog 39 code82 = some (strip c82_0) := by kernel_rfl
theorem res82_ok : Try.f82.results.toList.mapM (resC Try.prog) = some [(6, none)] := by kernel_rfl
/- quidnunc/quidnuncref02.moved -/
noncomputable def c84_1 : ACode := .region false [⟨some 2, .move, [.c (.val (.int .u32 0))], none⟩] [] [] [0] false [] []
noncomputable def c84_4 : ACode := .region false [⟨some 3, .move, [.c (.val (.int .i64 0))], none⟩] [] [] [0, 3] false [] []
noncomputable def c84_9 : ACode := .region false [⟨some 5, .move, [.t 3], none⟩,
  ⟨some 6, .bin .lss, [.t 5, .c (.val (.int .i64 8))], none⟩] [] [] [0, 3, 6] false [] []
noncomputable def c84_10 : ACode := .cond (.t 6) .skip (.exit 0)
noncomputable def c84_8 : ACode := .seq c84_9 c84_10
noncomputable def c84_14 : ACode := .region false [⟨some 9, .move, [.t 0], none⟩,
  ⟨some 10, .bin .rem, [.t 9, .c (.val (.int .u32 2))], none⟩,
  ⟨some 11, .bin .eql, [.t 10, .c (.val (.int .u32 1))], none⟩,
  ⟨some 4, .move, [.t 11], none⟩] [] [] [0, 3, 4] false [] []
noncomputable def c84_16 : ACode := .region false [⟨some 12, .move, [.t 0], none⟩,
  ⟨some 13, .bin .quo, [.t 12, .c (.val (.int .u32 2))], none⟩,
  ⟨some 0, .move, [.t 13], none⟩] [] [] [0, 3, 4] false [] []
noncomputable def c84_18 : ACode := .region false [⟨some 14, .move, [.t 4], none⟩] [] [] [0, 3, 14] false [] []
noncomputable def c84_20 : ACode := .region false [⟨some 15, .move, [.t 0], none⟩,
  ⟨some 16, .bin .xor, [.t 15, .c (.val (.int .u32 3988292384))], none⟩,
  ⟨some 0, .move, [.t 16], none⟩] [] [] [0, 3] false [] []
noncomputable def c84_19 : ACode := .cond (.t 14) c84_20 .skip
noncomputable def c84_17 : ACode := .seq c84_18 c84_19
noncomputable def c84_15 : ACode := .seq c84_16 c84_17
noncomputable def c84_13 : ACode := .seq c84_14 c84_15
noncomputable def c84_12 : ACode := .block 1 c84_13
noncomputable def c84_21 : ACode := .region false [⟨some 7, .move, [.t 3], none⟩,
  ⟨some 8, .bin .add, [.t 7, .c (.val (.int .i64 1))], none⟩,
  ⟨some 3, .move, [.t 8], none⟩] [] [] [0, 3] false [] []
noncomputable def c84_11 : ACode := .seq c84_12 c84_21
noncomputable def c84_7 : ACode := .seq c84_8 c84_11
noncomputable def c84_6 : ACode := .loop c84_7
noncomputable def c84_5 : ACode := .block 0 c84_6
noncomputable def c84_3 : ACode := .seq c84_4 c84_5
noncomputable def c84_23 : ACode := .region false [⟨some 17, .move, [.t 0], none⟩,
  ⟨some 2, .move, [.t 17], none⟩] [] [] [2] false [] []
noncomputable def c84_22 : ACode := .seq c84_23 .ret
noncomputable def c84_2 : ACode := .seq c84_3 c84_22
noncomputable def c84_0 : ACode := .seq c84_1 c84_2
noncomputable def code84 : Code := (Try.f84.body).getD .skip
theorem c84_ok : compC Try.prog 18 code84 = some (strip c84_0) := by kernel_rfl
theorem res84_ok : Try.f84.results.toList.mapM (resC Try.prog) = some [(2, none)] := by kernel_rfl
/- quidnunc/quidnuncref02.More -/
noncomputable def c80_1 : ACode := .region false [⟨some 4, .move, [.c (.val (.int .u32 0))], none⟩] [] [] [0, 1] false [] []
noncomputable def c80_3 : ACode := .region false [⟨some 7, .move, [.t 0], none⟩,
  ⟨some 8, .call 83, [.t 7], none⟩,
  ⟨some 5, .move, [.t 8], none⟩] [] [] [1, 5] true [] []
noncomputable def c80_6 : ACode := .region false [⟨some 6, .move, [.c (.val (.int .i64 0))], none⟩] [] [] [1, 5, 6] false [] []
noncomputable def c80_11 : ACode := .region false [⟨some 9, .move, [.t 6], none⟩,
  ⟨some 10, .move, [.t 1], none⟩,
  ⟨some 11, .len, [.t 10], none⟩,
  ⟨some 12, .bin .lss, [.t 9, .t 11], none⟩] [] [] [1, 5, 6, 12] false [] []
noncomputable def c80_12 : ACode := .cond (.t 12) .skip (.exit 0)
noncomputable def c80_10 : ACode := .seq c80_11 c80_12
noncomputable def c80_15 : ACode := .region false [⟨some 15, .move, [.t 5], none⟩,
  ⟨some 16, .move, [.t 1], none⟩,
  ⟨some 17, .move, [.t 6], none⟩,
  ⟨some 18, .ixS 1, [.t 16, .t 17], none⟩,
  ⟨some 19, .load false 1, [.t 18], none⟩,
  ⟨some 20, .conv .u32, [.t 19], none⟩,
  ⟨some 21, .bin .xor, [.t 15, .t 20], none⟩,
  ⟨some 22, .call 84, [.t 21], none⟩,
  ⟨some 5, .move, [.t 22], none⟩] [] [] [1, 5, 6] true [] []
noncomputable def c80_14 : ACode := .block 1 c80_15
noncomputable def c80_16 : ACode := .region false [⟨some 13, .move, [.t 6], none⟩,
  ⟨some 14, .bin .add, [.t 13, .c (.val (.int .i64 1))], none⟩,
  ⟨some 6, .move, [.t 14], none⟩] [] [] [1, 5, 6] false [] []
noncomputable def c80_13 : ACode := .seq c80_14 c80_16
noncomputable def c80_9 : ACode := .seq c80_10 c80_13
noncomputable def c80_8 : ACode := .loop c80_9
noncomputable def c80_7 : ACode := .block 0 c80_8
noncomputable def c80_5 : ACode := .seq c80_6 c80_7
noncomputable def c80_18 : ACode := .region false [⟨some 23, .move, [.t 5], none⟩,
  ⟨some 24, .call 83, [.t 23], none⟩,
  ⟨some 4, .move, [.t 24], none⟩] [] [] [4] true [] []
noncomputable def c80_17 : ACode := .seq c80_18 .ret
noncomputable def c80_4 : ACode := .seq c80_5 c80_17
noncomputable def c80_2 : ACode := .seq c80_3 c80_4
noncomputable def c80_0 : ACode := .seq c80_1 c80_2
noncomputable def code80 : Code := (Try.f80.body).getD .skip
theorem c80_ok : compC Try.prog 25 code80 = some (strip c80_0) := by kernel_rfl
theorem res80_ok : Try.f80.results.toList.mapM (resC Try.prog) = some [(4, none)] := by kernel_rfl
/- quidnunc/quidnuncref02.turned -/
noncomputable def c83_1 : ACode := .region false [⟨some 2, .move, [.c (.val (.int .u32 0))], none⟩] [] [] [0] false [] []
noncomputable def c83_3 : ACode := .region false [⟨some 3, .move, [.t 0], none⟩,
  ⟨some 4, .bin .sub, [.c (.val (.int .u32 4294967295)), .t 3], none⟩,
  ⟨some 2, .move, [.t 4], none⟩] [] [] [2] false [] []
noncomputable def c83_2 : ACode := .seq c83_3 .ret
noncomputable def c83_0 : ACode := .seq c83_1 c83_2
noncomputable def code83 : Code := (Try.f83.body).getD .skip
theorem c83_ok : compC Try.prog 5 code83 = some (strip c83_0) := by kernel_rfl
theorem res83_ok : Try.f83.results.toList.mapM (resC Try.prog) = some [(2, none)] := by kernel_rfl
/- quidnunc/quidnuncref02.Sum -/
noncomputable def c68_1 : ACode := .region false [⟨some 2, .move, [.c (.val (.int .u32 0))], none⟩] [] [] [0] false [] []
noncomputable def c68_3 : ACode := .region false [⟨some 3, .move, [.t 0], none⟩,
  ⟨some 4, .call 80, [.c (.val (.int .u32 0)), .t 3], none⟩,
  ⟨some 2, .move, [.t 4], none⟩] [] [] [2] true [] []
noncomputable def c68_2 : ACode := .seq c68_3 .ret
noncomputable def c68_0 : ACode := .seq c68_1 c68_2
noncomputable def code68 : Code := (Try.f68.body).getD .skip
theorem c68_ok : compC Try.prog 5 code68 = some (strip c68_0) := by kernel_rfl
theorem res68_ok : Try.f68.results.toList.mapM (resC Try.prog) = some [(2, none)] := by kernel_rfl
theorem rem2 (a : R) : ((a.toNat : Int).tmod 2 == 1) = a.getLsbD 0 := by
  rw [Int.tmod_eq_emod_of_nonneg (by omega)]
  have : (a.toNat : Int) % 2 = ((a.toNat % 2 : Nat) : Int) := by omega
  rw [this]
  rcases Nat.mod_two_eq_zero_or_one a.toNat with h2 | h2 <;> simp [BitVec.getLsbD, Nat.testBit_zero, h2]
theorem quo2 (a : R) : IntKind.u32.wrap ((a.toNat : Int).tdiv 2) = ((a >>> 1).toNat : Int) := by
  rw [Int.tdiv_eq_ediv_of_nonneg (by omega), BitVec.toNat_ushiftRight, Nat.shiftRight_eq_div_pow]
  have := a.isLt
  simp [IntKind.wrap, IntKind.bits, IntKind.signed]
  omega
theorem sub_not (a : R) : IntKind.u32.wrap (4294967295 - (a.toNat : Int)) = ((~~~ a).toNat : Int) := by
  have := a.isLt
  rw [BitVec.toNat_not]
  simp [IntKind.wrap, IntKind.bits, IntKind.signed]
  omega
theorem conv_by8 {c : Int} (h0 : 0 ≤ c) (h1 : c ≤ 255) : IntKind.u32.wrap c = ((by8 c).toNat : Int) := by
  rw [by8_small h0 h1]
  simp [IntKind.wrap, IntKind.bits, IntKind.signed]
  omega
theorem moved_any (v : R) : ACall Try.prog 84 [U32 v.toNat] [] (Det (U32 (mv v).toNat) []) := by
  refine ACall.startA c84_ok Try.func84 rfl Try.ntmps84 (by kernel_rfl) res84_ok rfl rfl rfl ?_; simp (maxSteps := 9999999) (disch := omega) only [go_sem]
  (have k9 := k0; (repeat' (first | refine AWpA.seq ?_ | refine AWpA.block ?_ | (with_reducible refine CondP.tt ?_) | (with_reducible refine CondP.ff ?_) | refine AWpA.cg ?_ | ((first | refine AWpA.rg ?_ | refine AWpA.dg [] [] follows ?_ | refine TailK.tg ?_ | refine AWpA.skip ?_ | refine AWpA.exit ?_ | refine AWpA.ret ?_ | (with_reducible refine ARoundsA.succ ?_) | ((first | refine Runs.gkt (fun h9 => ?_) | refine Runs.gkf (fun h9 => ?_) | refine Runs.gnt (fun h9 => ?_) | refine Runs.gnf (fun h9 => ?_) | refine CondP.gt (fun h9 => ?_) | refine CondP.gf (fun h9 => ?_) | refine CondP.gnt (fun h9 => ?_) | refine CondP.gnf (fun h9 => ?_)); (try simp only [h9]); clear h9)); (try simp (maxSteps := 9999999) (disch := omega) only [go_sem, k9]); (try refine cnd ?_)) | ((first | refine CondP.split (fun hif => ?_) (fun hif => ?_) | refine Runs.part (fun hif => ?_) (fun hif => ?_)) <;> ((try simp only [hif]); (try simp only [BL] at hif); (try (have h9 : _ = true := hif; simp only [h9])); (try (have h9 : _ = false := hif; simp only [h9])); (try simp (maxSteps := 9999999) (disch := omega) only [go_sem, k9]); (try refine cnd ?_); (try (exfalso; omega; done)))))); (all_goals (try clear k9)))
  (apply AWpA.loopL (fun k : Nat => [(0, U32 (dns k v).toNat), (3, I k)]) (fun k => []) (fun k => 8 - k) (fun k => k ≤ 8) (0) []; rotate_left; (focus (simp (maxSteps := 9999999) (disch := omega) only [go_sem, dns]; (try (repeat' (first | done | trivial | rfl | exact leAs_rfl _ | decide | (refine And.intro ?_ ?_) | (simp; done) | omega | (simp; decide)))))); rotate_right)
  · exact Nat.zero_le _
  rintro k hk
  (try simp only at hk)
  by_cases hkn : k < 8
  · have h1 : ((k : Int) < 8) = True := eq_true (by omega)
    have h2 := rem2 (dns k v)
    have h3 := quo2 (dns k v)
    cases hb : (dns k v).getLsbD 0
    · rw [hb] at h2
      have g := dn_false hb
      (try simp (maxSteps := 9999999) (disch := omega) only [go_sem])
      (have k9 := And.intro @h1 (And.intro @h2 (And.intro @h3 (k0))); (repeat' (first | refine AWpA.seq ?_ | refine AWpA.block ?_ | (with_reducible refine CondP.tt ?_) | (with_reducible refine CondP.ff ?_) | refine AWpA.cg ?_ | ((first | refine AWpA.rg ?_ | refine AWpA.dg [] [] follows ?_ | refine TailK.tg ?_ | refine AWpA.skip ?_ | refine AWpA.exit ?_ | refine AWpA.ret ?_ | (with_reducible refine ARoundsA.succ ?_) | ((first | refine Runs.gkt (fun h9 => ?_) | refine Runs.gkf (fun h9 => ?_) | refine Runs.gnt (fun h9 => ?_) | refine Runs.gnf (fun h9 => ?_) | refine CondP.gt (fun h9 => ?_) | refine CondP.gf (fun h9 => ?_) | refine CondP.gnt (fun h9 => ?_) | refine CondP.gnf (fun h9 => ?_)); (try simp only [h9]); clear h9)); (try simp (maxSteps := 9999999) (disch := omega) only [go_sem, k9]); (try refine cnd ?_)) | ((first | refine CondP.split (fun hif => ?_) (fun hif => ?_) | refine Runs.part (fun hif => ?_) (fun hif => ?_)) <;> ((try simp only [hif]); (try simp only [BL] at hif); (try (have h9 : _ = true := hif; simp only [h9])); (try (have h9 : _ = false := hif; simp only [h9])); (try simp (maxSteps := 9999999) (disch := omega) only [go_sem, k9]); (try refine cnd ?_); (try (exfalso; omega; done)))))); (all_goals (try clear k9)))
      (apply Back.to (k + 1) []; (focus ((try simp (maxSteps := 9999999) (disch := omega) only [go_sem, dns_last, g]); first | done | omega)); rotate_left; (focus (simp (maxSteps := 9999999) (disch := omega) only [go_sem, dns_last, g]; (try (repeat' (first | done | trivial | rfl | exact leAs_rfl _ | decide | (refine And.intro ?_ ?_) | (simp; done) | omega | (simp; decide)))))))
      omega
    · rw [hb] at h2
      have g := dn_true hb
      (try simp (maxSteps := 9999999) (disch := omega) only [go_sem])
      (have k9 := And.intro @h1 (And.intro @h2 (And.intro @h3 (And.intro @x32_poly (And.intro @g (k0))))); (repeat' (first | refine AWpA.seq ?_ | refine AWpA.block ?_ | (with_reducible refine CondP.tt ?_) | (with_reducible refine CondP.ff ?_) | refine AWpA.cg ?_ | ((first | refine AWpA.rg ?_ | refine AWpA.dg [] [] follows ?_ | refine TailK.tg ?_ | refine AWpA.skip ?_ | refine AWpA.exit ?_ | refine AWpA.ret ?_ | (with_reducible refine ARoundsA.succ ?_) | ((first | refine Runs.gkt (fun h9 => ?_) | refine Runs.gkf (fun h9 => ?_) | refine Runs.gnt (fun h9 => ?_) | refine Runs.gnf (fun h9 => ?_) | refine CondP.gt (fun h9 => ?_) | refine CondP.gf (fun h9 => ?_) | refine CondP.gnt (fun h9 => ?_) | refine CondP.gnf (fun h9 => ?_)); (try simp only [h9]); clear h9)); (try simp (maxSteps := 9999999) (disch := omega) only [go_sem, k9]); (try refine cnd ?_)) | ((first | refine CondP.split (fun hif => ?_) (fun hif => ?_) | refine Runs.part (fun hif => ?_) (fun hif => ?_)) <;> ((try simp only [hif]); (try simp only [BL] at hif); (try (have h9 : _ = true := hif; simp only [h9])); (try (have h9 : _ = false := hif; simp only [h9])); (try simp (maxSteps := 9999999) (disch := omega) only [go_sem, k9]); (try refine cnd ?_); (try (exfalso; omega; done)))))); (all_goals (try clear k9)))
      (apply Back.to (k + 1) []; (focus ((try simp (maxSteps := 9999999) (disch := omega) only [go_sem, dns_last, g]); first | done | omega)); rotate_left; (focus (simp (maxSteps := 9999999) (disch := omega) only [go_sem, dns_last, g]; (try (repeat' (first | done | trivial | rfl | exact leAs_rfl _ | decide | (refine And.intro ?_ ?_) | (simp; done) | omega | (simp; decide)))))))
      omega
  · obtain rfl : k = 8 := by omega
    (try simp (maxSteps := 9999999) (disch := omega) only [go_sem])
    (have k9 := k0; (repeat' (first | refine AWpA.seq ?_ | refine AWpA.block ?_ | (with_reducible refine CondP.tt ?_) | (with_reducible refine CondP.ff ?_) | refine AWpA.cg ?_ | ((first | refine AWpA.rg ?_ | refine AWpA.dg [] [] follows ?_ | refine TailK.tg ?_ | refine AWpA.skip ?_ | refine AWpA.exit ?_ | refine AWpA.ret ?_ | (with_reducible refine ARoundsA.succ ?_) | ((first | refine Runs.gkt (fun h9 => ?_) | refine Runs.gkf (fun h9 => ?_) | refine Runs.gnt (fun h9 => ?_) | refine Runs.gnf (fun h9 => ?_) | refine CondP.gt (fun h9 => ?_) | refine CondP.gf (fun h9 => ?_) | refine CondP.gnt (fun h9 => ?_) | refine CondP.gnf (fun h9 => ?_)); (try simp only [h9]); clear h9)); (try simp (maxSteps := 9999999) (disch := omega) only [go_sem, k9]); (try refine cnd ?_)) | ((first | refine CondP.split (fun hif => ?_) (fun hif => ?_) | refine Runs.part (fun hif => ?_) (fun hif => ?_)) <;> ((try simp only [hif]); (try simp only [BL] at hif); (try (have h9 : _ = true := hif; simp only [h9])); (try (have h9 : _ = false := hif; simp only [h9])); (try simp (maxSteps := 9999999) (disch := omega) only [go_sem, k9]); (try refine cnd ?_); (try (exfalso; omega; done)))))); (all_goals (try clear k9)))
    (apply Ret.det []; (focus (first | exact .inl rfl | exact .inr rfl)); (focus (simp (maxSteps := 9999999) (disch := omega) only [go_sem, mv]; rfl)); (simp (maxSteps := 9999999) (disch := omega) only [go_sem, mv]; (try (repeat' (first | done | trivial | rfl | exact leAs_rfl _ | decide | (refine And.intro ?_ ?_) | (simp; done) | omega | (simp; decide))))))
theorem turned_any (v : R) : ACall Try.prog 83 [U32 v.toNat] [] (Det (U32 (~~~ v).toNat) []) := by
  refine ACall.startA c83_ok Try.func83 rfl Try.ntmps83 (by kernel_rfl) res83_ok rfl rfl rfl ?_; simp (maxSteps := 9999999) (disch := omega) only [go_sem]
  (have k9 := And.intro @sub_not (k0); (repeat' (first | refine AWpA.seq ?_ | refine AWpA.block ?_ | (with_reducible refine CondP.tt ?_) | (with_reducible refine CondP.ff ?_) | refine AWpA.cg ?_ | ((first | refine AWpA.rg ?_ | refine AWpA.dg [] [] follows ?_ | refine TailK.tg ?_ | refine AWpA.skip ?_ | refine AWpA.exit ?_ | refine AWpA.ret ?_ | (with_reducible refine ARoundsA.succ ?_) | ((first | refine Runs.gkt (fun h9 => ?_) | refine Runs.gkf (fun h9 => ?_) | refine Runs.gnt (fun h9 => ?_) | refine Runs.gnf (fun h9 => ?_) | refine CondP.gt (fun h9 => ?_) | refine CondP.gf (fun h9 => ?_) | refine CondP.gnt (fun h9 => ?_) | refine CondP.gnf (fun h9 => ?_)); (try simp only [h9]); clear h9)); (try simp (maxSteps := 9999999) (disch := omega) only [go_sem, k9]); (try refine cnd ?_)) | ((first | refine CondP.split (fun hif => ?_) (fun hif => ?_) | refine Runs.part (fun hif => ?_) (fun hif => ?_)) <;> ((try simp only [hif]); (try simp only [BL] at hif); (try (have h9 : _ = true := hif; simp only [h9])); (try (have h9 : _ = false := hif; simp only [h9])); (try simp (maxSteps := 9999999) (disch := omega) only [go_sem, k9]); (try refine cnd ?_); (try (exfalso; omega; done)))))); (all_goals (try clear k9)))
  (apply Ret.det []; (focus (first | exact .inl rfl | exact .inr rfl)); (focus (simp (maxSteps := 9999999) (disch := omega) only [go_sem]; rfl)); (simp (maxSteps := 9999999) (disch := omega) only [go_sem]; (try (repeat' (first | done | trivial | rfl | exact leAs_rfl _ | decide | (refine And.intro ?_ ?_) | (simp; done) | omega | (simp; decide))))))
theorem more_any (d : Bool) (s : R) {P : List AV} {o : Nat} {l : List Int} (sg : Seg P o l) (hby : ∀ x ∈ l, 0 ≤ x ∧ x ≤ 255) :
    ACall Try.prog 82 [.ptr 0 0, U32 s.toNat, .sl 1 o l.length 1 none] [.cells false (tb d), .cells true P] (Det (U32 (more s l).toNat) [.cells false (tb true), .cells true P]) := by
  have hle := sg.le
  have hsm := sg.small
  refine ACall.startA c82_ok Try.func82 rfl Try.ntmps82 (by kernel_rfl) res82_ok rfl rfl rfl ?_; simp (maxSteps := 9999999) (disch := omega) only [go_sem]
  (have k9 := And.intro @sg.ren (And.intro @tb_ren (And.intro @x32_not2 (k0))); (repeat' (first | refine AWpA.seq ?_ | refine AWpA.block ?_ | (with_reducible refine CondP.tt ?_) | (with_reducible refine CondP.ff ?_) | refine AWpA.cg ?_ | ((first | refine AWpA.rg ?_ | refine AWpA.dg [] [] follows ?_ | refine TailK.tg ?_ | refine AWpA.skip ?_ | refine AWpA.exit ?_ | refine AWpA.ret ?_ | (with_reducible refine ARoundsA.succ ?_) | ((first | refine Runs.gkt (fun h9 => ?_) | refine Runs.gkf (fun h9 => ?_) | refine Runs.gnt (fun h9 => ?_) | refine Runs.gnf (fun h9 => ?_) | refine CondP.gt (fun h9 => ?_) | refine CondP.gf (fun h9 => ?_) | refine CondP.gnt (fun h9 => ?_) | refine CondP.gnf (fun h9 => ?_)); (try simp only [h9]); clear h9) | refine CallG.pg [0] (do_any d) ?_ | refine CallG.dg [0] (do_any d) ?_); (try simp (maxSteps := 9999999) (disch := omega) only [go_sem, k9]); (try refine cnd ?_)) | ((first | refine CondP.split (fun hif => ?_) (fun hif => ?_) | refine Runs.part (fun hif => ?_) (fun hif => ?_)) <;> ((try simp only [hif]); (try simp only [BL] at hif); (try (have h9 : _ = true := hif; simp only [h9])); (try (have h9 : _ = false := hif; simp only [h9])); (try simp (maxSteps := 9999999) (disch := omega) only [go_sem, k9]); (try refine cnd ?_); (try (exfalso; omega; done)))))); (all_goals (try clear k9)))
  (apply AWpA.loopL (fun i : Nat => [(0, .ptr 0 0), (7, U32 (upd (~~~ s) (l.take i)).toNat), (18, .sl 1 o l.length 1 none), (19, I l.length), (20, I i)]) (fun i => [.cells false (tb true), .cells true P]) (fun i => l.length - i) (fun i => i ≤ l.length) (0) [0, 1]; rotate_left; (focus (simp (maxSteps := 9999999) (disch := omega) only [go_sem, sg.ren, tb_ren, List.take_zero, upd_nil]; (try (repeat' (first | done | trivial | rfl | exact leAs_rfl _ | decide | (refine And.intro ?_ ?_) | (simp; done) | omega | (simp; decide)))))); rotate_right)
  · exact Nat.zero_le _
  rintro i hi
  (try simp only at hi)
  by_cases hin : i < l.length
  · have g1 : ((i : Int) < (l.length : Int)) = True := eq_true (by omega)
    have hb := hby l[i] (List.getElem_mem hin)
    have g2 : P.getD (o + i) .bad = .val (.int .u8 l[i]) := sg.byte i hin
    have g3 : l.take (i + 1) = l.take i ++ [l[i]] := by rw [List.take_add_one, List.getElem?_eq_getElem hin]; rfl
    generalize l[i] = c at hb g2 g3
    generalize hv : upd (~~~ s) (l.take i) = v
    have g4 : upd (~~~ s) (l.take (i + 1)) = mv (v ^^^ by8 c) := by rw [g3, upd_app, hv]; rfl
    have g5 := x8 v hb.1 hb.2
    have g6 := step_row v hb.1 hb.2
    have g7 := and255_lt (v ^^^ by8 c)
    have g8 := tb_get _ g7
    rw [BitVec.ofNat_toNat, BitVec.setWidth_eq] at g8
    have g9 := tb_len true
    generalize hx : ((v ^^^ by8 c) &&& 255#32) = x at g5 g6 g7 g8
    (try simp (maxSteps := 9999999) (disch := omega) only [go_sem])
    (have k9 := And.intro @g1 (And.intro @sg.ren (And.intro @tb_ren (And.intro @g2 (And.intro @low8 (And.intro @g5 (And.intro @shr8 (And.intro @x32 (And.intro @g6 (And.intro @g8 (And.intro @g9 (k0))))))))))); (repeat' (first | refine AWpA.seq ?_ | refine AWpA.block ?_ | (with_reducible refine CondP.tt ?_) | (with_reducible refine CondP.ff ?_) | refine AWpA.cg ?_ | ((first | refine AWpA.rg ?_ | refine AWpA.dg [] [] follows ?_ | refine TailK.tg ?_ | refine AWpA.skip ?_ | refine AWpA.exit ?_ | refine AWpA.ret ?_ | (with_reducible refine ARoundsA.succ ?_) | ((first | refine Runs.gkt (fun h9 => ?_) | refine Runs.gkf (fun h9 => ?_) | refine Runs.gnt (fun h9 => ?_) | refine Runs.gnf (fun h9 => ?_) | refine CondP.gt (fun h9 => ?_) | refine CondP.gf (fun h9 => ?_) | refine CondP.gnt (fun h9 => ?_) | refine CondP.gnf (fun h9 => ?_)); (try simp only [h9]); clear h9)); (try simp (maxSteps := 9999999) (disch := omega) only [go_sem, k9]); (try refine cnd ?_)) | ((first | refine CondP.split (fun hif => ?_) (fun hif => ?_) | refine Runs.part (fun hif => ?_) (fun hif => ?_)) <;> ((try simp only [hif]); (try simp only [BL] at hif); (try (have h9 : _ = true := hif; simp only [h9])); (try (have h9 : _ = false := hif; simp only [h9])); (try simp (maxSteps := 9999999) (disch := omega) only [go_sem, k9]); (try refine cnd ?_); (try (exfalso; omega; done)))))); (all_goals (try clear k9)))
    (apply Back.to (i + 1) [0, 1]; (focus ((try simp (maxSteps := 9999999) (disch := omega) only [go_sem, g4, sg.ren, tb_ren]); first | done | omega)); rotate_left; (focus (simp (maxSteps := 9999999) (disch := omega) only [go_sem, g4, sg.ren, tb_ren]; (try (repeat' (first | done | trivial | rfl | exact leAs_rfl _ | decide | (refine And.intro ?_ ?_) | (simp; done) | omega | (simp; decide)))))))
    omega
  · obtain rfl : i = l.length := by omega
    (try simp (maxSteps := 9999999) (disch := omega) only [go_sem])
    (have k9 := And.intro @x32_not2 (k0); (repeat' (first | refine AWpA.seq ?_ | refine AWpA.block ?_ | (with_reducible refine CondP.tt ?_) | (with_reducible refine CondP.ff ?_) | refine AWpA.cg ?_ | ((first | refine AWpA.rg ?_ | refine AWpA.dg [] [] follows ?_ | refine TailK.tg ?_ | refine AWpA.skip ?_ | refine AWpA.exit ?_ | refine AWpA.ret ?_ | (with_reducible refine ARoundsA.succ ?_) | ((first | refine Runs.gkt (fun h9 => ?_) | refine Runs.gkf (fun h9 => ?_) | refine Runs.gnt (fun h9 => ?_) | refine Runs.gnf (fun h9 => ?_) | refine CondP.gt (fun h9 => ?_) | refine CondP.gf (fun h9 => ?_) | refine CondP.gnt (fun h9 => ?_) | refine CondP.gnf (fun h9 => ?_)); (try simp only [h9]); clear h9)); (try simp (maxSteps := 9999999) (disch := omega) only [go_sem, k9]); (try refine cnd ?_)) | ((first | refine CondP.split (fun hif => ?_) (fun hif => ?_) | refine Runs.part (fun hif => ?_) (fun hif => ?_)) <;> ((try simp only [hif]); (try simp only [BL] at hif); (try (have h9 : _ = true := hif; simp only [h9])); (try (have h9 : _ = false := hif; simp only [h9])); (try simp (maxSteps := 9999999) (disch := omega) only [go_sem, k9]); (try refine cnd ?_); (try (exfalso; omega; done)))))); (all_goals (try clear k9)))
    (apply Ret.det [0, 1]; (focus (first | exact .inl rfl | exact .inr rfl)); (focus (simp (maxSteps := 9999999) (disch := omega) only [go_sem, sg.ren, tb_ren, more]; rfl)); (simp (maxSteps := 9999999) (disch := omega) only [go_sem, sg.ren, tb_ren, more]; (try (repeat' (first | done | trivial | rfl | exact leAs_rfl _ | decide | (refine And.intro ?_ ?_) | (simp; done) | omega | (simp; decide))))))
theorem rmore_any (s : R) {P : List AV} {o : Nat} {l : List Int} (sg : Seg P o l) (hby : ∀ x ∈ l, 0 ≤ x ∧ x ≤ 255) :
    ACall Try.prog 80 [U32 s.toNat, .sl 0 o l.length 1 none] [.cells true P] (Det (U32 (more s l).toNat) [.cells true P]) := by
  have hle := sg.le
  have hsm := sg.small
  refine ACall.startA c80_ok Try.func80 rfl Try.ntmps80 (by kernel_rfl) res80_ok rfl rfl rfl ?_; simp (maxSteps := 9999999) (disch := omega) only [go_sem]
  (have k9 := And.intro @sg.ren (k0); (repeat' (first | refine AWpA.seq ?_ | refine AWpA.block ?_ | (with_reducible refine CondP.tt ?_) | (with_reducible refine CondP.ff ?_) | refine AWpA.cg ?_ | ((first | refine AWpA.rg ?_ | refine AWpA.dg [] [] follows ?_ | refine TailK.tg ?_ | refine AWpA.skip ?_ | refine AWpA.exit ?_ | refine AWpA.ret ?_ | (with_reducible refine ARoundsA.succ ?_) | ((first | refine Runs.gkt (fun h9 => ?_) | refine Runs.gkf (fun h9 => ?_) | refine Runs.gnt (fun h9 => ?_) | refine Runs.gnf (fun h9 => ?_) | refine CondP.gt (fun h9 => ?_) | refine CondP.gf (fun h9 => ?_) | refine CondP.gnt (fun h9 => ?_) | refine CondP.gnf (fun h9 => ?_)); (try simp only [h9]); clear h9) | refine CallG.pg [] (turned_any s) ?_ | refine CallG.dg [] (turned_any s) ?_); (try simp (maxSteps := 9999999) (disch := omega) only [go_sem, k9]); (try refine cnd ?_)) | ((first | refine CondP.split (fun hif => ?_) (fun hif => ?_) | refine Runs.part (fun hif => ?_) (fun hif => ?_)) <;> ((try simp only [hif]); (try simp only [BL] at hif); (try (have h9 : _ = true := hif; simp only [h9])); (try (have h9 : _ = false := hif; simp only [h9])); (try simp (maxSteps := 9999999) (disch := omega) only [go_sem, k9]); (try refine cnd ?_); (try (exfalso; omega; done)))))); (all_goals (try clear k9)))
  (apply AWpA.loopL (fun i : Nat => [(1, .sl 0 o l.length 1 none), (5, U32 (upd (~~~ s) (l.take i)).toNat), (6, I i)]) (fun i => [.cells true P]) (fun i => l.length - i) (fun i => i ≤ l.length) (0) [0]; rotate_left; (focus (simp (maxSteps := 9999999) (disch := omega) only [go_sem, sg.ren, List.take_zero, upd_nil]; (try (repeat' (first | done | trivial | rfl | exact leAs_rfl _ | decide | (refine And.intro ?_ ?_) | (simp; done) | omega | (simp; decide)))))); rotate_right)
  · exact Nat.zero_le _
  rintro i hi
  (try simp only at hi)
  by_cases hin : i < l.length
  · have g1 : ((i : Int) < (l.length : Int)) = True := eq_true (by omega)
    have hb := hby l[i] (List.getElem_mem hin)
    have g2 : P.getD (o + i) .bad = .val (.int .u8 l[i]) := sg.byte i hin
    have g3 : l.take (i + 1) = l.take i ++ [l[i]] := by rw [List.take_add_one, List.getElem?_eq_getElem hin]; rfl
    generalize l[i] = c at hb g2 g3
    generalize hv : upd (~~~ s) (l.take i) = v
    have g4 : upd (~~~ s) (l.take (i + 1)) = mv (v ^^^ by8 c) := by rw [g3, upd_app, hv]; rfl
    have g5 := conv_by8 hb.1 hb.2
    (try simp (maxSteps := 9999999) (disch := omega) only [go_sem])
    (have k9 := And.intro @g1 (And.intro @sg.ren (And.intro @g2 (And.intro @g5 (And.intro @x32 (k0))))); (repeat' (first | refine AWpA.seq ?_ | refine AWpA.block ?_ | (with_reducible refine CondP.tt ?_) | (with_reducible refine CondP.ff ?_) | refine AWpA.cg ?_ | ((first | refine AWpA.rg ?_ | refine AWpA.dg [] [] follows ?_ | refine TailK.tg ?_ | refine AWpA.skip ?_ | refine AWpA.exit ?_ | refine AWpA.ret ?_ | (with_reducible refine ARoundsA.succ ?_) | ((first | refine Runs.gkt (fun h9 => ?_) | refine Runs.gkf (fun h9 => ?_) | refine Runs.gnt (fun h9 => ?_) | refine Runs.gnf (fun h9 => ?_) | refine CondP.gt (fun h9 => ?_) | refine CondP.gf (fun h9 => ?_) | refine CondP.gnt (fun h9 => ?_) | refine CondP.gnf (fun h9 => ?_)); (try simp only [h9]); clear h9) | refine CallG.pg [] (moved_any (v ^^^ by8 c)) ?_ | refine CallG.dg [] (moved_any (v ^^^ by8 c)) ?_); (try simp (maxSteps := 9999999) (disch := omega) only [go_sem, k9]); (try refine cnd ?_)) | ((first | refine CondP.split (fun hif => ?_) (fun hif => ?_) | refine Runs.part (fun hif => ?_) (fun hif => ?_)) <;> ((try simp only [hif]); (try simp only [BL] at hif); (try (have h9 : _ = true := hif; simp only [h9])); (try (have h9 : _ = false := hif; simp only [h9])); (try simp (maxSteps := 9999999) (disch := omega) only [go_sem, k9]); (try refine cnd ?_); (try (exfalso; omega; done)))))); (all_goals (try clear k9)))
    (apply Back.to (i + 1) [0]; (focus ((try simp (maxSteps := 9999999) (disch := omega) only [go_sem, g4, sg.ren]); first | done | omega)); rotate_left; (focus (simp (maxSteps := 9999999) (disch := omega) only [go_sem, g4, sg.ren]; (try (repeat' (first | done | trivial | rfl | exact leAs_rfl _ | decide | (refine And.intro ?_ ?_) | (simp; done) | omega | (simp; decide)))))))
    omega
  · obtain rfl : i = l.length := by omega
    (try simp (maxSteps := 9999999) (disch := omega) only [go_sem])
    (have k9 := k0; (repeat' (first | refine AWpA.seq ?_ | refine AWpA.block ?_ | (with_reducible refine CondP.tt ?_) | (with_reducible refine CondP.ff ?_) | refine AWpA.cg ?_ | ((first | refine AWpA.rg ?_ | refine AWpA.dg [] [] follows ?_ | refine TailK.tg ?_ | refine AWpA.skip ?_ | refine AWpA.exit ?_ | refine AWpA.ret ?_ | (with_reducible refine ARoundsA.succ ?_) | ((first | refine Runs.gkt (fun h9 => ?_) | refine Runs.gkf (fun h9 => ?_) | refine Runs.gnt (fun h9 => ?_) | refine Runs.gnf (fun h9 => ?_) | refine CondP.gt (fun h9 => ?_) | refine CondP.gf (fun h9 => ?_) | refine CondP.gnt (fun h9 => ?_) | refine CondP.gnf (fun h9 => ?_)); (try simp only [h9]); clear h9) | refine CallG.pg [] (turned_any (upd (~~~ s) l)) ?_ | refine CallG.dg [] (turned_any (upd (~~~ s) l)) ?_); (try simp (maxSteps := 9999999) (disch := omega) only [go_sem, k9]); (try refine cnd ?_)) | ((first | refine CondP.split (fun hif => ?_) (fun hif => ?_) | refine Runs.part (fun hif => ?_) (fun hif => ?_)) <;> ((try simp only [hif]); (try simp only [BL] at hif); (try (have h9 : _ = true := hif; simp only [h9])); (try (have h9 : _ = false := hif; simp only [h9])); (try simp (maxSteps := 9999999) (disch := omega) only [go_sem, k9]); (try refine cnd ?_); (try (exfalso; omega; done)))))); (all_goals (try clear k9)))
    (apply Ret.det [0]; (focus (first | exact .inl rfl | exact .inr rfl)); (focus (simp (maxSteps := 9999999) (disch := omega) only [go_sem, sg.ren, more]; rfl)); (simp (maxSteps := 9999999) (disch := omega) only [go_sem, sg.ren, more]; (try (repeat' (first | done | trivial | rfl | exact leAs_rfl _ | decide | (refine And.intro ?_ ?_) | (simp; done) | omega | (simp; decide))))))
theorem rsum_any {P : List AV} {o : Nat} {l : List Int} (sg : Seg P o l) (hby : ∀ x ∈ l, 0 ≤ x ∧ x ≤ 255) :
    ACall Try.prog 68 [.sl 0 o l.length 1 none] [.cells true P] (Det (U32 (sum l).toNat) [.cells true P]) := by
  have h := rmore_any 0#32 sg hby
  simp only [show ((0#32).toNat : Int) = 0 from rfl] at h
  refine ACall.startA c68_ok Try.func68 rfl Try.ntmps68 (by kernel_rfl) res68_ok rfl rfl rfl ?_; simp (maxSteps := 9999999) (disch := omega) only [go_sem]
  (have k9 := And.intro @sg.ren (k0); (repeat' (first | refine AWpA.seq ?_ | refine AWpA.block ?_ | (with_reducible refine CondP.tt ?_) | (with_reducible refine CondP.ff ?_) | refine AWpA.cg ?_ | ((first | refine AWpA.rg ?_ | refine AWpA.dg [] [] follows ?_ | refine TailK.tg ?_ | refine AWpA.skip ?_ | refine AWpA.exit ?_ | refine AWpA.ret ?_ | (with_reducible refine ARoundsA.succ ?_) | ((first | refine Runs.gkt (fun h9 => ?_) | refine Runs.gkf (fun h9 => ?_) | refine Runs.gnt (fun h9 => ?_) | refine Runs.gnf (fun h9 => ?_) | refine CondP.gt (fun h9 => ?_) | refine CondP.gf (fun h9 => ?_) | refine CondP.gnt (fun h9 => ?_) | refine CondP.gnf (fun h9 => ?_)); (try simp only [h9]); clear h9) | refine CallG.pg [0] (h) ?_ | refine CallG.dg [0] (h) ?_); (try simp (maxSteps := 9999999) (disch := omega) only [go_sem, k9]); (try refine cnd ?_)) | ((first | refine CondP.split (fun hif => ?_) (fun hif => ?_) | refine Runs.part (fun hif => ?_) (fun hif => ?_)) <;> ((try simp only [hif]); (try simp only [BL] at hif); (try (have h9 : _ = true := hif; simp only [h9])); (try (have h9 : _ = false := hif; simp only [h9])); (try simp (maxSteps := 9999999) (disch := omega) only [go_sem, k9]); (try refine cnd ?_); (try (exfalso; omega; done)))))); (all_goals (try clear k9)))
  (apply Ret.det [0]; (focus (first | exact .inl rfl | exact .inr rfl)); (focus (simp (maxSteps := 9999999) (disch := omega) only [go_sem, sg.ren, sum]; rfl)); (simp (maxSteps := 9999999) (disch := omega) only [go_sem, sg.ren, sum]; (try (repeat' (first | done | trivial | rfl | exact leAs_rfl _ | decide | (refine And.intro ?_ ?_) | (simp; done) | omega | (simp; decide))))))
end Go.Proofs.Ythbpdmlbfnjoiaa
