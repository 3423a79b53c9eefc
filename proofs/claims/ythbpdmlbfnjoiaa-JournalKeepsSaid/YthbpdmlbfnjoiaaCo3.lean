/- Contracts: the rows of a table of sums. -/
import Derived.Test.YthbpdmlbfnjoiaaCo2
import Derived.Test.YthbpdmlbfnjoiaaCq
import Derived.Test.YthbpdmlbfnjoiaaAb
namespace Go.Proofs.Ythbpdmlbfnjoiaa
set_option linter.unusedSimpArgs false
set_option linter.unusedVariables false
set_option maxHeartbeats 4000000
open Go Go.Am Go.RowKit Go.Crc
set_option maxRecDepth 100000
/- quidnunc/crc.down -/
noncomputable def c90_1 : ACode := .region false [⟨some 2, .move, [.c (.val (.int .u32 0))], none⟩] [] [] [0] false [] []
noncomputable def c90_4 : ACode := .region false [⟨some 3, .move, [.t 0], none⟩,
  ⟨some 4, .bin .and, [.t 3, .c (.val (.int .u32 1))], none⟩,
  ⟨some 5, .bin .eql, [.t 4, .c (.val (.int .u32 1))], none⟩] [] [] [0, 5] false [] []
noncomputable def c90_7 : ACode := .region false [⟨some 6, .move, [.t 0], none⟩,
  ⟨some 7, .bin .shr, [.t 6, .c (.val (.int .u64 1))], none⟩,
  ⟨some 8, .bin .xor, [.t 7, .c (.val (.int .u32 3988292384))], none⟩,
  ⟨some 2, .move, [.t 8], none⟩] [] [] [2] false [] []
noncomputable def c90_6 : ACode := .seq c90_7 .ret
noncomputable def c90_5 : ACode := .cond (.t 5) c90_6 .skip
noncomputable def c90_3 : ACode := .seq c90_4 c90_5
noncomputable def c90_9 : ACode := .region false [⟨some 9, .move, [.t 0], none⟩,
  ⟨some 10, .bin .shr, [.t 9, .c (.val (.int .u64 1))], none⟩,
  ⟨some 2, .move, [.t 10], none⟩] [] [] [2] false [] []
noncomputable def c90_8 : ACode := .seq c90_9 .ret
noncomputable def c90_2 : ACode := .seq c90_3 c90_8
noncomputable def c90_0 : ACode := .seq c90_1 c90_2
noncomputable def code90 : Code := (Try.f90.body).getD .skip
theorem c90_ok : compC Try.prog 11 code90 = some (strip c90_0) := by kernel_rfl
theorem res90_ok : Try.f90.results.toList.mapM (resC Try.prog) = some [(2, none)] := by kernel_rfl
/- (*quidnunc/crc.Table).fill -/
noncomputable def c87_1 : ACode := .region false [⟨some 4, .move, [.c (.val (.int .i64 0))], none⟩] [] [] [0, 4] false [] []
noncomputable def c87_5 : ACode := .region false [⟨some 5, .bin .lss, [.t 4, .c (.val (.int .i64 256))], none⟩] [] [] [0, 4, 5] false [] []
noncomputable def c87_7 : ACode := .cond (.t 5) .skip (.exit 0)
noncomputable def c87_11 : ACode := .region false [⟨some 6, .move, [.t 4], none⟩,
  ⟨some 2, .move, [.t 6], none⟩] [] [] [0, 2, 4] false [] []
noncomputable def c87_13 : ACode := .region false [⟨some 7, .move, [.t 2], none⟩,
  ⟨some 8, .conv .u32, [.t 7], none⟩,
  ⟨some 3, .move, [.t 8], none⟩] [] [] [0, 2, 3, 4] false [] []
noncomputable def c87_16 : ACode := .region false [⟨some 9, .move, [.c (.val (.int .i64 0))], none⟩] [] [] [0, 2, 3, 4, 9] false [] []
noncomputable def c87_20 : ACode := .region false [⟨some 10, .bin .lss, [.t 9, .c (.val (.int .i64 8))], none⟩] [] [] [0, 2, 3, 4, 9, 10] false [] []
noncomputable def c87_22 : ACode := .cond (.t 10) .skip (.exit 2)
noncomputable def c87_25 : ACode := .region false [⟨some 11, .move, [.t 3], none⟩,
  ⟨some 12, .call 90, [.t 11], none⟩,
  ⟨some 3, .move, [.t 12], none⟩] [] [] [0, 2, 3, 4, 9] true [] []
noncomputable def c87_24 : ACode := .block 3 c87_25
noncomputable def c87_26 : ACode := .region false [⟨some 13, .bin .add, [.t 9, .c (.val (.int .i64 1))], none⟩,
  ⟨some 9, .move, [.t 13], none⟩] [] [] [0, 2, 3, 4, 9] false [] []
noncomputable def c87_23 : ACode := .seq c87_24 c87_26
noncomputable def c87_21 : ACode := .seq c87_22 c87_23
noncomputable def c87_19 : ACode := .seq c87_20 c87_21
noncomputable def c87_18 : ACode := .loop c87_19
noncomputable def c87_17 : ACode := .block 2 c87_18
noncomputable def c87_15 : ACode := .seq c87_16 c87_17
noncomputable def c87_27 : ACode := .region false [⟨some 14, .move, [.t 0], none⟩,
  ⟨some 15, .move, [.t 2], none⟩,
  ⟨some 16, .move, [.t 3], none⟩,
  ⟨some 17, .nilChk, [.t 14], none⟩,
  ⟨some 18, .addr 3, [.t 17], none⟩,
  ⟨some 19, .ixA 256 1, [.t 18, .t 15], none⟩,
  ⟨none, .store 1, [.t 19, .t 16], none⟩] [] [] [0, 4] true [] []
noncomputable def c87_14 : ACode := .seq c87_15 c87_27
noncomputable def c87_12 : ACode := .seq c87_13 c87_14
noncomputable def c87_10 : ACode := .seq c87_11 c87_12
noncomputable def c87_9 : ACode := .block 1 c87_10
noncomputable def c87_28 : ACode := .region false [⟨some 20, .bin .add, [.t 4, .c (.val (.int .i64 1))], none⟩,
  ⟨some 4, .move, [.t 20], none⟩] [] [] [0, 4] false [] []
noncomputable def c87_8 : ACode := .seq c87_9 c87_28
noncomputable def c87_6 : ACode := .seq c87_7 c87_8
noncomputable def c87_4 : ACode := .seq c87_5 c87_6
noncomputable def c87_3 : ACode := .loop c87_4
noncomputable def c87_2 : ACode := .block 0 c87_3
noncomputable def c87_0 : ACode := .seq c87_1 c87_2
noncomputable def code87 : Code := (Try.f87.body).getD .skip
theorem c87_ok : compC Try.prog 21 code87 = some (strip c87_0) := by kernel_rfl
theorem res87_ok : Try.f87.results.toList.mapM (resC Try.prog) = some [] := by kernel_rfl
/- (*sync.Once).Do -/
noncomputable def c86_1 : ACode := .region false [⟨some 4, .move, [.t 0], none⟩,
  ⟨some 5, .nilChk, [.t 4], none⟩,
  ⟨some 6, .addr 0, [.t 5], none⟩,
  ⟨some 7, .call 88, [.t 6], none⟩,
  ⟨some 8, .un .not, [.t 7], none⟩] [] [] [0, 1, 8] true [] []
noncomputable def c86_3 : ACode := .region false [⟨some 9, .move, [.t 0], none⟩,
  ⟨some 10, .move, [.t 1], none⟩,
  ⟨some 11, .call 89, [.t 9, .t 10], none⟩] [] [] [] true [] []
noncomputable def c86_2 : ACode := .cond (.t 8) c86_3 .skip
noncomputable def c86_0 : ACode := .seq c86_1 c86_2
noncomputable def code86 : Code := (Try.f86.body).getD .skip
theorem c86_ok : compC Try.prog 12 code86 = some (strip c86_0) := by kernel_rfl
theorem res86_ok : Try.f86.results.toList.mapM (resC Try.prog) = some [] := by kernel_rfl
theorem down_any (v : R) : ACall Try.prog 90 [U32 v.toNat] [] (Det (U32 (dn v).toNat) []) := by
  refine ACall.startA c90_ok Try.func90 rfl Try.ntmps90 (by kernel_rfl) res90_ok rfl rfl rfl ?_; simp (maxSteps := 9999999) (disch := omega) only [go_sem]
  have h := and1 v
  cases hb : v.getLsbD 0
  · rw [hb] at h
    have g := dn_false hb
    simp only [Bool.false_eq_true, if_false] at h
    (have k9 := And.intro @h (And.intro @shr1 (And.intro @x32_poly (And.intro @g (k0)))); (repeat' (first | refine AWpA.seq ?_ | refine AWpA.block ?_ | (with_reducible refine CondP.tt ?_) | (with_reducible refine CondP.ff ?_) | refine AWpA.cg ?_ | ((first | refine AWpA.rg ?_ | refine AWpA.dg [] [] follows ?_ | refine TailK.tg ?_ | refine AWpA.skip ?_ | refine AWpA.exit ?_ | refine AWpA.ret ?_ | (with_reducible refine ARoundsA.succ ?_) | ((first | refine Runs.gkt (fun h9 => ?_) | refine Runs.gkf (fun h9 => ?_) | refine Runs.gnt (fun h9 => ?_) | refine Runs.gnf (fun h9 => ?_) | refine CondP.gt (fun h9 => ?_) | refine CondP.gf (fun h9 => ?_) | refine CondP.gnt (fun h9 => ?_) | refine CondP.gnf (fun h9 => ?_)); (try simp only [h9]); clear h9)); (try simp (maxSteps := 9999999) (disch := omega) only [go_sem, k9]); (try refine cnd ?_)) | ((first | refine CondP.split (fun hif => ?_) (fun hif => ?_) | refine Runs.part (fun hif => ?_) (fun hif => ?_)) <;> ((try simp only [hif]); (try simp only [BL] at hif); (try (have h9 : _ = true := hif; simp only [h9])); (try (have h9 : _ = false := hif; simp only [h9])); (try simp (maxSteps := 9999999) (disch := omega) only [go_sem, k9]); (try refine cnd ?_); (try (exfalso; omega; done)))))); (all_goals (try clear k9)))
    (apply Ret.det []; (focus (first | exact .inl rfl | exact .inr rfl)); (focus (simp (maxSteps := 9999999) (disch := omega) only [go_sem, g]; rfl)); (simp (maxSteps := 9999999) (disch := omega) only [go_sem, g]; (try (repeat' (first | done | trivial | rfl | exact leAs_rfl _ | decide | (refine And.intro ?_ ?_) | (simp; done) | omega | (simp; decide))))))
  · rw [hb] at h
    have g := dn_true hb
    simp only [if_true] at h
    (have k9 := And.intro @h (And.intro @shr1 (And.intro @x32_poly (And.intro @g (k0)))); (repeat' (first | refine AWpA.seq ?_ | refine AWpA.block ?_ | (with_reducible refine CondP.tt ?_) | (with_reducible refine CondP.ff ?_) | refine AWpA.cg ?_ | ((first | refine AWpA.rg ?_ | refine AWpA.dg [] [] follows ?_ | refine TailK.tg ?_ | refine AWpA.skip ?_ | refine AWpA.exit ?_ | refine AWpA.ret ?_ | (with_reducible refine ARoundsA.succ ?_) | ((first | refine Runs.gkt (fun h9 => ?_) | refine Runs.gkf (fun h9 => ?_) | refine Runs.gnt (fun h9 => ?_) | refine Runs.gnf (fun h9 => ?_) | refine CondP.gt (fun h9 => ?_) | refine CondP.gf (fun h9 => ?_) | refine CondP.gnt (fun h9 => ?_) | refine CondP.gnf (fun h9 => ?_)); (try simp only [h9]); clear h9)); (try simp (maxSteps := 9999999) (disch := omega) only [go_sem, k9]); (try refine cnd ?_)) | ((first | refine CondP.split (fun hif => ?_) (fun hif => ?_) | refine Runs.part (fun hif => ?_) (fun hif => ?_)) <;> ((try simp only [hif]); (try simp only [BL] at hif); (try (have h9 : _ = true := hif; simp only [h9])); (try (have h9 : _ = false := hif; simp only [h9])); (try simp (maxSteps := 9999999) (disch := omega) only [go_sem, k9]); (try refine cnd ?_); (try (exfalso; omega; done)))))); (all_goals (try clear k9)))
    (apply Ret.det []; (focus (first | exact .inl rfl | exact .inr rfl)); (focus (simp (maxSteps := 9999999) (disch := omega) only [go_sem, g]; rfl)); (simp (maxSteps := 9999999) (disch := omega) only [go_sem, g]; (try (repeat' (first | done | trivial | rfl | exact leAs_rfl _ | decide | (refine And.intro ?_ ?_) | (simp; done) | omega | (simp; decide))))))
theorem fill_any : ACall Try.prog 87 [.ptr 0 0] [.cells false (U32 0 :: I32 1 :: U32 0 :: rows0)] (Det (.tup []) [.cells false (U32 0 :: I32 1 :: U32 0 :: rows)]) := by
  rw [← fl_zero, ← fl_end]
  refine ACall.startA c87_ok Try.func87 rfl Try.ntmps87 (by kernel_rfl) res87_ok rfl rfl rfl ?_; simp (maxSteps := 9999999) (disch := omega) only [go_sem]
  (have k9 := k0; (repeat' (first | refine AWpA.seq ?_ | refine AWpA.block ?_ | (with_reducible refine CondP.tt ?_) | (with_reducible refine CondP.ff ?_) | refine AWpA.cg ?_ | ((first | refine AWpA.rg ?_ | refine AWpA.dg [] [] follows ?_ | refine TailK.tg ?_ | refine AWpA.skip ?_ | refine AWpA.exit ?_ | refine AWpA.ret ?_ | (with_reducible refine ARoundsA.succ ?_) | ((first | refine Runs.gkt (fun h9 => ?_) | refine Runs.gkf (fun h9 => ?_) | refine Runs.gnt (fun h9 => ?_) | refine Runs.gnf (fun h9 => ?_) | refine CondP.gt (fun h9 => ?_) | refine CondP.gf (fun h9 => ?_) | refine CondP.gnt (fun h9 => ?_) | refine CondP.gnf (fun h9 => ?_)); (try simp only [h9]); clear h9)); (try simp (maxSteps := 9999999) (disch := omega) only [go_sem, k9]); (try refine cnd ?_)) | ((first | refine CondP.split (fun hif => ?_) (fun hif => ?_) | refine Runs.part (fun hif => ?_) (fun hif => ?_)) <;> ((try simp only [hif]); (try simp only [BL] at hif); (try (have h9 : _ = true := hif; simp only [h9])); (try (have h9 : _ = false := hif; simp only [h9])); (try simp (maxSteps := 9999999) (disch := omega) only [go_sem, k9]); (try refine cnd ?_); (try (exfalso; omega; done)))))); (all_goals (try clear k9)))
  (apply AWpA.loopL (fun i : Nat => [(0, .ptr 0 0), (4, I i)]) (fun i => [.cells false (fl i)]) (fun i => 256 - i) (fun i => i ≤ 256) (0) [0]; rotate_left; (focus (simp (maxSteps := 9999999) (disch := omega) only [go_sem, fl_ren]; (try (repeat' (first | done | trivial | rfl | exact leAs_rfl _ | decide | (refine And.intro ?_ ?_) | (simp; done) | omega | (simp; decide)))))); rotate_right)
  · exact Nat.zero_le _
  rintro i hi
  (try simp only at hi)
  by_cases hin : i < 256
  · have g1 : ((i : Int) < 256) = True := eq_true (by omega)
    have g2 := fl_len i hi
    have g3 : IntKind.u32.wrap (i : Int) = ((dns 0 (BitVec.ofNat 32 i)).toNat : Int) := by
      simp only [dns, BitVec.toNat_ofNat, IntKind.wrap, IntKind.bits, IntKind.signed]; simp
    have g4 := fl_set i hin
    (try simp (maxSteps := 9999999) (disch := omega) only [go_sem])
    (have k9 := And.intro @g1 (And.intro @g2 (And.intro @g3 (k0))); (repeat' (first | refine AWpA.seq ?_ | refine AWpA.block ?_ | (with_reducible refine CondP.tt ?_) | (with_reducible refine CondP.ff ?_) | refine AWpA.cg ?_ | ((first | refine AWpA.rg ?_ | refine AWpA.dg [] [] follows ?_ | refine TailK.tg ?_ | refine AWpA.skip ?_ | refine AWpA.exit ?_ | refine AWpA.ret ?_ | (with_reducible refine ARoundsA.succ ?_) | ((first | refine Runs.gkt (fun h9 => ?_) | refine Runs.gkf (fun h9 => ?_) | refine Runs.gnt (fun h9 => ?_) | refine Runs.gnf (fun h9 => ?_) | refine CondP.gt (fun h9 => ?_) | refine CondP.gf (fun h9 => ?_) | refine CondP.gnt (fun h9 => ?_) | refine CondP.gnf (fun h9 => ?_)); (try simp only [h9]); clear h9)); (try simp (maxSteps := 9999999) (disch := omega) only [go_sem, k9]); (try refine cnd ?_)) | ((first | refine CondP.split (fun hif => ?_) (fun hif => ?_) | refine Runs.part (fun hif => ?_) (fun hif => ?_)) <;> ((try simp only [hif]); (try simp only [BL] at hif); (try (have h9 : _ = true := hif; simp only [h9])); (try (have h9 : _ = false := hif; simp only [h9])); (try simp (maxSteps := 9999999) (disch := omega) only [go_sem, k9]); (try refine cnd ?_); (try (exfalso; omega; done)))))); (all_goals (try clear k9)))
    (apply AWpA.loopL (fun k : Nat => [(0, .ptr 0 0), (2, I i), (3, U32 (dns k (BitVec.ofNat 32 i)).toNat), (4, I i), (9, I k)]) (fun k => [.cells false (fl i)]) (fun k => 8 - k) (fun k => k ≤ 8) (0) [0]; rotate_left; (focus (simp (maxSteps := 9999999) (disch := omega) only [go_sem, fl_ren, g3]; (try (repeat' (first | done | trivial | rfl | exact leAs_rfl _ | decide | (refine And.intro ?_ ?_) | (simp; done) | omega | (simp; decide)))))); rotate_right)
    · exact Nat.zero_le _
    rintro k hk
    (try simp only at hk)
    by_cases hkn : k < 8
    · have h1 : ((k : Int) < 8) = True := eq_true (by omega)
      (try simp (maxSteps := 9999999) (disch := omega) only [go_sem])
      (have k9 := And.intro @h1 (And.intro @g2 (k0)); (repeat' (first | refine AWpA.seq ?_ | refine AWpA.block ?_ | (with_reducible refine CondP.tt ?_) | (with_reducible refine CondP.ff ?_) | refine AWpA.cg ?_ | ((first | refine AWpA.rg ?_ | refine AWpA.dg [] [] follows ?_ | refine TailK.tg ?_ | refine AWpA.skip ?_ | refine AWpA.exit ?_ | refine AWpA.ret ?_ | (with_reducible refine ARoundsA.succ ?_) | ((first | refine Runs.gkt (fun h9 => ?_) | refine Runs.gkf (fun h9 => ?_) | refine Runs.gnt (fun h9 => ?_) | refine Runs.gnf (fun h9 => ?_) | refine CondP.gt (fun h9 => ?_) | refine CondP.gf (fun h9 => ?_) | refine CondP.gnt (fun h9 => ?_) | refine CondP.gnf (fun h9 => ?_)); (try simp only [h9]); clear h9) | refine CallG.pg [] (down_any _) ?_ | refine CallG.dg [] (down_any _) ?_); (try simp (maxSteps := 9999999) (disch := omega) only [go_sem, k9]); (try refine cnd ?_)) | ((first | refine CondP.split (fun hif => ?_) (fun hif => ?_) | refine Runs.part (fun hif => ?_) (fun hif => ?_)) <;> ((try simp only [hif]); (try simp only [BL] at hif); (try (have h9 : _ = true := hif; simp only [h9])); (try (have h9 : _ = false := hif; simp only [h9])); (try simp (maxSteps := 9999999) (disch := omega) only [go_sem, k9]); (try refine cnd ?_); (try (exfalso; omega; done)))))); (all_goals (try clear k9)))
      (apply Back.to (k + 1) [0]; (focus ((try simp (maxSteps := 9999999) (disch := omega) only [go_sem, dns_last, fl_ren]); first | done | omega)); rotate_left; (focus (simp (maxSteps := 9999999) (disch := omega) only [go_sem, dns_last, fl_ren]; (try (repeat' (first | done | trivial | rfl | exact leAs_rfl _ | decide | (refine And.intro ?_ ?_) | (simp; done) | omega | (simp; decide)))))))
      omega
    · obtain rfl : k = 8 := by omega
      have g5 := fl_put i hin
      (try simp (maxSteps := 9999999) (disch := omega) only [go_sem])
      (have k9 := And.intro @g1 (And.intro @g2 (And.intro @g3 (k0))); (repeat' (first | refine AWpA.seq ?_ | refine AWpA.block ?_ | (with_reducible refine CondP.tt ?_) | (with_reducible refine CondP.ff ?_) | refine AWpA.cg ?_ | ((first | refine AWpA.rg ?_ | refine AWpA.dg [] [] follows ?_ | refine TailK.tg ?_ | refine AWpA.skip ?_ | refine AWpA.exit ?_ | refine AWpA.ret ?_ | (with_reducible refine ARoundsA.succ ?_) | ((first | refine Runs.gkt (fun h9 => ?_) | refine Runs.gkf (fun h9 => ?_) | refine Runs.gnt (fun h9 => ?_) | refine Runs.gnf (fun h9 => ?_) | refine CondP.gt (fun h9 => ?_) | refine CondP.gf (fun h9 => ?_) | refine CondP.gnt (fun h9 => ?_) | refine CondP.gnf (fun h9 => ?_)); (try simp only [h9]); clear h9)); (try simp (maxSteps := 9999999) (disch := omega) only [go_sem, k9]); (try refine cnd ?_)) | ((first | refine CondP.split (fun hif => ?_) (fun hif => ?_) | refine Runs.part (fun hif => ?_) (fun hif => ?_)) <;> ((try simp only [hif]); (try simp only [BL] at hif); (try (have h9 : _ = true := hif; simp only [h9])); (try (have h9 : _ = false := hif; simp only [h9])); (try simp (maxSteps := 9999999) (disch := omega) only [go_sem, k9]); (try refine cnd ?_); (try (exfalso; omega; done)))))); (all_goals (try clear k9)))
      (apply Back.to (i + 1) [0]; (focus ((try simp (maxSteps := 9999999) (disch := omega) only [go_sem, g5, fl_ren]); first | done | omega)); rotate_left; (focus (simp (maxSteps := 9999999) (disch := omega) only [go_sem, g5, fl_ren]; (try (repeat' (first | done | trivial | rfl | exact leAs_rfl _ | decide | (refine And.intro ?_ ?_) | (simp; done) | omega | (simp; decide)))))))
      omega
  · obtain rfl : i = 256 := by omega
    (try simp (maxSteps := 9999999) (disch := omega) only [go_sem])
    (have k9 := k0; (repeat' (first | refine AWpA.seq ?_ | refine AWpA.block ?_ | (with_reducible refine CondP.tt ?_) | (with_reducible refine CondP.ff ?_) | refine AWpA.cg ?_ | ((first | refine AWpA.rg ?_ | refine AWpA.dg [] [] follows ?_ | refine TailK.tg ?_ | refine AWpA.skip ?_ | refine AWpA.exit ?_ | refine AWpA.ret ?_ | (with_reducible refine ARoundsA.succ ?_) | ((first | refine Runs.gkt (fun h9 => ?_) | refine Runs.gkf (fun h9 => ?_) | refine Runs.gnt (fun h9 => ?_) | refine Runs.gnf (fun h9 => ?_) | refine CondP.gt (fun h9 => ?_) | refine CondP.gf (fun h9 => ?_) | refine CondP.gnt (fun h9 => ?_) | refine CondP.gnf (fun h9 => ?_)); (try simp only [h9]); clear h9)); (try simp (maxSteps := 9999999) (disch := omega) only [go_sem, k9]); (try refine cnd ?_)) | ((first | refine CondP.split (fun hif => ?_) (fun hif => ?_) | refine Runs.part (fun hif => ?_) (fun hif => ?_)) <;> ((try simp only [hif]); (try simp only [BL] at hif); (try (have h9 : _ = true := hif; simp only [h9])); (try (have h9 : _ = false := hif; simp only [h9])); (try simp (maxSteps := 9999999) (disch := omega) only [go_sem, k9]); (try refine cnd ?_); (try (exfalso; omega; done)))))); (all_goals (try clear k9)))
    (apply Ret.det [0]; (focus (first | exact .inl rfl | exact .inr rfl)); (focus (simp (maxSteps := 9999999) (disch := omega) only [go_sem, fl_ren]; rfl)); (simp (maxSteps := 9999999) (disch := omega) only [go_sem, fl_ren]; (try (repeat' (first | done | trivial | rfl | exact leAs_rfl _ | decide | (refine And.intro ?_ ?_) | (simp; done) | omega | (simp; decide))))))
theorem do_any (d : Bool) : ACall Try.prog 86 [.ptr 0 0, .fn 87 [.ptr 0 0] []] [.cells false (tb d)] (Det (.tup []) [.cells false (tb true)]) := by
  have hs := slow_any (by kernel_rfl) fill_any
  cases d
  · have e1 : tb false = U32 0 :: I32 0 :: U32 0 :: rows0 := by unfold tb; rfl
    have e2 : tb true = U32 1 :: I32 0 :: U32 0 :: rows := by unfold tb; rfl
    rw [e1, e2]
    refine ACall.startA c86_ok Try.func86 rfl Try.ntmps86 (by kernel_rfl) res86_ok rfl rfl rfl ?_; simp (maxSteps := 9999999) (disch := omega) only [go_sem]
    (have k9 := And.intro @rows_ren (And.intro @rows0_ren (k0)); (repeat' (first | refine AWpA.seq ?_ | refine AWpA.block ?_ | (with_reducible refine CondP.tt ?_) | (with_reducible refine CondP.ff ?_) | refine AWpA.cg ?_ | ((first | refine AWpA.rg ?_ | refine AWpA.dg [] [] follows ?_ | refine TailK.tg ?_ | refine AWpA.skip ?_ | refine AWpA.exit ?_ | refine AWpA.ret ?_ | (with_reducible refine ARoundsA.succ ?_) | ((first | refine Runs.gkt (fun h9 => ?_) | refine Runs.gkf (fun h9 => ?_) | refine Runs.gnt (fun h9 => ?_) | refine Runs.gnf (fun h9 => ?_) | refine CondP.gt (fun h9 => ?_) | refine CondP.gf (fun h9 => ?_) | refine CondP.gnt (fun h9 => ?_) | refine CondP.gnf (fun h9 => ?_)); (try simp only [h9]); clear h9) | refine CallG.pg [0] (bload_any 0 (I32 0 :: U32 0 :: rows0)) ?_ | refine CallG.pg [0] (hs) ?_ | refine CallG.dg [0] (bload_any 0 (I32 0 :: U32 0 :: rows0)) ?_ | refine CallG.dg [0] (hs) ?_); (try simp (maxSteps := 9999999) (disch := omega) only [go_sem, k9]); (try refine cnd ?_)) | ((first | refine CondP.split (fun hif => ?_) (fun hif => ?_) | refine Runs.part (fun hif => ?_) (fun hif => ?_)) <;> ((try simp only [hif]); (try simp only [BL] at hif); (try (have h9 : _ = true := hif; simp only [h9])); (try (have h9 : _ = false := hif; simp only [h9])); (try simp (maxSteps := 9999999) (disch := omega) only [go_sem, k9]); (try refine cnd ?_); (try (exfalso; omega; done)))))); (all_goals (try clear k9)))
    (apply Ret.det [0]; (focus (first | exact .inl rfl | exact .inr rfl)); (focus (simp (maxSteps := 9999999) (disch := omega) only [go_sem, rows_ren]; rfl)); (simp (maxSteps := 9999999) (disch := omega) only [go_sem, rows_ren]; (try (repeat' (first | done | trivial | rfl | exact leAs_rfl _ | decide | (refine And.intro ?_ ?_) | (simp; done) | omega | (simp; decide))))))
  · have e2 : tb true = U32 1 :: I32 0 :: U32 0 :: rows := by unfold tb; rfl
    rw [e2]
    refine ACall.startA c86_ok Try.func86 rfl Try.ntmps86 (by kernel_rfl) res86_ok rfl rfl rfl ?_; simp (maxSteps := 9999999) (disch := omega) only [go_sem]
    (have k9 := And.intro @rows_ren (And.intro @rows0_ren (k0)); (repeat' (first | refine AWpA.seq ?_ | refine AWpA.block ?_ | (with_reducible refine CondP.tt ?_) | (with_reducible refine CondP.ff ?_) | refine AWpA.cg ?_ | ((first | refine AWpA.rg ?_ | refine AWpA.dg [] [] follows ?_ | refine TailK.tg ?_ | refine AWpA.skip ?_ | refine AWpA.exit ?_ | refine AWpA.ret ?_ | (with_reducible refine ARoundsA.succ ?_) | ((first | refine Runs.gkt (fun h9 => ?_) | refine Runs.gkf (fun h9 => ?_) | refine Runs.gnt (fun h9 => ?_) | refine Runs.gnf (fun h9 => ?_) | refine CondP.gt (fun h9 => ?_) | refine CondP.gf (fun h9 => ?_) | refine CondP.gnt (fun h9 => ?_) | refine CondP.gnf (fun h9 => ?_)); (try simp only [h9]); clear h9) | refine CallG.pg [0] (bload_any 1 (I32 0 :: U32 0 :: rows)) ?_ | refine CallG.dg [0] (bload_any 1 (I32 0 :: U32 0 :: rows)) ?_); (try simp (maxSteps := 9999999) (disch := omega) only [go_sem, k9]); (try refine cnd ?_)) | ((first | refine CondP.split (fun hif => ?_) (fun hif => ?_) | refine Runs.part (fun hif => ?_) (fun hif => ?_)) <;> ((try simp only [hif]); (try simp only [BL] at hif); (try (have h9 : _ = true := hif; simp only [h9])); (try (have h9 : _ = false := hif; simp only [h9])); (try simp (maxSteps := 9999999) (disch := omega) only [go_sem, k9]); (try refine cnd ?_); (try (exfalso; omega; done)))))); (all_goals (try clear k9)))
    (apply Ret.det [0]; (focus (first | exact .inl rfl | exact .inr rfl)); (focus (simp (maxSteps := 9999999) (disch := omega) only [go_sem, rows_ren]; rfl)); (simp (maxSteps := 9999999) (disch := omega) only [go_sem, rows_ren]; (try (repeat' (first | done | trivial | rfl | exact leAs_rfl _ | decide | (refine And.intro ?_ ?_) | (simp; done) | omega | (simp; decide))))))
end Go.Proofs.Ythbpdmlbfnjoiaa
