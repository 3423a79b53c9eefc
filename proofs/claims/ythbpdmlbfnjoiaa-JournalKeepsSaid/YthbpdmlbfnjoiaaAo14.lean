/- Contracts: the document's numbers; what a put does. -/
import Derived.Test.YthbpdmlbfnjoiaaAo12
import Derived.Test.YthbpdmlbfnjoiaaAb
namespace Go.Proofs.Ythbpdmlbfnjoiaa
set_option linter.unusedSimpArgs false
set_option linter.unusedVariables false
set_option maxHeartbeats 4000000
open Go Go.Am Go.RowKit
set_option maxRecDepth 100000
/- quidnunc/quidnuncref01.Number -/
noncomputable def c59_1 : ACode := .region false [⟨some 4, .move, [.c (.val (.slice none 0 0))], none⟩,
  ⟨some 5, .move, [.c (.val (.bool false))], none⟩] [] [] [0, 1] false [] []
noncomputable def c59_3 : ACode := .region false [⟨some 8, .buildSl 1 0 [(.int .u8 0)] [], [], none⟩,
  ⟨some 6, .move, [.t 8], none⟩] [] [] [0, 1, 6] true [] []
noncomputable def c59_6 : ACode := .region false [⟨some 7, .move, [.c (.val (.int .i64 0))], none⟩] [] [] [0, 1, 6, 7] false [] []
noncomputable def c59_11 : ACode := .region false [⟨some 9, .move, [.t 7], none⟩,
  ⟨some 10, .move, [.t 1], none⟩,
  ⟨some 11, .bin .lss, [.t 9, .t 10], none⟩] [] [] [0, 1, 6, 7, 11] false [] []
noncomputable def c59_12 : ACode := .cond (.t 11) .skip (.exit 0)
noncomputable def c59_10 : ACode := .seq c59_11 c59_12
noncomputable def c59_16 : ACode := .region false [⟨some 14, .move, [.t 6], none⟩,
  ⟨some 15, .move, [.t 0], none⟩,
  ⟨some 16, .bin .rem, [.t 15, .c (.val (.int .u64 256))], none⟩,
  ⟨some 17, .conv .u8, [.t 16], none⟩,
  ⟨some 18, .buildSl 1 1 [(.int .u8 0)] [(0, 1)], [.t 17], none⟩,
  ⟨some 19, .append 1 1 false, [.t 14, .t 18], none⟩,
  ⟨some 6, .move, [.t 19], none⟩] [] [] [0, 1, 6, 7] true [] []
noncomputable def c59_17 : ACode := .region false [⟨some 20, .move, [.t 0], none⟩,
  ⟨some 21, .bin .quo, [.t 20, .c (.val (.int .u64 256))], none⟩,
  ⟨some 0, .move, [.t 21], none⟩] [] [] [0, 1, 6, 7] false [] []
noncomputable def c59_15 : ACode := .seq c59_16 c59_17
noncomputable def c59_14 : ACode := .block 1 c59_15
noncomputable def c59_18 : ACode := .region false [⟨some 12, .move, [.t 7], none⟩,
  ⟨some 13, .bin .add, [.t 12, .c (.val (.int .i64 1))], none⟩,
  ⟨some 7, .move, [.t 13], none⟩] [] [] [0, 1, 6, 7] false [] []
noncomputable def c59_13 : ACode := .seq c59_14 c59_18
noncomputable def c59_9 : ACode := .seq c59_10 c59_13
noncomputable def c59_8 : ACode := .loop c59_9
noncomputable def c59_7 : ACode := .block 0 c59_8
noncomputable def c59_5 : ACode := .seq c59_6 c59_7
noncomputable def c59_20 : ACode := .region false [⟨some 22, .move, [.t 6], none⟩,
  ⟨some 23, .move, [.t 0], none⟩,
  ⟨some 24, .bin .eql, [.t 23, .c (.val (.int .u64 0))], none⟩,
  ⟨some 4, .move, [.t 22], none⟩,
  ⟨some 5, .move, [.t 24], none⟩] [] [] [4, 5] false [] []
noncomputable def c59_19 : ACode := .seq c59_20 .ret
noncomputable def c59_4 : ACode := .seq c59_5 c59_19
noncomputable def c59_2 : ACode := .seq c59_3 c59_4
noncomputable def c59_0 : ACode := .seq c59_1 c59_2
noncomputable def code59 : Code := (Try.f59.body).getD .skip
theorem c59_ok : compC Try.prog 25 code59 = some (strip c59_0) := by kernel_rfl
theorem res59_ok : Try.f59.results.toList.mapM (resC Try.prog) = some [(4, none), (5, none)] := by kernel_rfl
theorem div_pow (v : Int) (h : 0 ≤ v) (i : Nat) : (v / 256 ^ i).tdiv 256 = v / 256 ^ (i + 1) := by
  rw [Int.tdiv_eq_ediv_of_nonneg (Int.ediv_nonneg h (Int.pow_nonneg (by decide))), Int.ediv_ediv_of_nonneg (Int.pow_nonneg (by decide)), Int.pow_succ]
theorem refnum_any (v : Int) (h0 : 0 ≤ v ∧ v < 18446744073709551616) (n : Nat) (hn : n ≤ 8) : ACall Try.prog 59 [.val (.int .u64 v), I (n : Int)] [] (Det (.tup [.sl 0 0 n 1 none, Bo (v / 256 ^ n == 0)]) [.cells false (bA (leI v n))]) := by
  refine ACall.startA c59_ok Try.func59 rfl Try.ntmps59 (by kernel_rfl) res59_ok rfl rfl rfl ?_; simp (maxSteps := 9999999) (disch := omega) only [go_sem]
  (have k9 := k0; (repeat' (first | refine AWpA.seq ?_ | refine AWpA.block ?_ | (with_reducible refine CondP.tt ?_) | (with_reducible refine CondP.ff ?_) | refine AWpA.cg ?_ | ((first | refine AWpA.rg ?_ | refine AWpA.dg [] [] follows ?_ | refine TailK.tg ?_ | refine AWpA.skip ?_ | refine AWpA.exit ?_ | refine AWpA.ret ?_ | (with_reducible refine ARoundsA.succ ?_) | ((first | refine Runs.gkt (fun h9 => ?_) | refine Runs.gkf (fun h9 => ?_) | refine Runs.gnt (fun h9 => ?_) | refine Runs.gnf (fun h9 => ?_) | refine CondP.gt (fun h9 => ?_) | refine CondP.gf (fun h9 => ?_) | refine CondP.gnt (fun h9 => ?_) | refine CondP.gnf (fun h9 => ?_)); (try simp only [h9]); clear h9)); (try simp (maxSteps := 9999999) (disch := omega) only [go_sem, k9]); (try refine cnd ?_)) | ((first | refine CondP.split (fun hif => ?_) (fun hif => ?_) | refine Runs.part (fun hif => ?_) (fun hif => ?_)) <;> ((try simp only [hif]); (try simp only [BL] at hif); (try (have h9 : _ = true := hif; simp only [h9])); (try (have h9 : _ = false := hif; simp only [h9])); (try simp (maxSteps := 9999999) (disch := omega) only [go_sem, k9]); (try refine cnd ?_); (try (exfalso; omega; done)))))); (all_goals (try clear k9)))
  (apply AWpA.loopL (fun i : Nat => [(0, U64 (v / 256 ^ i)), (1, I n), (6, .sl 0 0 i 1 none), (7, I i)]) (fun i => [.cells false (bA (leI v i))]) (fun i => n - i) (fun i => i ≤ n) (0) [_]; rotate_left; (focus (simp (maxSteps := 9999999) (disch := omega) only [go_sem, leI, bA_nil, Int.pow_zero, Int.ediv_one]; (try (repeat' (first | done | trivial | rfl | exact leAs_rfl _ | decide | (refine And.intro ?_ ?_) | (simp; done) | omega | (simp; decide)))))); rotate_right)
  · exact Nat.zero_le _
  rintro i hi
  (try simp only at hi)
  by_cases hin : i < n
  · have g1 : ((i : Int) < (n : Int)) = True := eq_true (by omega)
    have g2 := div_pow v h0.1 i
    have g3 : IntKind.u8.wrap ((v / 256 ^ i).tmod 256) = byteI v (8 * i) := by
      rw [byteI_eq v i (by omega), Int.tmod_eq_emod_of_nonneg (Int.ediv_nonneg h0.1 (Int.pow_nonneg (by decide)))]
      simp [IntKind.wrap, IntKind.bits, IntKind.signed]
    have g4 : leI v (i + 1) = leI v i ++ [byteI v (8 * i)] := rfl
    have g5 := leI_len v i
    have g6 : 0 ≤ v / 256 ^ i := Int.ediv_nonneg h0.1 (Int.pow_nonneg (by decide))
    have g8 : 0 ≤ v / 256 ^ (i + 1) := Int.ediv_nonneg h0.1 (Int.pow_nonneg (by decide))
    have g9 : v / 256 ^ (i + 1) ≤ v := Int.ediv_le_self _ h0.1
    have g10 : (leI v i).take i = leI v i := List.take_of_length_le (by omega)
    have g7 : v / 256 ^ i ≤ v := Int.ediv_le_self _ h0.1
    (try simp (maxSteps := 9999999) (disch := omega) only [go_sem])
    (have k9 := And.intro @g1 (And.intro @g2 (And.intro @g3 (And.intro @g5 (k0)))); (repeat' (first | refine AWpA.seq ?_ | refine AWpA.block ?_ | (with_reducible refine CondP.tt ?_) | (with_reducible refine CondP.ff ?_) | refine AWpA.cg ?_ | ((first | refine AWpA.rg ?_ | refine AWpA.dg [] [] follows ?_ | refine TailK.tg ?_ | refine AWpA.skip ?_ | refine AWpA.exit ?_ | refine AWpA.ret ?_ | (with_reducible refine ARoundsA.succ ?_) | ((first | refine Runs.gkt (fun h9 => ?_) | refine Runs.gkf (fun h9 => ?_) | refine Runs.gnt (fun h9 => ?_) | refine Runs.gnf (fun h9 => ?_) | refine CondP.gt (fun h9 => ?_) | refine CondP.gf (fun h9 => ?_) | refine CondP.gnt (fun h9 => ?_) | refine CondP.gnf (fun h9 => ?_)); (try simp only [h9]); clear h9)); (try simp (maxSteps := 9999999) (disch := omega) only [go_sem, k9]); (try refine cnd ?_)) | ((first | refine CondP.split (fun hif => ?_) (fun hif => ?_) | refine Runs.part (fun hif => ?_) (fun hif => ?_)) <;> ((try simp only [hif]); (try simp only [BL] at hif); (try (have h9 : _ = true := hif; simp only [h9])); (try (have h9 : _ = false := hif; simp only [h9])); (try simp (maxSteps := 9999999) (disch := omega) only [go_sem, k9]); (try refine cnd ?_); (try (exfalso; omega; done)))))); (all_goals (try clear k9)))
    (apply Back.to (i + 1) [_]; (focus ((try simp (maxSteps := 9999999) (disch := omega) only [go_sem, g2, g4, g5, g10]); first | done | omega)); rotate_left; (focus (simp (maxSteps := 9999999) (disch := omega) only [go_sem, g2, g4, g5, g10]; (try (repeat' (first | done | trivial | rfl | exact leAs_rfl _ | decide | (refine And.intro ?_ ?_) | (simp; done) | omega | (simp; decide)))))))
    all_goals omega
  · obtain rfl : i = n := by omega
    (try simp (maxSteps := 9999999) (disch := omega) only [go_sem])
    (have k9 := k0; (repeat' (first | refine AWpA.seq ?_ | refine AWpA.block ?_ | (with_reducible refine CondP.tt ?_) | (with_reducible refine CondP.ff ?_) | refine AWpA.cg ?_ | ((first | refine AWpA.rg ?_ | refine AWpA.dg [] [] follows ?_ | refine TailK.tg ?_ | refine AWpA.skip ?_ | refine AWpA.exit ?_ | refine AWpA.ret ?_ | (with_reducible refine ARoundsA.succ ?_) | ((first | refine Runs.gkt (fun h9 => ?_) | refine Runs.gkf (fun h9 => ?_) | refine Runs.gnt (fun h9 => ?_) | refine Runs.gnf (fun h9 => ?_) | refine CondP.gt (fun h9 => ?_) | refine CondP.gf (fun h9 => ?_) | refine CondP.gnt (fun h9 => ?_) | refine CondP.gnf (fun h9 => ?_)); (try simp only [h9]); clear h9)); (try simp (maxSteps := 9999999) (disch := omega) only [go_sem, k9]); (try refine cnd ?_)) | ((first | refine CondP.split (fun hif => ?_) (fun hif => ?_) | refine Runs.part (fun hif => ?_) (fun hif => ?_)) <;> ((try simp only [hif]); (try simp only [BL] at hif); (try (have h9 : _ = true := hif; simp only [h9])); (try (have h9 : _ = false := hif; simp only [h9])); (try simp (maxSteps := 9999999) (disch := omega) only [go_sem, k9]); (try refine cnd ?_); (try (exfalso; omega; done)))))); (all_goals (try clear k9)))
    (apply Ret.det [_]; (focus (first | exact .inl rfl | exact .inr rfl)); (focus (simp (maxSteps := 9999999) (disch := omega) only [go_sem]; rfl)); (simp (maxSteps := 9999999) (disch := omega) only [go_sem]; (try (repeat' (first | done | trivial | rfl | exact leAs_rfl _ | decide | (refine And.intro ?_ ?_) | (simp; done) | omega | (simp; decide))))))
end Go.Proofs.Ythbpdmlbfnjoiaa
