/- Contracts: the document's numbers; what a put does. -/
import Derived.Test.YtopidfkmligljaaGreatAo12
import Derived.Test.YtopidfkmligljaaGreatAb
namespace Go.Proofs.YtopidfkmligljaaGreat
noncomputable section
set_option linter.unusedSimpArgs false
set_option linter.unusedVariables false
set_option maxHeartbeats 4000000
open Go Go.Am Go.RowKit
set_option maxRecDepth 100000
/- quidnunc/quidnuncref01.Number -/
def c123_1 : ACode := .region false [⟨some 4, .move, [.c (.val (.slice none 0 0))], none⟩,
  ⟨some 5, .move, [.c (.val (.bool false))], none⟩] [] [] [0, 1] false [] []
def c123_3 : ACode := .region false [⟨some 8, .buildSl 1 0 [(.int .u8 0)] [], [], none⟩,
  ⟨some 6, .move, [.t 8], none⟩] [] [] [0, 1, 6] true [] []
def c123_6 : ACode := .region false [⟨some 7, .move, [.c (.val (.int .i64 0))], none⟩] [] [] [0, 1, 6, 7] false [] []
def c123_11 : ACode := .region false [⟨some 9, .move, [.t 7], none⟩,
  ⟨some 10, .move, [.t 1], none⟩,
  ⟨some 11, .bin .lss, [.t 9, .t 10], none⟩] [] [] [0, 1, 6, 7, 11] false [] []
def c123_12 : ACode := .cond (.t 11) .skip (.exit 0)
def c123_10 : ACode := .seq c123_11 c123_12
def c123_16 : ACode := .region false [⟨some 14, .move, [.t 6], none⟩,
  ⟨some 15, .move, [.t 0], none⟩,
  ⟨some 16, .bin .rem, [.t 15, .c (.val (.int .u64 256))], none⟩,
  ⟨some 17, .conv .u8, [.t 16], none⟩,
  ⟨some 18, .buildSl 1 1 [(.int .u8 0)] [(0, 1)], [.t 17], none⟩,
  ⟨some 19, .append 1 1 false, [.t 14, .t 18], none⟩,
  ⟨some 6, .move, [.t 19], none⟩] [] [] [0, 1, 6, 7] true [] []
def c123_17 : ACode := .region false [⟨some 20, .move, [.t 0], none⟩,
  ⟨some 21, .bin .quo, [.t 20, .c (.val (.int .u64 256))], none⟩,
  ⟨some 0, .move, [.t 21], none⟩] [] [] [0, 1, 6, 7] false [] []
def c123_15 : ACode := .seq c123_16 c123_17
def c123_14 : ACode := .block 1 c123_15
def c123_18 : ACode := .region false [⟨some 12, .move, [.t 7], none⟩,
  ⟨some 13, .bin .add, [.t 12, .c (.val (.int .i64 1))], none⟩,
  ⟨some 7, .move, [.t 13], none⟩] [] [] [0, 1, 6, 7] false [] []
def c123_13 : ACode := .seq c123_14 c123_18
def c123_9 : ACode := .seq c123_10 c123_13
def c123_8 : ACode := .loop c123_9
def c123_7 : ACode := .block 0 c123_8
def c123_5 : ACode := .seq c123_6 c123_7
def c123_20 : ACode := .region false [⟨some 22, .move, [.t 6], none⟩,
  ⟨some 23, .move, [.t 0], none⟩,
  ⟨some 24, .bin .eql, [.t 23, .c (.val (.int .u64 0))], none⟩,
  ⟨some 4, .move, [.t 22], none⟩,
  ⟨some 5, .move, [.t 24], none⟩] [] [] [4, 5] false [] []
def c123_19 : ACode := .seq c123_20 .ret
def c123_4 : ACode := .seq c123_5 c123_19
def c123_2 : ACode := .seq c123_3 c123_4
def c123_0 : ACode := .seq c123_1 c123_2
def code123 : Code := (Tryz.f123.body).getD .skip
theorem c123_ok : compC Tryz.prog 25 code123 = some (strip c123_0) := by kernel_rfl
theorem res123_ok : Tryz.f123.results.toList.mapM (resC Tryz.prog) = some [(4, none), (5, none)] := by kernel_rfl
theorem div_pow (v : Int) (h : 0 ≤ v) (i : Nat) : (v / 256 ^ i).tdiv 256 = v / 256 ^ (i + 1) := by
  rw [Int.tdiv_eq_ediv_of_nonneg (Int.ediv_nonneg h (Int.pow_nonneg (by decide))), Int.ediv_ediv_of_nonneg (Int.pow_nonneg (by decide)), Int.pow_succ]
theorem refnum_any (v : Int) (h0 : 0 ≤ v ∧ v < 18446744073709551616) (n : Nat) (hn : n ≤ 8) : ACall Tryz.prog 123 [.val (.int .u64 v), I (n : Int)] [] (Det (.tup [.sl 0 0 n 1 none, Bo (v / 256 ^ n == 0)]) [.cells false (bA (leI v n))]) := by
  refine ACall.startA c123_ok Tryz.func123 rfl Tryz.ntmps123 (by kernel_rfl) res123_ok rfl rfl rfl ?_; simp (maxSteps := 9999999) (disch := omega) only [go_sem]
  (have k9 := k0; (repeat' (first | refine AWpA.seq ?_ | refine AWpA.block ?_ | (with_reducible refine CondP.tt ?_) | (with_reducible refine CondP.ff ?_) | refine AWpA.cg ?_ | ((first | refine AWpA.rg ?_ | refine AWpA.dg [] [] follows ?_ | refine TailK.tg ?_ | refine AWpA.skip ?_ | refine AWpA.exit ?_ | refine AWpA.ret ?_ | (with_reducible refine ARoundsA.succ ?_) | ((first | refine Runs.gkt (fun h9 => ?_) | refine Runs.gkf (fun h9 => ?_) | refine Runs.gnt (fun h9 => ?_) | refine Runs.gnf (fun h9 => ?_) | refine CondP.gt (fun h9 => ?_) | refine CondP.gf (fun h9 => ?_) | refine CondP.gnt (fun h9 => ?_) | refine CondP.gnf (fun h9 => ?_)); (try simp only [h9]); clear h9)); (try simp (maxSteps := 9999999) (disch := omega) only [go_sem, k9]); (try refine cnd ?_)) | ((first | refine CondP.split (fun hif => ?_) (fun hif => ?_) | refine Runs.part (fun hif => ?_) (fun hif => ?_)) <;> ((try simp only [hif]); (try simp only [BL] at hif); (try (have h9 : _ = true := hif; simp only [h9])); (try (have h9 : _ = false := hif; simp only [h9])); (try simp (maxSteps := 9999999) (disch := omega) only [go_sem, k9]); (try refine cnd ?_); (try (exfalso; omega; done)))))); (all_goals (try clear k9)))
  (apply AWpA.loopL (fun i : Nat => [(0, U64 (v / 256 ^ i)), (1, I n), (6, .sl 0 0 i 1 none), (7, I i)]) (fun i => [.cells false (bA (leI v i))]) (fun i => n - i) (fun i => i ≤ n) (0) [_]; rotate_left; (focus (simp (maxSteps := 9999999) (disch := omega) only [go_sem, leI, bA_nil, Int.pow_zero, Int.ediv_one]; (try (repeat' (first | done | trivial | rfl | exact leAs_rfl _ | decide | (refine And.intro ?_ ?_) | (simp; done) | omega | (simp; decide)))))); rotate_right)
  · exact Nat.zero_le _
  rintro i hi
  (try simp only at hi)
  by_cases hin : i < n
  · have g1 : ((i : Int) < (n : Int)) = True := eq_true (by omega)
    have g2 := div_pow v h0.1 i
    have g3 : IntKind.u8.wrap ((v / 256 ^ i).tmod 256) = byteI v (8 * i) := by
      rw [byteI_eq v i (by omega), Int.tmod_eq_emod_of_nonneg (Int.ediv_nonneg h0.1 (Int.pow_nonneg (by decide)))]
      simp [IntKind.wrap, IntKind.bits, IntKind.signed]
    have g4 : leI v (i + 1) = leI v i ++ [byteI v (8 * i)] := rfl
    have g5 := leI_len v i
    have g6 : 0 ≤ v / 256 ^ i := Int.ediv_nonneg h0.1 (Int.pow_nonneg (by decide))
    have g8 : 0 ≤ v / 256 ^ (i + 1) := Int.ediv_nonneg h0.1 (Int.pow_nonneg (by decide))
    have g9 : v / 256 ^ (i + 1) ≤ v := Int.ediv_le_self _ h0.1
    have g10 : (leI v i).take i = leI v i := List.take_of_length_le (by omega)
    have g7 : v / 256 ^ i ≤ v := Int.ediv_le_self _ h0.1
    (try simp (maxSteps := 9999999) (disch := omega) only [go_sem])
    (have k9 := And.intro @g1 (And.intro @g2 (And.intro @g3 (And.intro @g5 (k0)))); (repeat' (first | refine AWpA.seq ?_ | refine AWpA.block ?_ | (with_reducible refine CondP.tt ?_) | (with_reducible refine CondP.ff ?_) | refine AWpA.cg ?_ | ((first | refine AWpA.rg ?_ | refine AWpA.dg [] [] follows ?_ | refine TailK.tg ?_ | refine AWpA.skip ?_ | refine AWpA.exit ?_ | refine AWpA.ret ?_ | (with_reducible refine ARoundsA.succ ?_) | ((first | refine Runs.gkt (fun h9 => ?_) | refine Runs.gkf (fun h9 => ?_) | refine Runs.gnt (fun h9 => ?_) | refine Runs.gnf (fun h9 => ?_) | refine CondP.gt (fun h9 => ?_) | refine CondP.gf (fun h9 => ?_) | refine CondP.gnt (fun h9 => ?_) | refine CondP.gnf (fun h9 => ?_)); (try simp only [h9]); clear h9)); (try simp (maxSteps := 9999999) (disch := omega) only [go_sem, k9]); (try refine cnd ?_)) | ((first | refine CondP.split (fun hif => ?_) (fun hif => ?_) | refine Runs.part (fun hif => ?_) (fun hif => ?_)) <;> ((try simp only [hif]); (try simp only [BL] at hif); (try (have h9 : _ = true := hif; simp only [h9])); (try (have h9 : _ = false := hif; simp only [h9])); (try simp (maxSteps := 9999999) (disch := omega) only [go_sem, k9]); (try refine cnd ?_); (try (exfalso; omega; done)))))); (all_goals (try clear k9)))
    (apply Back.to (i + 1) [_]; (focus ((try simp (maxSteps := 9999999) (disch := omega) only [go_sem, g2, g4, g5, g10]); first | done | omega)); rotate_left; (focus (simp (maxSteps := 9999999) (disch := omega) only [go_sem, g2, g4, g5, g10]; (try (repeat' (first | done | trivial | rfl | exact leAs_rfl _ | decide | (refine And.intro ?_ ?_) | (simp; done) | omega | (simp; decide)))))))
    all_goals omega
  · obtain rfl : i = n := by omega
    (try simp (maxSteps := 9999999) (disch := omega) only [go_sem])
    (have k9 := k0; (repeat' (first | refine AWpA.seq ?_ | refine AWpA.block ?_ | (with_reducible refine CondP.tt ?_) | (with_reducible refine CondP.ff ?_) | refine AWpA.cg ?_ | ((first | refine AWpA.rg ?_ | refine AWpA.dg [] [] follows ?_ | refine TailK.tg ?_ | refine AWpA.skip ?_ | refine AWpA.exit ?_ | refine AWpA.ret ?_ | (with_reducible refine ARoundsA.succ ?_) | ((first | refine Runs.gkt (fun h9 => ?_) | refine Runs.gkf (fun h9 => ?_) | refine Runs.gnt (fun h9 => ?_) | refine Runs.gnf (fun h9 => ?_) | refine CondP.gt (fun h9 => ?_) | refine CondP.gf (fun h9 => ?_) | refine CondP.gnt (fun h9 => ?_) | refine CondP.gnf (fun h9 => ?_)); (try simp only [h9]); clear h9)); (try simp (maxSteps := 9999999) (disch := omega) only [go_sem, k9]); (try refine cnd ?_)) | ((first | refine CondP.split (fun hif => ?_) (fun hif => ?_) | refine Runs.part (fun hif => ?_) (fun hif => ?_)) <;> ((try simp only [hif]); (try simp only [BL] at hif); (try (have h9 : _ = true := hif; simp only [h9])); (try (have h9 : _ = false := hif; simp only [h9])); (try simp (maxSteps := 9999999) (disch := omega) only [go_sem, k9]); (try refine cnd ?_); (try (exfalso; omega; done)))))); (all_goals (try clear k9)))
    (apply Ret.det [_]; (focus (first | exact .inl rfl | exact .inr rfl)); (focus (simp (maxSteps := 9999999) (disch := omega) only [go_sem]; rfl)); (simp (maxSteps := 9999999) (disch := omega) only [go_sem]; (try (repeat' (first | done | trivial | rfl | exact leAs_rfl _ | decide | (refine And.intro ?_ ?_) | (simp; done) | omega | (simp; decide))))))
end
end Go.Proofs.YtopidfkmligljaaGreat
