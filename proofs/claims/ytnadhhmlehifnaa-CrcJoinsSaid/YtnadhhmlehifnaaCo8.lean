/- Contracts: sums are joined. -/
import Derived.Test.YtnadhhmlehifnaaCo7
import Derived.Test.YtnadhhmlehifnaaCk
namespace Go.Crc
set_option linter.unusedSimpArgs false
set_option linter.unusedVariables false
set_option maxHeartbeats 4000000
open Go Go.Am
/-- The mark that goes down the bits of a product. -/
def mk1 (i : Nat) : R := (1#32 <<< 31) >>> i
theorem mk1_zero : (2147483648 : Int) = ((mk1 0).toNat : Int) := by decide
theorem mk1_succ (i : Nat) : mk1 i >>> 1 = mk1 (i + 1) := by unfold mk1; rw [← BitVec.shiftRight_add]
theorem mk1_pos {i : Nat} (h : i < 32) : 0 < (mk1 i).toNat := by revert h; revert i; decide
theorem mk1_end : (mk1 32).toNat = 0 := by decide
theorem and32 (a b : R) : bits .and .u32 (a.toNat : Int) (b.toNat : Int) = ((a &&& b).toNat : Int) := by
  rw [u32_and_nat _ _ a.isLt b.isLt, BitVec.toNat_and]
theorem mk1_bit {i : Nat} (h : i < 32) (k : Nat) : (mk1 i).getLsbD k = decide (k = 31 - i) := by
  unfold mk1
  rw [BitVec.getLsbD_ushiftRight, BitVec.getLsbD_shiftLeft]
  by_cases hk : k = 31 - i
  · subst hk
    have e : i + (31 - i) = 31 := by omega
    rw [e]; simp
  · by_cases h2 : i + k < 31
    · simp [h2, hk]
    · by_cases h3 : i + k < 32
      · omega
      · simp [hk, h3]
theorem and_mk1 {i : Nat} (h : i < 32) (a : R) : ((a &&& mk1 i) = 0#32) ↔ a.getLsbD (31 - i) = false := by
  constructor
  · intro e
    have := congrArg (BitVec.getLsbD · (31 - i)) e
    simp only [BitVec.getLsbD_and, mk1_bit h] at this
    simpa using this
  · intro e
    apply BitVec.eq_of_getLsbD_eq
    intro k _
    rw [BitVec.getLsbD_and, mk1_bit h]
    by_cases hk : k = 31 - i
    · subst hk; rw [e]; simp
    · simp [hk]
theorem and_mk1_ne {i : Nat} (h : i < 32) (a : R) : (((a &&& mk1 i).toNat : Int) != 0) = a.getLsbD (31 - i) := by
  cases e : a.getLsbD (31 - i) with
  | false => rw [(and_mk1 h a).2 e]; rfl
  | true =>
    rw [bne_iff_ne]
    intro h0
    have h1 : (a &&& mk1 i) = 0#32 := by apply BitVec.eq_of_toNat_eq; simpa using h0
    rw [(and_mk1 h a).1 h1] at e
    cases e
theorem odd64 (n : Nat) (h : n ≤ 9223372036854775807) : bits .and .i64 (n : Int) 1 = ((n % 2 : Nat) : Int) := by
  show IntKind.i64.wrap ((BitVec.ofInt 64 (n : Int) &&& BitVec.ofInt 64 1).toNat : Int) = _
  rw [BitVec.toNat_and, show (BitVec.ofInt 64 1).toNat = 1 from rfl, Nat.and_one_is_mod, BitVec.ofInt_natCast, BitVec.toNat_ofNat, Nat.mod_eq_of_lt (by omega : n < 2 ^ 64)]
  have h2 : n % 2 = 0 ∨ n % 2 = 1 := by omega
  rcases h2 with h2 | h2 <;> rw [h2] <;> rfl
theorem half64 (n : Nat) : (n : Int).fdiv (2 ^ Min.min 1 64) = ((n / 2 : Nat) : Int) := by
  rw [Int.fdiv_eq_ediv_of_nonneg _ (by decide)]
  have : ((2 : Int) ^ Min.min 1 64) = 2 := rfl
  rw [this]; omega
end Go.Crc
namespace Go.Proofs.Ytnadhhmlehifnaa
open Go Go.Am Go.RowKit Go.Crc
set_option linter.unusedSimpArgs false
set_option maxHeartbeats 4000000
set_option maxRecDepth 100000
/- quidnunc/crc.times -/
noncomputable def c57_1 : ACode := .region false [⟨some 4, .move, [.c (.val (.int .u32 0))], none⟩] [] [] [0, 1] false [] []
noncomputable def c57_3 : ACode := .region false [⟨some 5, .move, [.c (.val (.int .u32 0))], none⟩] [] [] [0, 1, 5] false [] []
noncomputable def c57_6 : ACode := .region false [⟨some 6, .move, [.c (.val (.int .u32 2147483648))], none⟩] [] [] [0, 1, 5, 6] false [] []
noncomputable def c57_11 : ACode := .region false [⟨some 7, .move, [.t 6], none⟩,
  ⟨some 8, .bin .gtr, [.t 7, .c (.val (.int .u32 0))], none⟩] [] [] [0, 1, 5, 6, 8] false [] []
noncomputable def c57_12 : ACode := .cond (.t 8) .skip (.exit 0)
noncomputable def c57_10 : ACode := .seq c57_11 c57_12
noncomputable def c57_17 : ACode := .region false [⟨some 11, .move, [.t 0], none⟩,
  ⟨some 12, .move, [.t 6], none⟩,
  ⟨some 13, .bin .and, [.t 11, .t 12], none⟩,
  ⟨some 14, .bin .neq, [.t 13, .c (.val (.int .u32 0))], none⟩] [] [] [0, 1, 5, 6, 14] false [] []
noncomputable def c57_19 : ACode := .region false [⟨some 15, .move, [.t 5], none⟩,
  ⟨some 16, .move, [.t 1], none⟩,
  ⟨some 17, .bin .xor, [.t 15, .t 16], none⟩,
  ⟨some 5, .move, [.t 17], none⟩] [] [] [0, 1, 5, 6] false [] []
noncomputable def c57_18 : ACode := .cond (.t 14) c57_19 .skip
noncomputable def c57_16 : ACode := .seq c57_17 c57_18
noncomputable def c57_20 : ACode := .region false [⟨some 18, .move, [.t 1], none⟩,
  ⟨some 19, .call 64, [.t 18], none⟩,
  ⟨some 1, .move, [.t 19], none⟩] [] [] [0, 1, 5, 6] true [] []
noncomputable def c57_15 : ACode := .seq c57_16 c57_20
noncomputable def c57_14 : ACode := .block 1 c57_15
noncomputable def c57_21 : ACode := .region false [⟨some 9, .move, [.t 6], none⟩,
  ⟨some 10, .bin .shr, [.t 9, .c (.val (.int .u64 1))], none⟩,
  ⟨some 6, .move, [.t 10], none⟩] [] [] [0, 1, 5, 6] false [] []
noncomputable def c57_13 : ACode := .seq c57_14 c57_21
noncomputable def c57_9 : ACode := .seq c57_10 c57_13
noncomputable def c57_8 : ACode := .loop c57_9
noncomputable def c57_7 : ACode := .block 0 c57_8
noncomputable def c57_5 : ACode := .seq c57_6 c57_7
noncomputable def c57_23 : ACode := .region false [⟨some 20, .move, [.t 5], none⟩,
  ⟨some 4, .move, [.t 20], none⟩] [] [] [4] false [] []
noncomputable def c57_22 : ACode := .seq c57_23 .ret
noncomputable def c57_4 : ACode := .seq c57_5 c57_22
noncomputable def c57_2 : ACode := .seq c57_3 c57_4
noncomputable def c57_0 : ACode := .seq c57_1 c57_2
noncomputable def code57 : Code := (Try.f57.body).getD .skip
theorem c57_ok : compC Try.prog 21 code57 = some (strip c57_0) := by kernel_rfl
theorem res57_ok : Try.f57.results.toList.mapM (resC Try.prog) = some [(4, none)] := by kernel_rfl
/- (*quidnunc/crc.Table).Join -/
noncomputable def c34_1 : ACode := .region false [⟨some 8, .move, [.c (.val (.int .u32 0))], none⟩] [] [] [1, 2, 3] false [] []
noncomputable def c34_3 : ACode := .region false [⟨some 9, .move, [.c (.val (.int .u32 2147483648))], none⟩,
  ⟨some 10, .move, [.c (.val (.int .u32 8388608))], none⟩] [] [] [1, 2, 3, 9, 10] false [] []
noncomputable def c34_9 : ACode := .region false [⟨some 11, .move, [.t 3], none⟩,
  ⟨some 12, .bin .gtr, [.t 11, .c (.val (.int .i64 0))], none⟩] [] [] [1, 2, 3, 9, 10, 12] false [] []
noncomputable def c34_10 : ACode := .cond (.t 12) .skip (.exit 0)
noncomputable def c34_8 : ACode := .seq c34_9 c34_10
noncomputable def c34_15 : ACode := .region false [⟨some 15, .move, [.t 3], none⟩,
  ⟨some 16, .bin .and, [.t 15, .c (.val (.int .i64 1))], none⟩,
  ⟨some 17, .bin .eql, [.t 16, .c (.val (.int .i64 1))], none⟩] [] [] [1, 2, 3, 9, 10, 17] false [] []
noncomputable def c34_17 : ACode := .region false [⟨some 18, .move, [.t 9], none⟩,
  ⟨some 19, .move, [.t 10], none⟩,
  ⟨some 20, .call 57, [.t 18, .t 19], none⟩,
  ⟨some 9, .move, [.t 20], none⟩] [] [] [1, 2, 3, 9, 10] true [] []
noncomputable def c34_16 : ACode := .cond (.t 17) c34_17 .skip
noncomputable def c34_14 : ACode := .seq c34_15 c34_16
noncomputable def c34_18 : ACode := .region false [⟨some 21, .move, [.t 10], none⟩,
  ⟨some 22, .move, [.t 10], none⟩,
  ⟨some 23, .call 57, [.t 21, .t 22], none⟩,
  ⟨some 10, .move, [.t 23], none⟩] [] [] [1, 2, 3, 9, 10] true [] []
noncomputable def c34_13 : ACode := .seq c34_14 c34_18
noncomputable def c34_12 : ACode := .block 1 c34_13
noncomputable def c34_19 : ACode := .region false [⟨some 13, .move, [.t 3], none⟩,
  ⟨some 14, .bin .shr, [.t 13, .c (.val (.int .u64 1))], none⟩,
  ⟨some 3, .move, [.t 14], none⟩] [] [] [1, 2, 3, 9, 10] false [] []
noncomputable def c34_11 : ACode := .seq c34_12 c34_19
noncomputable def c34_7 : ACode := .seq c34_8 c34_11
noncomputable def c34_6 : ACode := .loop c34_7
noncomputable def c34_5 : ACode := .block 0 c34_6
noncomputable def c34_21 : ACode := .region false [⟨some 24, .move, [.t 9], none⟩,
  ⟨some 25, .move, [.t 1], none⟩,
  ⟨some 26, .call 57, [.t 24, .t 25], none⟩,
  ⟨some 27, .move, [.t 2], none⟩,
  ⟨some 28, .bin .xor, [.t 26, .t 27], none⟩,
  ⟨some 8, .move, [.t 28], none⟩] [] [] [8] true [] []
noncomputable def c34_20 : ACode := .seq c34_21 .ret
noncomputable def c34_4 : ACode := .seq c34_5 c34_20
noncomputable def c34_2 : ACode := .seq c34_3 c34_4
noncomputable def c34_0 : ACode := .seq c34_1 c34_2
noncomputable def code34 : Code := (Try.f34.body).getD .skip
theorem c34_ok : compC Try.prog 29 code34 = some (strip c34_0) := by kernel_rfl
theorem res34_ok : Try.f34.results.toList.mapM (resC Try.prog) = some [(8, none)] := by kernel_rfl
/- quidnunc/quidnuncref02.Pass -/
noncomputable def c35_1 : ACode := .region false [⟨some 4, .move, [.c (.val (.int .u32 0))], none⟩] [] [] [0, 1] false [] []
noncomputable def c35_4 : ACode := .region false [⟨some 5, .move, [.c (.val (.int .i64 0))], none⟩] [] [] [0, 1, 5] false [] []
noncomputable def c35_9 : ACode := .region false [⟨some 6, .move, [.t 5], none⟩,
  ⟨some 7, .move, [.t 1], none⟩,
  ⟨some 8, .bin .lss, [.t 6, .t 7], none⟩] [] [] [0, 1, 5, 8] false [] []
noncomputable def c35_10 : ACode := .cond (.t 8) .skip (.exit 0)
noncomputable def c35_8 : ACode := .seq c35_9 c35_10
noncomputable def c35_13 : ACode := .region false [⟨some 11, .move, [.t 0], none⟩,
  ⟨some 12, .call 55, [.t 11], none⟩,
  ⟨some 0, .move, [.t 12], none⟩] [] [] [0, 1, 5] true [] []
noncomputable def c35_12 : ACode := .block 1 c35_13
noncomputable def c35_14 : ACode := .region false [⟨some 9, .move, [.t 5], none⟩,
  ⟨some 10, .bin .add, [.t 9, .c (.val (.int .i64 1))], none⟩,
  ⟨some 5, .move, [.t 10], none⟩] [] [] [0, 1, 5] false [] []
noncomputable def c35_11 : ACode := .seq c35_12 c35_14
noncomputable def c35_7 : ACode := .seq c35_8 c35_11
noncomputable def c35_6 : ACode := .loop c35_7
noncomputable def c35_5 : ACode := .block 0 c35_6
noncomputable def c35_3 : ACode := .seq c35_4 c35_5
noncomputable def c35_16 : ACode := .region false [⟨some 13, .move, [.t 0], none⟩,
  ⟨some 4, .move, [.t 13], none⟩] [] [] [4] false [] []
noncomputable def c35_15 : ACode := .seq c35_16 .ret
noncomputable def c35_2 : ACode := .seq c35_3 c35_15
noncomputable def c35_0 : ACode := .seq c35_1 c35_2
noncomputable def code35 : Code := (Try.f35.body).getD .skip
theorem c35_ok : compC Try.prog 14 code35 = some (strip c35_0) := by kernel_rfl
theorem res35_ok : Try.f35.results.toList.mapM (resC Try.prog) = some [(4, none)] := by kernel_rfl
theorem times_any (a b : R) : ACall Try.prog 57 [U32 a.toNat, U32 b.toNat] [] (Det (U32 (mul a b).toNat) []) := by
  have e0 := mk1_zero
  refine ACall.startA c57_ok Try.func57 rfl Try.ntmps57 (by kernel_rfl) res57_ok rfl rfl rfl ?_; simp (maxSteps := 9999999) (disch := omega) only [go_sem]
  (repeat' (first | refine AWpA.seq ?_ | refine AWpA.block ?_ | (with_reducible refine CondP.tt ?_) | (with_reducible refine CondP.ff ?_) | refine AWpA.condv (by simp (maxSteps := 9999999) (disch := omega) only [go_sem]; rfl) ?_ | ((first | (apply AWpA.region; (focus (simp (maxSteps := 9999999) (disch := omega) only [go_sem]; rfl))) | (apply AWpA.draw [] follows; (focus (simp (maxSteps := 9999999) (disch := omega) only [go_sem]; rfl)); (focus (simp (maxSteps := 9999999) (disch := omega) only [go_sem]; first | done | trivial)); (focus (simp (maxSteps := 9999999) (disch := omega) only [go_sem]; rfl))) | (apply TailK.go; (focus (simp (maxSteps := 9999999) (disch := omega) only [go_sem]; rfl))) | refine AWpA.skip ?_ | refine AWpA.exit ?_ | refine AWpA.ret ?_ | (with_reducible refine ARoundsA.succ ?_) | ((first | refine Runs.kt (by assumption) (fun h9 => ?_) | refine Runs.kf (by assumption) (fun h9 => ?_) | refine Runs.nt (by assumption) (fun h9 => ?_) | refine Runs.nf (by assumption) (fun h9 => ?_) | refine CondP.ht (by assumption) (fun h9 => ?_) | refine CondP.hf (by assumption) (fun h9 => ?_) | refine CondP.nt (by assumption) (fun h9 => ?_) | refine CondP.nf (by assumption) (fun h9 => ?_)); (try simp only [h9]); clear h9)); (try simp (maxSteps := 9999999) (disch := omega) only [go_sem]); (try (refine And.intro ?_ ?_; (focus (first | omega | (simp only [go_sem]; done) | (simp; done) | (simp; omega) | assumption))))) | ((first | refine CondP.split (fun hif => ?_) (fun hif => ?_) | refine Runs.part (fun hif => ?_) (fun hif => ?_)) <;> ((try simp only [hif]); (try simp only [decide_eq_true_eq, decide_eq_false_iff_not, Bool.not_eq_true, Bool.not_eq_false, Bool.not_eq_true', Bool.not_eq_false', beq_iff_eq, bne_iff_ne, bne_eq_false_iff_eq, beq_eq_false_iff_ne, ne_eq, Bool.and_eq_true, Bool.or_eq_true, Bool.or_eq_false_iff] at hif); (try (have h9 : _ = true := hif; simp only [h9])); (try (have h9 : _ = false := hif; simp only [h9])); (try simp (maxSteps := 9999999) (disch := omega) only [go_sem]); (try (refine And.intro ?_ ?_; (focus (first | omega | (simp only [go_sem]; done) | (simp; done) | (simp; omega) | assumption)))); (try (exfalso; omega; done))))))
  (apply AWpA.loopL (fun p : Nat × R => [(0, U32 a.toNat), (1, U32 (dns p.1 b).toNat), (5, U32 p.2.toNat), (6, U32 (mk1 p.1).toNat)]) (fun p => []) (fun p => 32 - p.1) (fun p => p.1 ≤ 32 ∧ tm (32 - p.1) a (dns p.1 b) p.2 = mul a b) ((0, 0#32)) []; rotate_left; (focus (simp (maxSteps := 9999999) (disch := omega) only [go_sem, e0, dns]; (try (repeat' (first | done | trivial | rfl | exact leAs_rfl _ | decide | (refine And.intro ?_ ?_) | (simp; done) | omega | (simp; decide)))))); rotate_right)
  · exact ⟨Nat.zero_le _, rfl⟩
  rintro ⟨i, o⟩ ⟨hi, hp⟩
  (try simp only at hi hp)
  by_cases hin : i < 32
  · have g1 : (0 < ((mk1 i).toNat : Int)) = True := eq_true (by have := mk1_pos hin; omega)
    have g2 := and_mk1_ne hin a
    have g3 := mk1_succ i
    have g4 : dn (dns i b) = dns (i + 1) b := (dns_last i b).symm
    obtain ⟨k, hk⟩ : ∃ k, 32 - i = k + 1 := ⟨31 - i, by omega⟩
    have hk2 : 31 - i = k := by omega
    have hk3 : 32 - (i + 1) = k := by omega
    rw [hk] at hp
    rw [hk2] at g2
    simp only [tm, g4] at hp
    cases hb : a.getLsbD k
    · rw [hb] at g2 hp
      simp only [Bool.false_eq_true, if_false] at hp
      (try simp (maxSteps := 9999999) (disch := omega) only [go_sem])
      (repeat' (first | refine AWpA.seq ?_ | refine AWpA.block ?_ | (with_reducible refine CondP.tt ?_) | (with_reducible refine CondP.ff ?_) | refine AWpA.condv (by simp (maxSteps := 9999999) (disch := omega) only [go_sem, g1, and32, g2, shr1, g3, g4]; rfl) ?_ | ((first | (apply AWpA.region; (focus (simp (maxSteps := 9999999) (disch := omega) only [go_sem, g1, and32, g2, shr1, g3, g4]; rfl))) | (apply AWpA.draw [] follows; (focus (simp (maxSteps := 9999999) (disch := omega) only [go_sem, g1, and32, g2, shr1, g3, g4]; rfl)); (focus (simp (maxSteps := 9999999) (disch := omega) only [go_sem, g1, and32, g2, shr1, g3, g4]; first | done | trivial)); (focus (simp (maxSteps := 9999999) (disch := omega) only [go_sem, g1, and32, g2, shr1, g3, g4]; rfl))) | (apply TailK.go; (focus (simp (maxSteps := 9999999) (disch := omega) only [go_sem, g1, and32, g2, shr1, g3, g4]; rfl))) | refine AWpA.skip ?_ | refine AWpA.exit ?_ | refine AWpA.ret ?_ | (with_reducible refine ARoundsA.succ ?_) | ((first | refine Runs.kt (by assumption) (fun h9 => ?_) | refine Runs.kf (by assumption) (fun h9 => ?_) | refine Runs.nt (by assumption) (fun h9 => ?_) | refine Runs.nf (by assumption) (fun h9 => ?_) | refine CondP.ht (by assumption) (fun h9 => ?_) | refine CondP.hf (by assumption) (fun h9 => ?_) | refine CondP.nt (by assumption) (fun h9 => ?_) | refine CondP.nf (by assumption) (fun h9 => ?_)); (try simp only [h9]); clear h9) | ((first | (with_reducible apply CallG.plain1 [] (down_any (dns i b))) | (with_reducible apply CallG.draw1 [] (down_any (dns i b)))); (focus ((try refine And.intro (leAs_of_eq rfl) ?_); (try refine And.intro (leOL_of_eq rfl) ?_); simp (maxSteps := 9999999) (disch := omega) only [go_sem, g1, and32, g2, shr1, g3, g4]; first | done | (repeat' (first | rfl | (refine And.intro ?_ ?_))))); (focus (simp (maxSteps := 9999999) (disch := omega) only [go_sem, g1, and32, g2, shr1, g3, g4]; rfl)))); (try simp (maxSteps := 9999999) (disch := omega) only [go_sem, g1, and32, g2, shr1, g3, g4]); (try (refine And.intro ?_ ?_; (focus (first | omega | (simp only [go_sem]; done) | (simp; done) | (simp; omega) | assumption))))) | ((first | refine CondP.split (fun hif => ?_) (fun hif => ?_) | refine Runs.part (fun hif => ?_) (fun hif => ?_)) <;> ((try simp only [hif]); (try simp only [decide_eq_true_eq, decide_eq_false_iff_not, Bool.not_eq_true, Bool.not_eq_false, Bool.not_eq_true', Bool.not_eq_false', beq_iff_eq, bne_iff_ne, bne_eq_false_iff_eq, beq_eq_false_iff_ne, ne_eq, Bool.and_eq_true, Bool.or_eq_true, Bool.or_eq_false_iff] at hif); (try (have h9 : _ = true := hif; simp only [h9])); (try (have h9 : _ = false := hif; simp only [h9])); (try simp (maxSteps := 9999999) (disch := omega) only [go_sem, g1, and32, g2, shr1, g3, g4]); (try (refine And.intro ?_ ?_; (focus (first | omega | (simp only [go_sem]; done) | (simp; done) | (simp; omega) | assumption)))); (try (exfalso; omega; done))))))
      (apply Back.to (i + 1, o) []; (focus ((try simp (maxSteps := 9999999) (disch := omega) only [go_sem, g4]); first | done | omega)); rotate_left; (focus (simp (maxSteps := 9999999) (disch := omega) only [go_sem, g4]; (try (repeat' (first | done | trivial | rfl | exact leAs_rfl _ | decide | (refine And.intro ?_ ?_) | (simp; done) | omega | (simp; decide)))))))
      · exact ⟨by simp only; omega, by simp only; rw [hk3]; exact hp⟩
    · rw [hb] at g2 hp
      simp only [if_true] at hp
      (try simp (maxSteps := 9999999) (disch := omega) only [go_sem])
      (repeat' (first | refine AWpA.seq ?_ | refine AWpA.block ?_ | (with_reducible refine CondP.tt ?_) | (with_reducible refine CondP.ff ?_) | refine AWpA.condv (by simp (maxSteps := 9999999) (disch := omega) only [go_sem, g1, and32, g2, shr1, g3, g4, x32]; rfl) ?_ | ((first | (apply AWpA.region; (focus (simp (maxSteps := 9999999) (disch := omega) only [go_sem, g1, and32, g2, shr1, g3, g4, x32]; rfl))) | (apply AWpA.draw [] follows; (focus (simp (maxSteps := 9999999) (disch := omega) only [go_sem, g1, and32, g2, shr1, g3, g4, x32]; rfl)); (focus (simp (maxSteps := 9999999) (disch := omega) only [go_sem, g1, and32, g2, shr1, g3, g4, x32]; first | done | trivial)); (focus (simp (maxSteps := 9999999) (disch := omega) only [go_sem, g1, and32, g2, shr1, g3, g4, x32]; rfl))) | (apply TailK.go; (focus (simp (maxSteps := 9999999) (disch := omega) only [go_sem, g1, and32, g2, shr1, g3, g4, x32]; rfl))) | refine AWpA.skip ?_ | refine AWpA.exit ?_ | refine AWpA.ret ?_ | (with_reducible refine ARoundsA.succ ?_) | ((first | refine Runs.kt (by assumption) (fun h9 => ?_) | refine Runs.kf (by assumption) (fun h9 => ?_) | refine Runs.nt (by assumption) (fun h9 => ?_) | refine Runs.nf (by assumption) (fun h9 => ?_) | refine CondP.ht (by assumption) (fun h9 => ?_) | refine CondP.hf (by assumption) (fun h9 => ?_) | refine CondP.nt (by assumption) (fun h9 => ?_) | refine CondP.nf (by assumption) (fun h9 => ?_)); (try simp only [h9]); clear h9) | ((first | (with_reducible apply CallG.plain1 [] (down_any (dns i b))) | (with_reducible apply CallG.draw1 [] (down_any (dns i b)))); (focus ((try refine And.intro (leAs_of_eq rfl) ?_); (try refine And.intro (leOL_of_eq rfl) ?_); simp (maxSteps := 9999999) (disch := omega) only [go_sem, g1, and32, g2, shr1, g3, g4, x32]; first | done | (repeat' (first | rfl | (refine And.intro ?_ ?_))))); (focus (simp (maxSteps := 9999999) (disch := omega) only [go_sem, g1, and32, g2, shr1, g3, g4, x32]; rfl)))); (try simp (maxSteps := 9999999) (disch := omega) only [go_sem, g1, and32, g2, shr1, g3, g4, x32]); (try (refine And.intro ?_ ?_; (focus (first | omega | (simp only [go_sem]; done) | (simp; done) | (simp; omega) | assumption))))) | ((first | refine CondP.split (fun hif => ?_) (fun hif => ?_) | refine Runs.part (fun hif => ?_) (fun hif => ?_)) <;> ((try simp only [hif]); (try simp only [decide_eq_true_eq, decide_eq_false_iff_not, Bool.not_eq_true, Bool.not_eq_false, Bool.not_eq_true', Bool.not_eq_false', beq_iff_eq, bne_iff_ne, bne_eq_false_iff_eq, beq_eq_false_iff_ne, ne_eq, Bool.and_eq_true, Bool.or_eq_true, Bool.or_eq_false_iff] at hif); (try (have h9 : _ = true := hif; simp only [h9])); (try (have h9 : _ = false := hif; simp only [h9])); (try simp (maxSteps := 9999999) (disch := omega) only [go_sem, g1, and32, g2, shr1, g3, g4, x32]); (try (refine And.intro ?_ ?_; (focus (first | omega | (simp only [go_sem]; done) | (simp; done) | (simp; omega) | assumption)))); (try (exfalso; omega; done))))))
      (apply Back.to (i + 1, o ^^^ dns i b) []; (focus ((try simp (maxSteps := 9999999) (disch := omega) only [go_sem, g4]); first | done | omega)); rotate_left; (focus (simp (maxSteps := 9999999) (disch := omega) only [go_sem, g4]; (try (repeat' (first | done | trivial | rfl | exact leAs_rfl _ | decide | (refine And.intro ?_ ?_) | (simp; done) | omega | (simp; decide)))))))
      · exact ⟨by simp only; omega, by simp only; rw [hk3]; exact hp⟩
  · obtain rfl : i = 32 := by omega
    have g1 : (0 < ((mk1 32).toNat : Int)) = False := eq_false (by rw [mk1_end]; omega)
    have hp2 : o = mul a b := hp
    subst hp2
    (try simp (maxSteps := 9999999) (disch := omega) only [go_sem])
    (repeat' (first | refine AWpA.seq ?_ | refine AWpA.block ?_ | (with_reducible refine CondP.tt ?_) | (with_reducible refine CondP.ff ?_) | refine AWpA.condv (by simp (maxSteps := 9999999) (disch := omega) only [go_sem, g1]; rfl) ?_ | ((first | (apply AWpA.region; (focus (simp (maxSteps := 9999999) (disch := omega) only [go_sem, g1]; rfl))) | (apply AWpA.draw [] follows; (focus (simp (maxSteps := 9999999) (disch := omega) only [go_sem, g1]; rfl)); (focus (simp (maxSteps := 9999999) (disch := omega) only [go_sem, g1]; first | done | trivial)); (focus (simp (maxSteps := 9999999) (disch := omega) only [go_sem, g1]; rfl))) | (apply TailK.go; (focus (simp (maxSteps := 9999999) (disch := omega) only [go_sem, g1]; rfl))) | refine AWpA.skip ?_ | refine AWpA.exit ?_ | refine AWpA.ret ?_ | (with_reducible refine ARoundsA.succ ?_) | ((first | refine Runs.kt (by assumption) (fun h9 => ?_) | refine Runs.kf (by assumption) (fun h9 => ?_) | refine Runs.nt (by assumption) (fun h9 => ?_) | refine Runs.nf (by assumption) (fun h9 => ?_) | refine CondP.ht (by assumption) (fun h9 => ?_) | refine CondP.hf (by assumption) (fun h9 => ?_) | refine CondP.nt (by assumption) (fun h9 => ?_) | refine CondP.nf (by assumption) (fun h9 => ?_)); (try simp only [h9]); clear h9)); (try simp (maxSteps := 9999999) (disch := omega) only [go_sem, g1]); (try (refine And.intro ?_ ?_; (focus (first | omega | (simp only [go_sem]; done) | (simp; done) | (simp; omega) | assumption))))) | ((first | refine CondP.split (fun hif => ?_) (fun hif => ?_) | refine Runs.part (fun hif => ?_) (fun hif => ?_)) <;> ((try simp only [hif]); (try simp only [decide_eq_true_eq, decide_eq_false_iff_not, Bool.not_eq_true, Bool.not_eq_false, Bool.not_eq_true', Bool.not_eq_false', beq_iff_eq, bne_iff_ne, bne_eq_false_iff_eq, beq_eq_false_iff_ne, ne_eq, Bool.and_eq_true, Bool.or_eq_true, Bool.or_eq_false_iff] at hif); (try (have h9 : _ = true := hif; simp only [h9])); (try (have h9 : _ = false := hif; simp only [h9])); (try simp (maxSteps := 9999999) (disch := omega) only [go_sem, g1]); (try (refine And.intro ?_ ?_; (focus (first | omega | (simp only [go_sem]; done) | (simp; done) | (simp; omega) | assumption)))); (try (exfalso; omega; done))))))
    (apply Ret.det []; (focus (first | exact .inl rfl | exact .inr rfl)); (focus (simp (maxSteps := 9999999) (disch := omega) only [go_sem]; rfl)); (simp (maxSteps := 9999999) (disch := omega) only [go_sem]; (try (repeat' (first | done | trivial | rfl | exact leAs_rfl _ | decide | (refine And.intro ?_ ?_) | (simp; done) | omega | (simp; decide))))))
theorem pass_any (v : R) (n : Int) (hn : n ≤ 9223372036854775807) : ACall Try.prog 35 [U32 v.toNat, I n] [] (Det (U32 (pass n.toNat v).toNat) []) := by
  have e0 : pass 0 v = v := rfl
  refine ACall.startA c35_ok Try.func35 rfl Try.ntmps35 (by kernel_rfl) res35_ok rfl rfl rfl ?_; simp (maxSteps := 9999999) (disch := omega) only [go_sem]
  (repeat' (first | refine AWpA.seq ?_ | refine AWpA.block ?_ | (with_reducible refine CondP.tt ?_) | (with_reducible refine CondP.ff ?_) | refine AWpA.condv (by simp (maxSteps := 9999999) (disch := omega) only [go_sem]; rfl) ?_ | ((first | (apply AWpA.region; (focus (simp (maxSteps := 9999999) (disch := omega) only [go_sem]; rfl))) | (apply AWpA.draw [] follows; (focus (simp (maxSteps := 9999999) (disch := omega) only [go_sem]; rfl)); (focus (simp (maxSteps := 9999999) (disch := omega) only [go_sem]; first | done | trivial)); (focus (simp (maxSteps := 9999999) (disch := omega) only [go_sem]; rfl))) | (apply TailK.go; (focus (simp (maxSteps := 9999999) (disch := omega) only [go_sem]; rfl))) | refine AWpA.skip ?_ | refine AWpA.exit ?_ | refine AWpA.ret ?_ | (with_reducible refine ARoundsA.succ ?_) | ((first | refine Runs.kt (by assumption) (fun h9 => ?_) | refine Runs.kf (by assumption) (fun h9 => ?_) | refine Runs.nt (by assumption) (fun h9 => ?_) | refine Runs.nf (by assumption) (fun h9 => ?_) | refine CondP.ht (by assumption) (fun h9 => ?_) | refine CondP.hf (by assumption) (fun h9 => ?_) | refine CondP.nt (by assumption) (fun h9 => ?_) | refine CondP.nf (by assumption) (fun h9 => ?_)); (try simp only [h9]); clear h9)); (try simp (maxSteps := 9999999) (disch := omega) only [go_sem]); (try (refine And.intro ?_ ?_; (focus (first | omega | (simp only [go_sem]; done) | (simp; done) | (simp; omega) | assumption))))) | ((first | refine CondP.split (fun hif => ?_) (fun hif => ?_) | refine Runs.part (fun hif => ?_) (fun hif => ?_)) <;> ((try simp only [hif]); (try simp only [decide_eq_true_eq, decide_eq_false_iff_not, Bool.not_eq_true, Bool.not_eq_false, Bool.not_eq_true', Bool.not_eq_false', beq_iff_eq, bne_iff_ne, bne_eq_false_iff_eq, beq_eq_false_iff_ne, ne_eq, Bool.and_eq_true, Bool.or_eq_true, Bool.or_eq_false_iff] at hif); (try (have h9 : _ = true := hif; simp only [h9])); (try (have h9 : _ = false := hif; simp only [h9])); (try simp (maxSteps := 9999999) (disch := omega) only [go_sem]); (try (refine And.intro ?_ ?_; (focus (first | omega | (simp only [go_sem]; done) | (simp; done) | (simp; omega) | assumption)))); (try (exfalso; omega; done))))))
  (apply AWpA.loopL (fun i : Nat => [(0, U32 (pass i v).toNat), (1, I n), (5, I i)]) (fun i => []) (fun i => n.toNat - i) (fun i => i ≤ n.toNat) (0) []; rotate_left; (focus (simp (maxSteps := 9999999) (disch := omega) only [go_sem, e0]; (try (repeat' (first | done | trivial | rfl | exact leAs_rfl _ | decide | (refine And.intro ?_ ?_) | (simp; done) | omega | (simp; decide)))))); rotate_right)
  · exact Nat.zero_le _
  rintro i hi
  (try simp only at hi)
  by_cases hin : i < n.toNat
  · have g1 : ((i : Int) < n) = True := eq_true (by omega)
    have g2 : mv (pass i v) = pass (i + 1) v := (pass_succ i v).symm
    (try simp (maxSteps := 9999999) (disch := omega) only [go_sem])
    (repeat' (first | refine AWpA.seq ?_ | refine AWpA.block ?_ | (with_reducible refine CondP.tt ?_) | (with_reducible refine CondP.ff ?_) | refine AWpA.condv (by simp (maxSteps := 9999999) (disch := omega) only [go_sem, g1, g2]; rfl) ?_ | ((first | (apply AWpA.region; (focus (simp (maxSteps := 9999999) (disch := omega) only [go_sem, g1, g2]; rfl))) | (apply AWpA.draw [] follows; (focus (simp (maxSteps := 9999999) (disch := omega) only [go_sem, g1, g2]; rfl)); (focus (simp (maxSteps := 9999999) (disch := omega) only [go_sem, g1, g2]; first | done | trivial)); (focus (simp (maxSteps := 9999999) (disch := omega) only [go_sem, g1, g2]; rfl))) | (apply TailK.go; (focus (simp (maxSteps := 9999999) (disch := omega) only [go_sem, g1, g2]; rfl))) | refine AWpA.skip ?_ | refine AWpA.exit ?_ | refine AWpA.ret ?_ | (with_reducible refine ARoundsA.succ ?_) | ((first | refine Runs.kt (by assumption) (fun h9 => ?_) | refine Runs.kf (by assumption) (fun h9 => ?_) | refine Runs.nt (by assumption) (fun h9 => ?_) | refine Runs.nf (by assumption) (fun h9 => ?_) | refine CondP.ht (by assumption) (fun h9 => ?_) | refine CondP.hf (by assumption) (fun h9 => ?_) | refine CondP.nt (by assumption) (fun h9 => ?_) | refine CondP.nf (by assumption) (fun h9 => ?_)); (try simp only [h9]); clear h9) | ((first | (with_reducible apply CallG.plain1 [] (moved_any (pass i v))) | (with_reducible apply CallG.draw1 [] (moved_any (pass i v)))); (focus ((try refine And.intro (leAs_of_eq rfl) ?_); (try refine And.intro (leOL_of_eq rfl) ?_); simp (maxSteps := 9999999) (disch := omega) only [go_sem, g1, g2]; first | done | (repeat' (first | rfl | (refine And.intro ?_ ?_))))); (focus (simp (maxSteps := 9999999) (disch := omega) only [go_sem, g1, g2]; rfl)))); (try simp (maxSteps := 9999999) (disch := omega) only [go_sem, g1, g2]); (try (refine And.intro ?_ ?_; (focus (first | omega | (simp only [go_sem]; done) | (simp; done) | (simp; omega) | assumption))))) | ((first | refine CondP.split (fun hif => ?_) (fun hif => ?_) | refine Runs.part (fun hif => ?_) (fun hif => ?_)) <;> ((try simp only [hif]); (try simp only [decide_eq_true_eq, decide_eq_false_iff_not, Bool.not_eq_true, Bool.not_eq_false, Bool.not_eq_true', Bool.not_eq_false', beq_iff_eq, bne_iff_ne, bne_eq_false_iff_eq, beq_eq_false_iff_ne, ne_eq, Bool.and_eq_true, Bool.or_eq_true, Bool.or_eq_false_iff] at hif); (try (have h9 : _ = true := hif; simp only [h9])); (try (have h9 : _ = false := hif; simp only [h9])); (try simp (maxSteps := 9999999) (disch := omega) only [go_sem, g1, g2]); (try (refine And.intro ?_ ?_; (focus (first | omega | (simp only [go_sem]; done) | (simp; done) | (simp; omega) | assumption)))); (try (exfalso; omega; done))))))
    (apply Back.to (i + 1) []; (focus ((try simp (maxSteps := 9999999) (disch := omega) only [go_sem, g2]); first | done | omega)); rotate_left; (focus (simp (maxSteps := 9999999) (disch := omega) only [go_sem, g2]; (try (repeat' (first | done | trivial | rfl | exact leAs_rfl _ | decide | (refine And.intro ?_ ?_) | (simp; done) | omega | (simp; decide)))))))
    omega
  · obtain rfl : i = n.toNat := by omega
    have g1 : (((n.toNat : Nat) : Int) < n) = False := eq_false (by omega)
    (try simp (maxSteps := 9999999) (disch := omega) only [go_sem])
    (repeat' (first | refine AWpA.seq ?_ | refine AWpA.block ?_ | (with_reducible refine CondP.tt ?_) | (with_reducible refine CondP.ff ?_) | refine AWpA.condv (by simp (maxSteps := 9999999) (disch := omega) only [go_sem, g1]; rfl) ?_ | ((first | (apply AWpA.region; (focus (simp (maxSteps := 9999999) (disch := omega) only [go_sem, g1]; rfl))) | (apply AWpA.draw [] follows; (focus (simp (maxSteps := 9999999) (disch := omega) only [go_sem, g1]; rfl)); (focus (simp (maxSteps := 9999999) (disch := omega) only [go_sem, g1]; first | done | trivial)); (focus (simp (maxSteps := 9999999) (disch := omega) only [go_sem, g1]; rfl))) | (apply TailK.go; (focus (simp (maxSteps := 9999999) (disch := omega) only [go_sem, g1]; rfl))) | refine AWpA.skip ?_ | refine AWpA.exit ?_ | refine AWpA.ret ?_ | (with_reducible refine ARoundsA.succ ?_) | ((first | refine Runs.kt (by assumption) (fun h9 => ?_) | refine Runs.kf (by assumption) (fun h9 => ?_) | refine Runs.nt (by assumption) (fun h9 => ?_) | refine Runs.nf (by assumption) (fun h9 => ?_) | refine CondP.ht (by assumption) (fun h9 => ?_) | refine CondP.hf (by assumption) (fun h9 => ?_) | refine CondP.nt (by assumption) (fun h9 => ?_) | refine CondP.nf (by assumption) (fun h9 => ?_)); (try simp only [h9]); clear h9)); (try simp (maxSteps := 9999999) (disch := omega) only [go_sem, g1]); (try (refine And.intro ?_ ?_; (focus (first | omega | (simp only [go_sem]; done) | (simp; done) | (simp; omega) | assumption))))) | ((first | refine CondP.split (fun hif => ?_) (fun hif => ?_) | refine Runs.part (fun hif => ?_) (fun hif => ?_)) <;> ((try simp only [hif]); (try simp only [decide_eq_true_eq, decide_eq_false_iff_not, Bool.not_eq_true, Bool.not_eq_false, Bool.not_eq_true', Bool.not_eq_false', beq_iff_eq, bne_iff_ne, bne_eq_false_iff_eq, beq_eq_false_iff_ne, ne_eq, Bool.and_eq_true, Bool.or_eq_true, Bool.or_eq_false_iff] at hif); (try (have h9 : _ = true := hif; simp only [h9])); (try (have h9 : _ = false := hif; simp only [h9])); (try simp (maxSteps := 9999999) (disch := omega) only [go_sem, g1]); (try (refine And.intro ?_ ?_; (focus (first | omega | (simp only [go_sem]; done) | (simp; done) | (simp; omega) | assumption)))); (try (exfalso; omega; done))))))
    (apply Ret.det []; (focus (first | exact .inl rfl | exact .inr rfl)); (focus (simp (maxSteps := 9999999) (disch := omega) only [go_sem]; rfl)); (simp (maxSteps := 9999999) (disch := omega) only [go_sem]; (try (repeat' (first | done | trivial | rfl | exact leAs_rfl _ | decide | (refine And.intro ?_ ?_) | (simp; done) | omega | (simp; decide))))))
theorem join_any (d : Bool) (a c : R) (n : Int) (hn : n ≤ 9223372036854775807) : ACall Try.prog 34 [.ptr 0 0, U32 a.toNat, U32 c.toNat, I n] [.cells false (tb d)] (Det (U32 (pass n.toNat a ^^^ c).toNat) [.cells false (tb d)]) := by
  by_cases h0 : n ≤ 0
  · have g1 : (0 < n) = False := eq_false (by omega)
    have e1 : n.toNat = 0 := by omega
    have e2 : (2147483648 : Int) = ((one : R).toNat : Int) := by decide
    have e3 : pass 0 a = a := rfl
    have e4 := mul_one_left a
    refine ACall.startA c34_ok Try.func34 rfl Try.ntmps34 (by kernel_rfl) res34_ok rfl rfl rfl ?_; simp (maxSteps := 9999999) (disch := omega) only [go_sem]
    (repeat' (first | refine AWpA.seq ?_ | refine AWpA.block ?_ | (with_reducible refine CondP.tt ?_) | (with_reducible refine CondP.ff ?_) | refine AWpA.condv (by simp (maxSteps := 9999999) (disch := omega) only [go_sem, tb_ren]; rfl) ?_ | ((first | (apply AWpA.region; (focus (simp (maxSteps := 9999999) (disch := omega) only [go_sem, tb_ren]; rfl))) | (apply AWpA.draw [] follows; (focus (simp (maxSteps := 9999999) (disch := omega) only [go_sem, tb_ren]; rfl)); (focus (simp (maxSteps := 9999999) (disch := omega) only [go_sem, tb_ren]; first | done | trivial)); (focus (simp (maxSteps := 9999999) (disch := omega) only [go_sem, tb_ren]; rfl))) | (apply TailK.go; (focus (simp (maxSteps := 9999999) (disch := omega) only [go_sem, tb_ren]; rfl))) | refine AWpA.skip ?_ | refine AWpA.exit ?_ | refine AWpA.ret ?_ | (with_reducible refine ARoundsA.succ ?_) | ((first | refine Runs.kt (by assumption) (fun h9 => ?_) | refine Runs.kf (by assumption) (fun h9 => ?_) | refine Runs.nt (by assumption) (fun h9 => ?_) | refine Runs.nf (by assumption) (fun h9 => ?_) | refine CondP.ht (by assumption) (fun h9 => ?_) | refine CondP.hf (by assumption) (fun h9 => ?_) | refine CondP.nt (by assumption) (fun h9 => ?_) | refine CondP.nf (by assumption) (fun h9 => ?_)); (try simp only [h9]); clear h9)); (try simp (maxSteps := 9999999) (disch := omega) only [go_sem, tb_ren]); (try (refine And.intro ?_ ?_; (focus (first | omega | (simp only [go_sem]; done) | (simp; done) | (simp; omega) | assumption))))) | ((first | refine CondP.split (fun hif => ?_) (fun hif => ?_) | refine Runs.part (fun hif => ?_) (fun hif => ?_)) <;> ((try simp only [hif]); (try simp only [decide_eq_true_eq, decide_eq_false_iff_not, Bool.not_eq_true, Bool.not_eq_false, Bool.not_eq_true', Bool.not_eq_false', beq_iff_eq, bne_iff_ne, bne_eq_false_iff_eq, beq_eq_false_iff_ne, ne_eq, Bool.and_eq_true, Bool.or_eq_true, Bool.or_eq_false_iff] at hif); (try (have h9 : _ = true := hif; simp only [h9])); (try (have h9 : _ = false := hif; simp only [h9])); (try simp (maxSteps := 9999999) (disch := omega) only [go_sem, tb_ren]); (try (refine And.intro ?_ ?_; (focus (first | omega | (simp only [go_sem]; done) | (simp; done) | (simp; omega) | assumption)))); (try (exfalso; omega; done))))))
    refine AWpA.rounds 1 ?_
    (try simp (maxSteps := 9999999) (disch := omega) only [go_sem])
    have ht := times_any one a
    rw [e4] at ht
    (repeat' (first | refine AWpA.seq ?_ | refine AWpA.block ?_ | (with_reducible refine CondP.tt ?_) | (with_reducible refine CondP.ff ?_) | refine AWpA.condv (by simp (maxSteps := 9999999) (disch := omega) only [go_sem, tb_ren, g1, e2, e4, x32]; rfl) ?_ | ((first | (apply AWpA.region; (focus (simp (maxSteps := 9999999) (disch := omega) only [go_sem, tb_ren, g1, e2, e4, x32]; rfl))) | (apply AWpA.draw [] follows; (focus (simp (maxSteps := 9999999) (disch := omega) only [go_sem, tb_ren, g1, e2, e4, x32]; rfl)); (focus (simp (maxSteps := 9999999) (disch := omega) only [go_sem, tb_ren, g1, e2, e4, x32]; first | done | trivial)); (focus (simp (maxSteps := 9999999) (disch := omega) only [go_sem, tb_ren, g1, e2, e4, x32]; rfl))) | (apply TailK.go; (focus (simp (maxSteps := 9999999) (disch := omega) only [go_sem, tb_ren, g1, e2, e4, x32]; rfl))) | refine AWpA.skip ?_ | refine AWpA.exit ?_ | refine AWpA.ret ?_ | (with_reducible refine ARoundsA.succ ?_) | ((first | refine Runs.kt (by assumption) (fun h9 => ?_) | refine Runs.kf (by assumption) (fun h9 => ?_) | refine Runs.nt (by assumption) (fun h9 => ?_) | refine Runs.nf (by assumption) (fun h9 => ?_) | refine CondP.ht (by assumption) (fun h9 => ?_) | refine CondP.hf (by assumption) (fun h9 => ?_) | refine CondP.nt (by assumption) (fun h9 => ?_) | refine CondP.nf (by assumption) (fun h9 => ?_)); (try simp only [h9]); clear h9) | ((first | (with_reducible apply CallG.plain1 [] (ht)) | (with_reducible apply CallG.draw1 [] (ht))); (focus ((try refine And.intro (leAs_of_eq rfl) ?_); (try refine And.intro (leOL_of_eq rfl) ?_); simp (maxSteps := 9999999) (disch := omega) only [go_sem, tb_ren, g1, e2, e4, x32]; first | done | (repeat' (first | rfl | (refine And.intro ?_ ?_))))); (focus (simp (maxSteps := 9999999) (disch := omega) only [go_sem, tb_ren, g1, e2, e4, x32]; rfl)))); (try simp (maxSteps := 9999999) (disch := omega) only [go_sem, tb_ren, g1, e2, e4, x32]); (try (refine And.intro ?_ ?_; (focus (first | omega | (simp only [go_sem]; done) | (simp; done) | (simp; omega) | assumption))))) | ((first | refine CondP.split (fun hif => ?_) (fun hif => ?_) | refine Runs.part (fun hif => ?_) (fun hif => ?_)) <;> ((try simp only [hif]); (try simp only [decide_eq_true_eq, decide_eq_false_iff_not, Bool.not_eq_true, Bool.not_eq_false, Bool.not_eq_true', Bool.not_eq_false', beq_iff_eq, bne_iff_ne, bne_eq_false_iff_eq, beq_eq_false_iff_ne, ne_eq, Bool.and_eq_true, Bool.or_eq_true, Bool.or_eq_false_iff] at hif); (try (have h9 : _ = true := hif; simp only [h9])); (try (have h9 : _ = false := hif; simp only [h9])); (try simp (maxSteps := 9999999) (disch := omega) only [go_sem, tb_ren, g1, e2, e4, x32]); (try (refine And.intro ?_ ?_; (focus (first | omega | (simp only [go_sem]; done) | (simp; done) | (simp; omega) | assumption)))); (try (exfalso; omega; done))))))
    (apply Ret.det [0]; (focus (first | exact .inl rfl | exact .inr rfl)); (focus (simp (maxSteps := 9999999) (disch := omega) only [go_sem, tb_ren, e1, e3]; rfl)); (simp (maxSteps := 9999999) (disch := omega) only [go_sem, tb_ren, e1, e3]; (try (repeat' (first | done | trivial | rfl | exact leAs_rfl _ | decide | (refine And.intro ?_ ?_) | (simp; done) | omega | (simp; decide))))))
  obtain ⟨N, rfl⟩ : ∃ N : Nat, n = N := ⟨n.toNat, by omega⟩
  have eN : (N : Int).toNat = N := by omega
  rw [eN]
  have e2 : (2147483648 : Int) = ((one : R).toNat : Int) := by decide
  have e5 : (8388608 : Int) = ((1#32 <<< 23 : R).toNat : Int) := by decide
  refine ACall.startA c34_ok Try.func34 rfl Try.ntmps34 (by kernel_rfl) res34_ok rfl rfl rfl ?_; simp (maxSteps := 9999999) (disch := omega) only [go_sem]
  (repeat' (first | refine AWpA.seq ?_ | refine AWpA.block ?_ | (with_reducible refine CondP.tt ?_) | (with_reducible refine CondP.ff ?_) | refine AWpA.condv (by simp (maxSteps := 9999999) (disch := omega) only [go_sem, tb_ren, e2, e5]; rfl) ?_ | ((first | (apply AWpA.region; (focus (simp (maxSteps := 9999999) (disch := omega) only [go_sem, tb_ren, e2, e5]; rfl))) | (apply AWpA.draw [] follows; (focus (simp (maxSteps := 9999999) (disch := omega) only [go_sem, tb_ren, e2, e5]; rfl)); (focus (simp (maxSteps := 9999999) (disch := omega) only [go_sem, tb_ren, e2, e5]; first | done | trivial)); (focus (simp (maxSteps := 9999999) (disch := omega) only [go_sem, tb_ren, e2, e5]; rfl))) | (apply TailK.go; (focus (simp (maxSteps := 9999999) (disch := omega) only [go_sem, tb_ren, e2, e5]; rfl))) | refine AWpA.skip ?_ | refine AWpA.exit ?_ | refine AWpA.ret ?_ | (with_reducible refine ARoundsA.succ ?_) | ((first | refine Runs.kt (by assumption) (fun h9 => ?_) | refine Runs.kf (by assumption) (fun h9 => ?_) | refine Runs.nt (by assumption) (fun h9 => ?_) | refine Runs.nf (by assumption) (fun h9 => ?_) | refine CondP.ht (by assumption) (fun h9 => ?_) | refine CondP.hf (by assumption) (fun h9 => ?_) | refine CondP.nt (by assumption) (fun h9 => ?_) | refine CondP.nf (by assumption) (fun h9 => ?_)); (try simp only [h9]); clear h9)); (try simp (maxSteps := 9999999) (disch := omega) only [go_sem, tb_ren, e2, e5]); (try (refine And.intro ?_ ?_; (focus (first | omega | (simp only [go_sem]; done) | (simp; done) | (simp; omega) | assumption))))) | ((first | refine CondP.split (fun hif => ?_) (fun hif => ?_) | refine Runs.part (fun hif => ?_) (fun hif => ?_)) <;> ((try simp only [hif]); (try simp only [decide_eq_true_eq, decide_eq_false_iff_not, Bool.not_eq_true, Bool.not_eq_false, Bool.not_eq_true', Bool.not_eq_false', beq_iff_eq, bne_iff_ne, bne_eq_false_iff_eq, beq_eq_false_iff_ne, ne_eq, Bool.and_eq_true, Bool.or_eq_true, Bool.or_eq_false_iff] at hif); (try (have h9 : _ = true := hif; simp only [h9])); (try (have h9 : _ = false := hif; simp only [h9])); (try simp (maxSteps := 9999999) (disch := omega) only [go_sem, tb_ren, e2, e5]); (try (refine And.intro ?_ ?_; (focus (first | omega | (simp only [go_sem]; done) | (simp; done) | (simp; omega) | assumption)))); (try (exfalso; omega; done))))))
  (apply AWpA.loopL (fun p : Nat × R × R => [(1, U32 a.toNat), (2, U32 c.toNat), (3, I p.1), (9, U32 p.2.1.toNat), (10, U32 p.2.2.toNat)]) (fun p => [.cells false (tb d)]) (fun p => p.1) (fun p => p.1 ≤ N ∧ ∃ i m, p.2.1 = dns i one ∧ p.2.2 = dns m one ∧ i + m * p.1 = 8 * N) ((N, one, 1#32 <<< 23)) [0]; rotate_left; (focus (simp (maxSteps := 9999999) (disch := omega) only [go_sem, tb_ren, e2, e5]; (try (repeat' (first | done | trivial | rfl | exact leAs_rfl _ | decide | (refine And.intro ?_ ?_) | (simp; done) | omega | (simp; decide)))))); rotate_right)
  · exact ⟨Nat.le_refl _, 0, 8, rfl, show (1#32 <<< 23 : R) = dns 8 one by decide, by simp⟩
  rintro ⟨n, p, b⟩ ⟨hn2, i, m, hp, hb, hs⟩
  (try simp only at hn2 hp hb hs)
  by_cases hin : 0 < n
  · have g1 : (0 < (n : Int)) = True := eq_true (by omega)
    have g2 := odd64 n (by omega)
    have g3 := half64 n
    have hbb : mul b b = dns (m + m) one := by rw [hb, dns_mul, mul_one_left, ← dns_add]
    have hpb : mul p b = dns (i + m) one := by rw [hp, hb, dns_mul, mul_one_left, ← dns_add, Nat.add_comm]
    have t1 := times_any p b
    have t2 := times_any b b
    by_cases h1 : n % 2 = 1
    · have g4 : ((((n % 2 : Nat)) : Int) == 1) = true := by rw [h1]; rfl
      have hs2 : (i + m) + (m + m) * (n / 2) = 8 * N := by
        rw [← hs]
        have h3 : n = 2 * (n / 2) + 1 := by omega
        generalize n / 2 = q at *
        subst h3
        simp [Nat.mul_add, Nat.add_mul]; rw [← Nat.mul_assoc, Nat.mul_comm m 2, Nat.mul_assoc]; omega
      generalize hpb' : mul p b = pb at hpb t1
      generalize hbb' : mul b b = bb at hbb t2
      clear hpb' hbb' hp hb
      (try simp (maxSteps := 9999999) (disch := omega) only [go_sem])
      (repeat' (first | refine AWpA.seq ?_ | refine AWpA.block ?_ | (with_reducible refine CondP.tt ?_) | (with_reducible refine CondP.ff ?_) | refine AWpA.condv (by simp (maxSteps := 9999999) (disch := omega) only [go_sem, g1, g2, g3, g4, tb_ren]; rfl) ?_ | ((first | (apply AWpA.region; (focus (simp (maxSteps := 9999999) (disch := omega) only [go_sem, g1, g2, g3, g4, tb_ren]; rfl))) | (apply AWpA.draw [] follows; (focus (simp (maxSteps := 9999999) (disch := omega) only [go_sem, g1, g2, g3, g4, tb_ren]; rfl)); (focus (simp (maxSteps := 9999999) (disch := omega) only [go_sem, g1, g2, g3, g4, tb_ren]; first | done | trivial)); (focus (simp (maxSteps := 9999999) (disch := omega) only [go_sem, g1, g2, g3, g4, tb_ren]; rfl))) | (apply TailK.go; (focus (simp (maxSteps := 9999999) (disch := omega) only [go_sem, g1, g2, g3, g4, tb_ren]; rfl))) | refine AWpA.skip ?_ | refine AWpA.exit ?_ | refine AWpA.ret ?_ | (with_reducible refine ARoundsA.succ ?_) | ((first | refine Runs.kt (by assumption) (fun h9 => ?_) | refine Runs.kf (by assumption) (fun h9 => ?_) | refine Runs.nt (by assumption) (fun h9 => ?_) | refine Runs.nf (by assumption) (fun h9 => ?_) | refine CondP.ht (by assumption) (fun h9 => ?_) | refine CondP.hf (by assumption) (fun h9 => ?_) | refine CondP.nt (by assumption) (fun h9 => ?_) | refine CondP.nf (by assumption) (fun h9 => ?_)); (try simp only [h9]); clear h9) | ((first | (with_reducible apply CallG.plain1 [] (t1)) | (with_reducible apply CallG.draw1 [] (t1))); (focus ((try refine And.intro (leAs_of_eq rfl) ?_); (try refine And.intro (leOL_of_eq rfl) ?_); simp (maxSteps := 9999999) (disch := omega) only [go_sem, g1, g2, g3, g4, tb_ren]; first | done | (repeat' (first | rfl | (refine And.intro ?_ ?_))))); (focus (simp (maxSteps := 9999999) (disch := omega) only [go_sem, g1, g2, g3, g4, tb_ren]; rfl))) | ((first | (with_reducible apply CallG.plain1 [] (t2)) | (with_reducible apply CallG.draw1 [] (t2))); (focus ((try refine And.intro (leAs_of_eq rfl) ?_); (try refine And.intro (leOL_of_eq rfl) ?_); simp (maxSteps := 9999999) (disch := omega) only [go_sem, g1, g2, g3, g4, tb_ren]; first | done | (repeat' (first | rfl | (refine And.intro ?_ ?_))))); (focus (simp (maxSteps := 9999999) (disch := omega) only [go_sem, g1, g2, g3, g4, tb_ren]; rfl)))); (try simp (maxSteps := 9999999) (disch := omega) only [go_sem, g1, g2, g3, g4, tb_ren]); (try (refine And.intro ?_ ?_; (focus (first | omega | (simp only [go_sem]; done) | (simp; done) | (simp; omega) | assumption))))) | ((first | refine CondP.split (fun hif => ?_) (fun hif => ?_) | refine Runs.part (fun hif => ?_) (fun hif => ?_)) <;> ((try simp only [hif]); (try simp only [decide_eq_true_eq, decide_eq_false_iff_not, Bool.not_eq_true, Bool.not_eq_false, Bool.not_eq_true', Bool.not_eq_false', beq_iff_eq, bne_iff_ne, bne_eq_false_iff_eq, beq_eq_false_iff_ne, ne_eq, Bool.and_eq_true, Bool.or_eq_true, Bool.or_eq_false_iff] at hif); (try (have h9 : _ = true := hif; simp only [h9])); (try (have h9 : _ = false := hif; simp only [h9])); (try simp (maxSteps := 9999999) (disch := omega) only [go_sem, g1, g2, g3, g4, tb_ren]); (try (refine And.intro ?_ ?_; (focus (first | omega | (simp only [go_sem]; done) | (simp; done) | (simp; omega) | assumption)))); (try (exfalso; omega; done))))))
      (apply Back.to (n / 2, pb, bb) [0]; (focus ((try simp (maxSteps := 9999999) (disch := omega) only [go_sem, tb_ren]); first | done | omega)); rotate_left; (focus (simp (maxSteps := 9999999) (disch := omega) only [go_sem, tb_ren]; (try (repeat' (first | done | trivial | rfl | exact leAs_rfl _ | decide | (refine And.intro ?_ ?_) | (simp; done) | omega | (simp; decide)))))))
      · exact ⟨by simp only; omega, i + m, m + m, hpb, hbb, hs2⟩
    · have g4 : ((((n % 2 : Nat)) : Int) == 1) = false := by rw [show n % 2 = 0 by omega]; rfl
      have hs2 : i + (m + m) * (n / 2) = 8 * N := by
        rw [← hs]
        have h3 : n = 2 * (n / 2) := by omega
        generalize n / 2 = q at *
        subst h3
        simp [Nat.add_mul]; rw [← Nat.mul_assoc, Nat.mul_comm m 2, Nat.mul_assoc]; omega
      generalize hbb' : mul b b = bb at hbb t2
      clear hbb' hb
      (try simp (maxSteps := 9999999) (disch := omega) only [go_sem])
      (repeat' (first | refine AWpA.seq ?_ | refine AWpA.block ?_ | (with_reducible refine CondP.tt ?_) | (with_reducible refine CondP.ff ?_) | refine AWpA.condv (by simp (maxSteps := 9999999) (disch := omega) only [go_sem, g1, g2, g3, g4, tb_ren]; rfl) ?_ | ((first | (apply AWpA.region; (focus (simp (maxSteps := 9999999) (disch := omega) only [go_sem, g1, g2, g3, g4, tb_ren]; rfl))) | (apply AWpA.draw [] follows; (focus (simp (maxSteps := 9999999) (disch := omega) only [go_sem, g1, g2, g3, g4, tb_ren]; rfl)); (focus (simp (maxSteps := 9999999) (disch := omega) only [go_sem, g1, g2, g3, g4, tb_ren]; first | done | trivial)); (focus (simp (maxSteps := 9999999) (disch := omega) only [go_sem, g1, g2, g3, g4, tb_ren]; rfl))) | (apply TailK.go; (focus (simp (maxSteps := 9999999) (disch := omega) only [go_sem, g1, g2, g3, g4, tb_ren]; rfl))) | refine AWpA.skip ?_ | refine AWpA.exit ?_ | refine AWpA.ret ?_ | (with_reducible refine ARoundsA.succ ?_) | ((first | refine Runs.kt (by assumption) (fun h9 => ?_) | refine Runs.kf (by assumption) (fun h9 => ?_) | refine Runs.nt (by assumption) (fun h9 => ?_) | refine Runs.nf (by assumption) (fun h9 => ?_) | refine CondP.ht (by assumption) (fun h9 => ?_) | refine CondP.hf (by assumption) (fun h9 => ?_) | refine CondP.nt (by assumption) (fun h9 => ?_) | refine CondP.nf (by assumption) (fun h9 => ?_)); (try simp only [h9]); clear h9) | ((first | (with_reducible apply CallG.plain1 [] (t2)) | (with_reducible apply CallG.draw1 [] (t2))); (focus ((try refine And.intro (leAs_of_eq rfl) ?_); (try refine And.intro (leOL_of_eq rfl) ?_); simp (maxSteps := 9999999) (disch := omega) only [go_sem, g1, g2, g3, g4, tb_ren]; first | done | (repeat' (first | rfl | (refine And.intro ?_ ?_))))); (focus (simp (maxSteps := 9999999) (disch := omega) only [go_sem, g1, g2, g3, g4, tb_ren]; rfl)))); (try simp (maxSteps := 9999999) (disch := omega) only [go_sem, g1, g2, g3, g4, tb_ren]); (try (refine And.intro ?_ ?_; (focus (first | omega | (simp only [go_sem]; done) | (simp; done) | (simp; omega) | assumption))))) | ((first | refine CondP.split (fun hif => ?_) (fun hif => ?_) | refine Runs.part (fun hif => ?_) (fun hif => ?_)) <;> ((try simp only [hif]); (try simp only [decide_eq_true_eq, decide_eq_false_iff_not, Bool.not_eq_true, Bool.not_eq_false, Bool.not_eq_true', Bool.not_eq_false', beq_iff_eq, bne_iff_ne, bne_eq_false_iff_eq, beq_eq_false_iff_ne, ne_eq, Bool.and_eq_true, Bool.or_eq_true, Bool.or_eq_false_iff] at hif); (try (have h9 : _ = true := hif; simp only [h9])); (try (have h9 : _ = false := hif; simp only [h9])); (try simp (maxSteps := 9999999) (disch := omega) only [go_sem, g1, g2, g3, g4, tb_ren]); (try (refine And.intro ?_ ?_; (focus (first | omega | (simp only [go_sem]; done) | (simp; done) | (simp; omega) | assumption)))); (try (exfalso; omega; done))))))
      (apply Back.to (n / 2, p, bb) [0]; (focus ((try simp (maxSteps := 9999999) (disch := omega) only [go_sem, tb_ren]); first | done | omega)); rotate_left; (focus (simp (maxSteps := 9999999) (disch := omega) only [go_sem, tb_ren]; (try (repeat' (first | done | trivial | rfl | exact leAs_rfl _ | decide | (refine And.intro ?_ ?_) | (simp; done) | omega | (simp; decide)))))))
      · exact ⟨by simp only; omega, i, m + m, hp, hbb, hs2⟩
  · obtain rfl : n = 0 := by omega
    have g1 : (0 < ((0 : Nat) : Int)) = False := eq_false (by omega)
    have ht := times_any p a
    have hi : i = 8 * N := by omega
    have hm : mul p a = pass N a := by rw [hp, dns_mul, mul_one_left, hi]; rfl
    rw [hm] at ht
    clear hp hb hm
    (try simp (maxSteps := 9999999) (disch := omega) only [go_sem])
    (repeat' (first | refine AWpA.seq ?_ | refine AWpA.block ?_ | (with_reducible refine CondP.tt ?_) | (with_reducible refine CondP.ff ?_) | refine AWpA.condv (by simp (maxSteps := 9999999) (disch := omega) only [go_sem, g1, x32, tb_ren]; rfl) ?_ | ((first | (apply AWpA.region; (focus (simp (maxSteps := 9999999) (disch := omega) only [go_sem, g1, x32, tb_ren]; rfl))) | (apply AWpA.draw [] follows; (focus (simp (maxSteps := 9999999) (disch := omega) only [go_sem, g1, x32, tb_ren]; rfl)); (focus (simp (maxSteps := 9999999) (disch := omega) only [go_sem, g1, x32, tb_ren]; first | done | trivial)); (focus (simp (maxSteps := 9999999) (disch := omega) only [go_sem, g1, x32, tb_ren]; rfl))) | (apply TailK.go; (focus (simp (maxSteps := 9999999) (disch := omega) only [go_sem, g1, x32, tb_ren]; rfl))) | refine AWpA.skip ?_ | refine AWpA.exit ?_ | refine AWpA.ret ?_ | (with_reducible refine ARoundsA.succ ?_) | ((first | refine Runs.kt (by assumption) (fun h9 => ?_) | refine Runs.kf (by assumption) (fun h9 => ?_) | refine Runs.nt (by assumption) (fun h9 => ?_) | refine Runs.nf (by assumption) (fun h9 => ?_) | refine CondP.ht (by assumption) (fun h9 => ?_) | refine CondP.hf (by assumption) (fun h9 => ?_) | refine CondP.nt (by assumption) (fun h9 => ?_) | refine CondP.nf (by assumption) (fun h9 => ?_)); (try simp only [h9]); clear h9) | ((first | (with_reducible apply CallG.plain1 [] (ht)) | (with_reducible apply CallG.draw1 [] (ht))); (focus ((try refine And.intro (leAs_of_eq rfl) ?_); (try refine And.intro (leOL_of_eq rfl) ?_); simp (maxSteps := 9999999) (disch := omega) only [go_sem, g1, x32, tb_ren]; first | done | (repeat' (first | rfl | (refine And.intro ?_ ?_))))); (focus (simp (maxSteps := 9999999) (disch := omega) only [go_sem, g1, x32, tb_ren]; rfl)))); (try simp (maxSteps := 9999999) (disch := omega) only [go_sem, g1, x32, tb_ren]); (try (refine And.intro ?_ ?_; (focus (first | omega | (simp only [go_sem]; done) | (simp; done) | (simp; omega) | assumption))))) | ((first | refine CondP.split (fun hif => ?_) (fun hif => ?_) | refine Runs.part (fun hif => ?_) (fun hif => ?_)) <;> ((try simp only [hif]); (try simp only [decide_eq_true_eq, decide_eq_false_iff_not, Bool.not_eq_true, Bool.not_eq_false, Bool.not_eq_true', Bool.not_eq_false', beq_iff_eq, bne_iff_ne, bne_eq_false_iff_eq, beq_eq_false_iff_ne, ne_eq, Bool.and_eq_true, Bool.or_eq_true, Bool.or_eq_false_iff] at hif); (try (have h9 : _ = true := hif; simp only [h9])); (try (have h9 : _ = false := hif; simp only [h9])); (try simp (maxSteps := 9999999) (disch := omega) only [go_sem, g1, x32, tb_ren]); (try (refine And.intro ?_ ?_; (focus (first | omega | (simp only [go_sem]; done) | (simp; done) | (simp; omega) | assumption)))); (try (exfalso; omega; done))))))
    (apply Ret.det [0]; (focus (first | exact .inl rfl | exact .inr rfl)); (focus (simp (maxSteps := 9999999) (disch := omega) only [go_sem, tb_ren]; rfl)); (simp (maxSteps := 9999999) (disch := omega) only [go_sem, tb_ren]; (try (repeat' (first | done | trivial | rfl | exact leAs_rfl _ | decide | (refine And.intro ?_ ?_) | (simp; done) | omega | (simp; decide))))))
end Go.Proofs.Ytnadhhmlehifnaa
