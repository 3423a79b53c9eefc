/- Contracts: a writer's numbers, flags, texts. -/
import Derived.Test.YtopidfkmligljaaGreatEg5
import Derived.Test.YtopidfkmligljaaGreatAo3
namespace Go.Proofs.YtopidfkmligljaaGreat
noncomputable section
set_option linter.unusedSimpArgs false
set_option linter.unusedVariables false
set_option maxHeartbeats 4000000
open Go Go.Am
set_option maxRecDepth 100000
/- quidnunc/octets.fits -/
def c133_1 : ACode := .region false [⟨some 4, .move, [.c (.val (.bool false))], none⟩] [] [] [0, 1] false [] []
def c133_3 : ACode := .region false [⟨some 5, .move, [.t 1], none⟩,
  ⟨some 6, .bin .eql, [.t 5, .c (.val (.int .i64 8))], none⟩,
  ⟨some 7, .move, [.t 6], none⟩,
  ⟨some 8, .move, [.t 0], some (some 7, false)⟩,
  ⟨some 9, .move, [.t 1], some (some 7, false)⟩,
  ⟨some 10, .bin .mul, [.c (.val (.int .i64 8)), .t 9], some (some 7, false)⟩,
  ⟨some 11, .bin .shr, [.t 8, .t 10], some (some 7, false)⟩,
  ⟨some 12, .bin .eql, [.t 11, .c (.val (.int .u64 0))], some (some 7, false)⟩,
  ⟨some 13, .pick, [.t 7, .c (.val (.bool true)), .t 12], none⟩,
  ⟨some 4, .move, [.t 13], none⟩] [] [] [4] false [] []
def c133_2 : ACode := .seq c133_3 .ret
def c133_0 : ACode := .seq c133_1 c133_2
def code133 : Code := (Tryz.f133.body).getD .skip
theorem c133_ok : compC Tryz.prog 14 code133 = some (strip c133_0) := by kernel_rfl
theorem res133_ok : Tryz.f133.results.toList.mapM (resC Tryz.prog) = some [(4, none)] := by kernel_rfl
/- (*quidnunc/octets.Writer).Number -/
def c95_1 : ACode := .region false [⟨some 6, .move, [.c (.val (.pointer none))], none⟩] [] [] [0, 1, 2] false [] []
def c95_5 : ACode := .region false [⟨some 28, .move, [.t 2], none⟩,
  ⟨some 29, .bin .lss, [.t 28, .c (.val (.int .i64 1))], none⟩,
  ⟨some 30, .move, [.t 29], none⟩,
  ⟨some 31, .move, [.t 2], some (some 30, false)⟩,
  ⟨some 32, .bin .gtr, [.t 31, .c (.val (.int .i64 8))], some (some 30, false)⟩,
  ⟨some 33, .pick, [.t 30, .c (.val (.bool true)), .t 32], none⟩,
  ⟨some 27, .move, [.t 33], none⟩] [] [] [0, 1, 2, 27] false [] []
def c95_7 : ACode := .region false [⟨some 34, .move, [.t 0], none⟩,
  ⟨some 35, .nilChk, [.t 34], none⟩,
  ⟨some 36, .addr 1, [.t 35], none⟩,
  ⟨some 37, .call 26, [.t 36, .c (.val (.int .i64 1))], none⟩] [] [] [0] true [] []
def c95_9 : ACode := .region false [⟨some 39, .move, [.t 1], none⟩,
  ⟨some 40, .move, [.t 2], none⟩,
  ⟨some 41, .call 133, [.t 39, .t 40], none⟩,
  ⟨some 42, .un .not, [.t 41], none⟩,
  ⟨some 38, .move, [.t 42], none⟩] [] [] [0, 1, 2, 38] true [] []
def c95_11 : ACode := .region false [⟨some 43, .move, [.t 0], none⟩,
  ⟨some 44, .nilChk, [.t 43], none⟩,
  ⟨some 45, .addr 1, [.t 44], none⟩,
  ⟨some 46, .call 26, [.t 45, .c (.val (.int .i64 2))], none⟩] [] [] [0] true [] []
def c95_13 : ACode := .region false [⟨some 7, .alloc (List.replicate 8 (.int .u8 0)), [], none⟩] [] [] [0, 1, 2, 7] true [] []
def c95_16 : ACode := .region false [⟨some 9, .move, [.t 2], none⟩,
  ⟨some 10, .move, [.c (.val (.int .i64 0))], none⟩] [] [] [0, 1, 2, 7, 9, 10] false [] []
def c95_20 : ACode := .region false [⟨some 11, .bin .lss, [.t 10, .t 9], none⟩] [] [] [0, 1, 2, 7, 9, 10, 11] false [] []
def c95_22 : ACode := .cond (.t 11) .skip (.exit 1)
def c95_26 : ACode := .region false [⟨some 12, .move, [.t 10], none⟩,
  ⟨some 8, .move, [.t 12], none⟩] [] [] [0, 1, 2, 7, 8, 9, 10] false [] []
def c95_27 : ACode := .region false [⟨some 13, .move, [.t 8], none⟩,
  ⟨some 14, .move, [.t 1], none⟩,
  ⟨some 15, .move, [.t 8], none⟩,
  ⟨some 16, .bin .mul, [.c (.val (.int .i64 8)), .t 15], none⟩,
  ⟨some 17, .bin .shr, [.t 14, .t 16], none⟩,
  ⟨some 18, .conv .u8, [.t 17], none⟩,
  ⟨some 19, .ixA 8 1, [.t 7, .t 13], none⟩,
  ⟨none, .store 1, [.t 19, .t 18], none⟩] [] [] [0, 1, 2, 7, 9, 10] true [] []
def c95_25 : ACode := .seq c95_26 c95_27
def c95_24 : ACode := .block 2 c95_25
def c95_28 : ACode := .region false [⟨some 20, .bin .add, [.t 10, .c (.val (.int .i64 1))], none⟩,
  ⟨some 10, .move, [.t 20], none⟩] [] [] [0, 1, 2, 7, 9, 10] false [] []
def c95_23 : ACode := .seq c95_24 c95_28
def c95_21 : ACode := .seq c95_22 c95_23
def c95_19 : ACode := .seq c95_20 c95_21
def c95_18 : ACode := .loop c95_19
def c95_17 : ACode := .block 1 c95_18
def c95_15 : ACode := .seq c95_16 c95_17
def c95_29 : ACode := .region false [⟨some 21, .move, [.t 0], none⟩,
  ⟨some 22, .move, [.t 2], none⟩,
  ⟨some 23, .move, [.t 2], none⟩,
  ⟨some 24, .slA 8 1 false true true, [.t 7, .t 22, .t 23], none⟩,
  ⟨some 25, .buildSl 1 1 [(.slice none 0 0)] [(0, 1)], [.t 24], none⟩,
  ⟨some 26, .call 134, [.t 21, .t 25], none⟩] [] [] [0] true [] []
def c95_14 : ACode := .seq c95_15 c95_29
def c95_12 : ACode := .seq c95_13 c95_14
def c95_10 : ACode := .cond (.t 38) c95_11 c95_12
def c95_8 : ACode := .seq c95_9 c95_10
def c95_6 : ACode := .cond (.t 27) c95_7 c95_8
def c95_4 : ACode := .seq c95_5 c95_6
def c95_3 : ACode := .block 0 c95_4
def c95_31 : ACode := .region false [⟨some 47, .move, [.t 0], none⟩,
  ⟨some 6, .move, [.t 47], none⟩] [] [] [6] false [] []
def c95_30 : ACode := .seq c95_31 .ret
def c95_2 : ACode := .seq c95_3 c95_30
def c95_0 : ACode := .seq c95_1 c95_2
def code95 : Code := (Tryz.f95.body).getD .skip
theorem c95_ok : compC Tryz.prog 48 code95 = some (strip c95_0) := by kernel_rfl
theorem res95_ok : Tryz.f95.results.toList.mapM (resC Tryz.prog) = some [(6, none)] := by kernel_rfl
/-- What a writer has when bytes are laid behind. -/
def wput (err : Int) (l x : List Int) : List Int := cond (err == 0) (l ++ x) l
theorem wput_ok (l x : List Int) : wput 0 l x = l ++ x := rfl
theorem wput_no {err : Int} (h : (err == 0) = false) (l x : List Int) : wput err l x = l := by unfold wput; rw [h]; rfl
def fitsI (v w : Int) : Bool := v.fdiv (2 ^ (8 * w).toNat) == 0
theorem fits_any (v w : Int) (h0 : 0 ≤ v ∧ v < 18446744073709551616) (h1 : 0 < w) (h2 : w < 9) : ACall Tryz.prog 133 [.val (.int .u64 v), I w] [] (Det (Bo (fitsI v w)) []) := by
  refine ACall.startA c133_ok Tryz.func133 rfl Tryz.ntmps133 (by kernel_rfl) res133_ok rfl rfl rfl ?_; simp (maxSteps := 9999999) (disch := omega) only [go_sem]
  (have k9 := k0; (repeat' (first | refine AWpA.seq ?_ | refine AWpA.block ?_ | (with_reducible refine CondP.tt ?_) | (with_reducible refine CondP.ff ?_) | refine AWpA.cg ?_ | ((first | refine AWpA.rg ?_ | refine AWpA.dg [] [] follows ?_ | refine TailK.tg ?_ | refine AWpA.skip ?_ | refine AWpA.exit ?_ | refine AWpA.ret ?_ | (with_reducible refine ARoundsA.succ ?_) | ((first | refine Runs.gkt (fun h9 => ?_) | refine Runs.gkf (fun h9 => ?_) | refine Runs.gnt (fun h9 => ?_) | refine Runs.gnf (fun h9 => ?_) | refine CondP.gt (fun h9 => ?_) | refine CondP.gf (fun h9 => ?_) | refine CondP.gnt (fun h9 => ?_) | refine CondP.gnf (fun h9 => ?_)); (try simp only [h9]); clear h9)); (try simp (maxSteps := 9999999) (disch := omega) only [go_sem, k9]); (try refine cnd ?_)) | ((first | refine CondP.split (fun hif => ?_) (fun hif => ?_) | refine Runs.part (fun hif => ?_) (fun hif => ?_)) <;> ((try simp only [hif]); (try simp only [BL] at hif); (try (have h9 : _ = true := hif; simp only [h9])); (try (have h9 : _ = false := hif; simp only [h9])); (try simp (maxSteps := 9999999) (disch := omega) only [go_sem, k9]); (try refine cnd ?_); (try (exfalso; omega; done)))))); (all_goals (try clear k9)))
  · have e : fitsI v w = true := by
      unfold fitsI
      rw [hif]
      have : v.fdiv (2 ^ (8 * (8 : Int)).toNat) = 0 := by
        rw [Int.fdiv_eq_ediv_of_nonneg _ (by decide)]
        exact Int.ediv_eq_zero_of_lt h0.1 h0.2
      rw [this]; rfl
    rw [e]
    (apply Ret.det []; (focus (first | exact .inl rfl | exact .inr rfl)); (focus (simp (maxSteps := 9999999) (disch := omega) only [go_sem]; rfl)); (simp (maxSteps := 9999999) (disch := omega) only [go_sem]; (try (repeat' (first | done | trivial | rfl | exact leAs_rfl _ | decide | (refine And.intro ?_ ?_) | (simp; done) | omega | (simp; decide))))))
  · have e : fitsI v w = (v.fdiv (2 ^ min (8 * w).toNat 64) == 0) := by
      unfold fitsI
      rw [Nat.min_eq_left (by omega)]
    rw [e]
    (apply Ret.det []; (focus (first | exact .inl rfl | exact .inr rfl)); (focus (simp (maxSteps := 9999999) (disch := omega) only [go_sem]; rfl)); (simp (maxSteps := 9999999) (disch := omega) only [go_sem]; (try (repeat' (first | done | trivial | rfl | exact leAs_rfl _ | decide | (refine And.intro ?_ ?_) | (simp; done) | omega | (simp; decide))))))
def byteI (v : Int) (j : Nat) : Int := IntKind.u8.wrap (v.fdiv (2 ^ min j 64))
def leI (v : Int) : Nat → List Int
  | 0 => []
  | k + 1 => leI v k ++ [byteI v (8 * k)]
theorem leI_len (v : Int) : ∀ k, (leI v k).length = k
  | 0 => rfl
  | k + 1 => by simp [leI, leI_len v k]
theorem put1_any (l : List Int) (hl : l.length ≤ 1099511627776) (err : Int) {P1 : List AV} {o1 : Nat} {l1 : List Int} (s1 : Seg P1 o1 l1) : ACall Tryz.prog 134 [.ptr 0 0, .sl 2 0 1 1 none] [WrO 1 l.length err, .cells false (bA l), .cells true [.sl 3 o1 l1.length 1 none], .cells true P1] (Det (.ptr 0 0) [WrO 4 (wput err l l1).length err, .gone, .cells true [.sl 3 o1 l1.length 1 none], .cells true P1, .cells false (bA (wput err l l1))]) := by
  cases he : (err == 0) with
  | true =>
    obtain rfl : err = 0 := by simpa using he
    rw [wput_ok]
    exact put1_ok l hl s1
  | false =>
    rw [wput_no he]
    refine ACall.startA c134_ok Tryz.func134 rfl Tryz.ntmps134 (by kernel_rfl) res134_ok rfl rfl rfl ?_; simp (maxSteps := 9999999) (disch := omega) only [go_sem]
    (have k9 := And.intro @s1.ren (And.intro @he (k0)); refine goK ?_; (try clear k9))
    (have k9 := And.intro @s1.ren (k0); exact Ret.dk [0, 1, 2, 3, 1])
theorem put2_any (l : List Int) (hl : l.length ≤ 1099511627776) (err : Int) {P1 : List AV} {o1 : Nat} {l1 : List Int} (s1 : Seg P1 o1 l1) {P2 : List AV} {o2 : Nat} {l2 : List Int} (s2 : Seg P2 o2 l2) : ACall Tryz.prog 134 [.ptr 0 0, .sl 2 0 2 1 none] [WrO 1 l.length err, .cells false (bA l), .cells true [.sl 3 o1 l1.length 1 none, .sl 4 o2 l2.length 1 none], .cells true P1, .cells true P2] (Det (.ptr 0 0) [WrO 5 (wput err l (l1 ++ l2)).length err, .gone, .cells true [.sl 3 o1 l1.length 1 none, .sl 4 o2 l2.length 1 none], .cells true P1, .cells true P2, .cells false (bA (wput err l (l1 ++ l2)))]) := by
  cases he : (err == 0) with
  | true =>
    obtain rfl : err = 0 := by simpa using he
    rw [wput_ok]
    exact put2_ok l hl s1 s2
  | false =>
    rw [wput_no he]
    refine ACall.startA c134_ok Tryz.func134 rfl Tryz.ntmps134 (by kernel_rfl) res134_ok rfl rfl rfl ?_; simp (maxSteps := 9999999) (disch := omega) only [go_sem]
    (have k9 := And.intro @s1.ren (And.intro @s2.ren (And.intro @he (k0))); refine goK ?_; (try clear k9))
    (have k9 := And.intro @s1.ren (And.intro @s2.ren (k0)); exact Ret.dk [0, 1, 2, 3, 4, 1])
theorem room1 (v : Int) : Seg [.val (.int .u8 (byteI v 0)), .val (.int .u8 0), .val (.int .u8 0), .val (.int .u8 0), .val (.int .u8 0), .val (.int .u8 0), .val (.int .u8 0), .val (.int .u8 0)] 0 (leI v 1) := ⟨by simp [leI, bA], by simp [leI], fun ρ => by simp [renL, ren], by simp [leI]⟩
theorem num1 (l : List Int) (hl : l.length ≤ 1099511627776) (err v : Int) (h0 : 0 ≤ v ∧ v < 18446744073709551616) (hf : fitsI v 1 = true) : ACall Tryz.prog 95 [.ptr 0 0, .val (.int .u64 v), I 1] [WrO 1 l.length err, .cells false (bA l)] (Det (.ptr 0 0) [WrO 2 (wput err l (leI v 1)).length err, .gone, .cells false (bA (wput err l (leI v 1)))]) := by
  refine ACall.startA c95_ok Tryz.func95 rfl Tryz.ntmps95 (by kernel_rfl) res95_ok rfl rfl rfl ?_; simp (maxSteps := 9999999) (disch := omega) only [go_sem]
  (have k9 := And.intro @hf (k0); have a1 := Arm.mk [] (fits_any v 1 h0 (by decide) (by decide)); (repeat' (first | refine goM ?_ | ((first | refine CondP.split (fun hif => ?_) (fun hif => ?_) | refine Runs.part (fun hif => ?_) (fun hif => ?_)) <;> ((try simp only [BL] at hif); first | (exfalso; omega; done) | refine goI ?_)))); (all_goals (try clear k9)); (all_goals (try clear a1)))
  refine AWpA.rounds 2 ?_
  (have k9 := And.intro @hf (And.intro ((room1 v).ren) (k0)); have a1 := Arm.mk [0, 1, 546, 210] (put1_any l hl err (room1 v)); refine goK ?_; (try clear k9); (try clear a1))
  (have k9 := k0; exact Ret.dk [0, 1, _])
theorem room2 (v : Int) : Seg [.val (.int .u8 (byteI v 0)), .val (.int .u8 (byteI v 8)), .val (.int .u8 0), .val (.int .u8 0), .val (.int .u8 0), .val (.int .u8 0), .val (.int .u8 0), .val (.int .u8 0)] 0 (leI v 2) := ⟨by simp [leI, bA], by simp [leI], fun ρ => by simp [renL, ren], by simp [leI]⟩
theorem num2 (l : List Int) (hl : l.length ≤ 1099511627776) (err v : Int) (h0 : 0 ≤ v ∧ v < 18446744073709551616) (hf : fitsI v 2 = true) : ACall Tryz.prog 95 [.ptr 0 0, .val (.int .u64 v), I 2] [WrO 1 l.length err, .cells false (bA l)] (Det (.ptr 0 0) [WrO 2 (wput err l (leI v 2)).length err, .gone, .cells false (bA (wput err l (leI v 2)))]) := by
  refine ACall.startA c95_ok Tryz.func95 rfl Tryz.ntmps95 (by kernel_rfl) res95_ok rfl rfl rfl ?_; simp (maxSteps := 9999999) (disch := omega) only [go_sem]
  (have k9 := And.intro @hf (k0); have a1 := Arm.mk [] (fits_any v 2 h0 (by decide) (by decide)); (repeat' (first | refine goM ?_ | ((first | refine CondP.split (fun hif => ?_) (fun hif => ?_) | refine Runs.part (fun hif => ?_) (fun hif => ?_)) <;> ((try simp only [BL] at hif); first | (exfalso; omega; done) | refine goI ?_)))); (all_goals (try clear k9)); (all_goals (try clear a1)))
  refine AWpA.rounds 3 ?_
  (have k9 := And.intro @hf (And.intro ((room2 v).ren) (k0)); have a1 := Arm.mk [0, 1, 754, 210] (put1_any l hl err (room2 v)); refine goK ?_; (try clear k9); (try clear a1))
  (have k9 := k0; exact Ret.dk [0, 1, _])
theorem room3 (v : Int) : Seg [.val (.int .u8 (byteI v 0)), .val (.int .u8 (byteI v 8)), .val (.int .u8 (byteI v 16)), .val (.int .u8 0), .val (.int .u8 0), .val (.int .u8 0), .val (.int .u8 0), .val (.int .u8 0)] 0 (leI v 3) := ⟨by simp [leI, bA], by simp [leI], fun ρ => by simp [renL, ren], by simp [leI]⟩
theorem num3 (l : List Int) (hl : l.length ≤ 1099511627776) (err v : Int) (h0 : 0 ≤ v ∧ v < 18446744073709551616) (hf : fitsI v 3 = true) : ACall Tryz.prog 95 [.ptr 0 0, .val (.int .u64 v), I 3] [WrO 1 l.length err, .cells false (bA l)] (Det (.ptr 0 0) [WrO 2 (wput err l (leI v 3)).length err, .gone, .cells false (bA (wput err l (leI v 3)))]) := by
  refine ACall.startA c95_ok Tryz.func95 rfl Tryz.ntmps95 (by kernel_rfl) res95_ok rfl rfl rfl ?_; simp (maxSteps := 9999999) (disch := omega) only [go_sem]
  (have k9 := And.intro @hf (k0); have a1 := Arm.mk [] (fits_any v 3 h0 (by decide) (by decide)); (repeat' (first | refine goM ?_ | ((first | refine CondP.split (fun hif => ?_) (fun hif => ?_) | refine Runs.part (fun hif => ?_) (fun hif => ?_)) <;> ((try simp only [BL] at hif); first | (exfalso; omega; done) | refine goI ?_)))); (all_goals (try clear k9)); (all_goals (try clear a1)))
  refine AWpA.rounds 4 ?_
  (have k9 := And.intro @hf (And.intro ((room3 v).ren) (k0)); have a1 := Arm.mk [0, 1, 962, 210] (put1_any l hl err (room3 v)); refine goK ?_; (try clear k9); (try clear a1))
  (have k9 := k0; exact Ret.dk [0, 1, _])
theorem room4 (v : Int) : Seg [.val (.int .u8 (byteI v 0)), .val (.int .u8 (byteI v 8)), .val (.int .u8 (byteI v 16)), .val (.int .u8 (byteI v 24)), .val (.int .u8 0), .val (.int .u8 0), .val (.int .u8 0), .val (.int .u8 0)] 0 (leI v 4) := ⟨by simp [leI, bA], by simp [leI], fun ρ => by simp [renL, ren], by simp [leI]⟩
theorem num4 (l : List Int) (hl : l.length ≤ 1099511627776) (err v : Int) (h0 : 0 ≤ v ∧ v < 18446744073709551616) (hf : fitsI v 4 = true) : ACall Tryz.prog 95 [.ptr 0 0, .val (.int .u64 v), I 4] [WrO 1 l.length err, .cells false (bA l)] (Det (.ptr 0 0) [WrO 2 (wput err l (leI v 4)).length err, .gone, .cells false (bA (wput err l (leI v 4)))]) := by
  refine ACall.startA c95_ok Tryz.func95 rfl Tryz.ntmps95 (by kernel_rfl) res95_ok rfl rfl rfl ?_; simp (maxSteps := 9999999) (disch := omega) only [go_sem]
  (have k9 := And.intro @hf (k0); have a1 := Arm.mk [] (fits_any v 4 h0 (by decide) (by decide)); (repeat' (first | refine goM ?_ | ((first | refine CondP.split (fun hif => ?_) (fun hif => ?_) | refine Runs.part (fun hif => ?_) (fun hif => ?_)) <;> ((try simp only [BL] at hif); first | (exfalso; omega; done) | refine goI ?_)))); (all_goals (try clear k9)); (all_goals (try clear a1)))
  refine AWpA.rounds 5 ?_
  (have k9 := And.intro @hf (And.intro ((room4 v).ren) (k0)); have a1 := Arm.mk [0, 1, 1170, 210] (put1_any l hl err (room4 v)); refine goK ?_; (try clear k9); (try clear a1))
  (have k9 := k0; exact Ret.dk [0, 1, _])
theorem room5 (v : Int) : Seg [.val (.int .u8 (byteI v 0)), .val (.int .u8 (byteI v 8)), .val (.int .u8 (byteI v 16)), .val (.int .u8 (byteI v 24)), .val (.int .u8 (byteI v 32)), .val (.int .u8 0), .val (.int .u8 0), .val (.int .u8 0)] 0 (leI v 5) := ⟨by simp [leI, bA], by simp [leI], fun ρ => by simp [renL, ren], by simp [leI]⟩
theorem num5 (l : List Int) (hl : l.length ≤ 1099511627776) (err v : Int) (h0 : 0 ≤ v ∧ v < 18446744073709551616) (hf : fitsI v 5 = true) : ACall Tryz.prog 95 [.ptr 0 0, .val (.int .u64 v), I 5] [WrO 1 l.length err, .cells false (bA l)] (Det (.ptr 0 0) [WrO 2 (wput err l (leI v 5)).length err, .gone, .cells false (bA (wput err l (leI v 5)))]) := by
  refine ACall.startA c95_ok Tryz.func95 rfl Tryz.ntmps95 (by kernel_rfl) res95_ok rfl rfl rfl ?_; simp (maxSteps := 9999999) (disch := omega) only [go_sem]
  (have k9 := And.intro @hf (k0); have a1 := Arm.mk [] (fits_any v 5 h0 (by decide) (by decide)); (repeat' (first | refine goM ?_ | ((first | refine CondP.split (fun hif => ?_) (fun hif => ?_) | refine Runs.part (fun hif => ?_) (fun hif => ?_)) <;> ((try simp only [BL] at hif); first | (exfalso; omega; done) | refine goI ?_)))); (all_goals (try clear k9)); (all_goals (try clear a1)))
  refine AWpA.rounds 6 ?_
  (have k9 := And.intro @hf (And.intro ((room5 v).ren) (k0)); have a1 := Arm.mk [0, 1, 1378, 210] (put1_any l hl err (room5 v)); refine goK ?_; (try clear k9); (try clear a1))
  (have k9 := k0; exact Ret.dk [0, 1, _])
theorem room6 (v : Int) : Seg [.val (.int .u8 (byteI v 0)), .val (.int .u8 (byteI v 8)), .val (.int .u8 (byteI v 16)), .val (.int .u8 (byteI v 24)), .val (.int .u8 (byteI v 32)), .val (.int .u8 (byteI v 40)), .val (.int .u8 0), .val (.int .u8 0)] 0 (leI v 6) := ⟨by simp [leI, bA], by simp [leI], fun ρ => by simp [renL, ren], by simp [leI]⟩
theorem num6 (l : List Int) (hl : l.length ≤ 1099511627776) (err v : Int) (h0 : 0 ≤ v ∧ v < 18446744073709551616) (hf : fitsI v 6 = true) : ACall Tryz.prog 95 [.ptr 0 0, .val (.int .u64 v), I 6] [WrO 1 l.length err, .cells false (bA l)] (Det (.ptr 0 0) [WrO 2 (wput err l (leI v 6)).length err, .gone, .cells false (bA (wput err l (leI v 6)))]) := by
  refine ACall.startA c95_ok Tryz.func95 rfl Tryz.ntmps95 (by kernel_rfl) res95_ok rfl rfl rfl ?_; simp (maxSteps := 9999999) (disch := omega) only [go_sem]
  (have k9 := And.intro @hf (k0); have a1 := Arm.mk [] (fits_any v 6 h0 (by decide) (by decide)); (repeat' (first | refine goM ?_ | ((first | refine CondP.split (fun hif => ?_) (fun hif => ?_) | refine Runs.part (fun hif => ?_) (fun hif => ?_)) <;> ((try simp only [BL] at hif); first | (exfalso; omega; done) | refine goI ?_)))); (all_goals (try clear k9)); (all_goals (try clear a1)))
  refine AWpA.rounds 7 ?_
  (have k9 := And.intro @hf (And.intro ((room6 v).ren) (k0)); have a1 := Arm.mk [0, 1, 1586, 210] (put1_any l hl err (room6 v)); refine goK ?_; (try clear k9); (try clear a1))
  (have k9 := k0; exact Ret.dk [0, 1, _])
theorem room7 (v : Int) : Seg [.val (.int .u8 (byteI v 0)), .val (.int .u8 (byteI v 8)), .val (.int .u8 (byteI v 16)), .val (.int .u8 (byteI v 24)), .val (.int .u8 (byteI v 32)), .val (.int .u8 (byteI v 40)), .val (.int .u8 (byteI v 48)), .val (.int .u8 0)] 0 (leI v 7) := ⟨by simp [leI, bA], by simp [leI], fun ρ => by simp [renL, ren], by simp [leI]⟩
theorem num7 (l : List Int) (hl : l.length ≤ 1099511627776) (err v : Int) (h0 : 0 ≤ v ∧ v < 18446744073709551616) (hf : fitsI v 7 = true) : ACall Tryz.prog 95 [.ptr 0 0, .val (.int .u64 v), I 7] [WrO 1 l.length err, .cells false (bA l)] (Det (.ptr 0 0) [WrO 2 (wput err l (leI v 7)).length err, .gone, .cells false (bA (wput err l (leI v 7)))]) := by
  refine ACall.startA c95_ok Tryz.func95 rfl Tryz.ntmps95 (by kernel_rfl) res95_ok rfl rfl rfl ?_; simp (maxSteps := 9999999) (disch := omega) only [go_sem]
  (have k9 := And.intro @hf (k0); have a1 := Arm.mk [] (fits_any v 7 h0 (by decide) (by decide)); (repeat' (first | refine goM ?_ | ((first | refine CondP.split (fun hif => ?_) (fun hif => ?_) | refine Runs.part (fun hif => ?_) (fun hif => ?_)) <;> ((try simp only [BL] at hif); first | (exfalso; omega; done) | refine goI ?_)))); (all_goals (try clear k9)); (all_goals (try clear a1)))
  refine AWpA.rounds 8 ?_
  (have k9 := And.intro @hf (And.intro ((room7 v).ren) (k0)); have a1 := Arm.mk [0, 1, 1794, 210] (put1_any l hl err (room7 v)); refine goK ?_; (try clear k9); (try clear a1))
  (have k9 := k0; exact Ret.dk [0, 1, _])
theorem room8 (v : Int) : Seg [.val (.int .u8 (byteI v 0)), .val (.int .u8 (byteI v 8)), .val (.int .u8 (byteI v 16)), .val (.int .u8 (byteI v 24)), .val (.int .u8 (byteI v 32)), .val (.int .u8 (byteI v 40)), .val (.int .u8 (byteI v 48)), .val (.int .u8 (byteI v 56))] 0 (leI v 8) := ⟨by simp [leI, bA], by simp [leI], fun ρ => by simp [renL, ren], by simp [leI]⟩
theorem num8 (l : List Int) (hl : l.length ≤ 1099511627776) (err v : Int) (h0 : 0 ≤ v ∧ v < 18446744073709551616) (hf : fitsI v 8 = true) : ACall Tryz.prog 95 [.ptr 0 0, .val (.int .u64 v), I 8] [WrO 1 l.length err, .cells false (bA l)] (Det (.ptr 0 0) [WrO 2 (wput err l (leI v 8)).length err, .gone, .cells false (bA (wput err l (leI v 8)))]) := by
  refine ACall.startA c95_ok Tryz.func95 rfl Tryz.ntmps95 (by kernel_rfl) res95_ok rfl rfl rfl ?_; simp (maxSteps := 9999999) (disch := omega) only [go_sem]
  (have k9 := And.intro @hf (k0); have a1 := Arm.mk [] (fits_any v 8 h0 (by decide) (by decide)); (repeat' (first | refine goM ?_ | ((first | refine CondP.split (fun hif => ?_) (fun hif => ?_) | refine Runs.part (fun hif => ?_) (fun hif => ?_)) <;> ((try simp only [BL] at hif); first | (exfalso; omega; done) | refine goI ?_)))); (all_goals (try clear k9)); (all_goals (try clear a1)))
  refine AWpA.rounds 9 ?_
  (have k9 := And.intro @hf (And.intro ((room8 v).ren) (k0)); have a1 := Arm.mk [0, 1, 2002, 210] (put1_any l hl err (room8 v)); refine goK ?_; (try clear k9); (try clear a1))
  (have k9 := k0; exact Ret.dk [0, 1, _])
end
end Go.Proofs.YtopidfkmligljaaGreat
