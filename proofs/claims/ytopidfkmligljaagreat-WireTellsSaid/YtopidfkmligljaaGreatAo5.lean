/- Contracts: a writer's numbers of any width, flags, texts, bytes. -/
import Derived.Test.YtopidfkmligljaaGreatAo4
namespace Go.Proofs.YtopidfkmligljaaGreat
noncomputable section
set_option linter.unusedSimpArgs false
set_option linter.unusedVariables false
set_option maxHeartbeats 4000000
open Go Go.Am
set_option maxRecDepth 100000
/- (*quidnunc/octets.Writer).Flag -/
def c91_1 : ACode := .region false [⟨some 4, .move, [.c (.val (.pointer none))], none⟩] [] [] [0, 1] false [] []
def c91_4 : ACode := .region false [⟨some 5, .move, [.t 1], none⟩] [] [] [0, 5] false [] []
def c91_7 : ACode := .region false [⟨some 6, .move, [.t 0], none⟩,
  ⟨some 7, .call 95, [.t 6, .c (.val (.int .u64 1)), .c (.val (.int .i64 1))], none⟩,
  ⟨some 4, .move, [.t 7], none⟩] [] [] [4] true [] []
def c91_6 : ACode := .seq c91_7 .ret
def c91_5 : ACode := .cond (.t 5) c91_6 .skip
def c91_3 : ACode := .seq c91_4 c91_5
def c91_9 : ACode := .region false [⟨some 8, .move, [.t 0], none⟩,
  ⟨some 9, .call 95, [.t 8, .c (.val (.int .u64 0)), .c (.val (.int .i64 1))], none⟩,
  ⟨some 4, .move, [.t 9], none⟩] [] [] [4] true [] []
def c91_8 : ACode := .seq c91_9 .ret
def c91_2 : ACode := .seq c91_3 c91_8
def c91_0 : ACode := .seq c91_1 c91_2
def code91 : Code := (Tryz.f91.body).getD .skip
theorem c91_ok : compC Tryz.prog 10 code91 = some (strip c91_0) := by kernel_rfl
theorem res91_ok : Tryz.f91.results.toList.mapM (resC Tryz.prog) = some [(4, none)] := by kernel_rfl
/- (*quidnunc/octets.Writer).Text -/
def c135_1 : ACode := .region false [⟨some 4, .move, [.c (.val (.pointer none))], none⟩] [] [] [0, 1] false [] []
def c135_4 : ACode := .region false [⟨some 5, .move, [.t 1], none⟩,
  ⟨some 6, .lenStr, [.t 5], none⟩,
  ⟨some 7, .bin .gtr, [.t 6, .c (.val (.int .i64 255))], none⟩] [] [] [0, 1, 7] false [] []
def c135_7 : ACode := .region false [⟨some 8, .move, [.t 0], none⟩,
  ⟨some 9, .nilChk, [.t 8], none⟩,
  ⟨some 10, .addr 1, [.t 9], none⟩,
  ⟨some 11, .call 26, [.t 10, .c (.val (.int .i64 2))], none⟩] [] [] [0] true [] []
def c135_9 : ACode := .region false [⟨some 12, .move, [.t 0], none⟩,
  ⟨some 4, .move, [.t 12], none⟩] [] [] [4] false [] []
def c135_8 : ACode := .seq c135_9 .ret
def c135_6 : ACode := .seq c135_7 c135_8
def c135_5 : ACode := .cond (.t 7) c135_6 .skip
def c135_3 : ACode := .seq c135_4 c135_5
def c135_11 : ACode := .region false [⟨some 13, .move, [.t 0], none⟩,
  ⟨some 14, .move, [.t 1], none⟩,
  ⟨some 15, .lenStr, [.t 14], none⟩,
  ⟨some 16, .conv .u8, [.t 15], none⟩,
  ⟨some 17, .buildSl 1 1 [(.int .u8 0)] [(0, 1)], [.t 16], none⟩,
  ⟨some 18, .move, [.t 1], none⟩,
  ⟨some 19, .toBytes, [.t 18], none⟩,
  ⟨some 20, .buildSl 1 2 [(.slice none 0 0)] [(0, 1), (1, 1)], [.t 17, .t 19], none⟩,
  ⟨some 21, .call 134, [.t 13, .t 20], none⟩,
  ⟨some 4, .move, [.t 21], none⟩] [] [] [4] true [] []
def c135_10 : ACode := .seq c135_11 .ret
def c135_2 : ACode := .seq c135_3 c135_10
def c135_0 : ACode := .seq c135_1 c135_2
def code135 : Code := (Tryz.f135.body).getD .skip
theorem c135_ok : compC Tryz.prog 22 code135 = some (strip c135_0) := by kernel_rfl
theorem res135_ok : Tryz.f135.results.toList.mapM (resC Tryz.prog) = some [(4, none)] := by kernel_rfl
theorem wfail_w (l : List Int) (err e : Int) : ACall Tryz.prog 26 [.ptr 0 1, I e] [WrO 1 l.length err, .cells false (bA l)] (Det (.tup []) [WrO 1 l.length (failI err e), .cells false (bA l)]) := by
  refine ACall.startA c26_ok Tryz.func26 rfl Tryz.ntmps26 (by kernel_rfl) res26_ok rfl rfl rfl ?_; simp (maxSteps := 9999999) (disch := omega) only [go_sem]
  (have k9 := k0; (repeat' (first | refine AWpA.seq ?_ | refine AWpA.block ?_ | (with_reducible refine CondP.tt ?_) | (with_reducible refine CondP.ff ?_) | refine AWpA.cg ?_ | ((first | refine AWpA.rg ?_ | refine AWpA.dg [] [] follows ?_ | refine TailK.tg ?_ | refine AWpA.skip ?_ | refine AWpA.exit ?_ | refine AWpA.ret ?_ | (with_reducible refine ARoundsA.succ ?_) | ((first | refine Runs.gkt (fun h9 => ?_) | refine Runs.gkf (fun h9 => ?_) | refine Runs.gnt (fun h9 => ?_) | refine Runs.gnf (fun h9 => ?_) | refine CondP.gt (fun h9 => ?_) | refine CondP.gf (fun h9 => ?_) | refine CondP.gnt (fun h9 => ?_) | refine CondP.gnf (fun h9 => ?_)); (try simp only [h9]); clear h9)); (try simp (maxSteps := 9999999) (disch := omega) only [go_sem, k9]); (try refine cnd ?_)) | ((first | refine CondP.split (fun hif => ?_) (fun hif => ?_) | refine Runs.part (fun hif => ?_) (fun hif => ?_)) <;> ((try simp only [hif]); (try simp only [BL] at hif); (try (have h9 : _ = true := hif; simp only [h9])); (try (have h9 : _ = false := hif; simp only [h9])); (try simp (maxSteps := 9999999) (disch := omega) only [go_sem, k9]); (try refine cnd ?_); (try (exfalso; omega; done)))))); (all_goals (try clear k9)))
  all_goals
    (apply Ret.det [0, 1]; (focus (first | exact .inl rfl | exact .inr rfl)); (focus (simp (maxSteps := 9999999) (disch := omega) only [go_sem]; rfl)); (simp (maxSteps := 9999999) (disch := omega) only [go_sem]; (try (repeat' (first | done | trivial | rfl | exact leAs_rfl _ | decide | (refine And.intro ?_ ?_) | (simp; done) | omega | (simp; decide))))))
    all_goals (simp [failI, *])
def wideB (w : Int) : Bool := decide (0 < w ∧ w < 9)
def numE (v w err : Int) : Int := cond (wideB w) (cond (fitsI v w) err (failI err 2)) (failI err 1)
def numL (v w err : Int) (l : List Int) : List Int := cond (wideB w && fitsI v w) (wput err l (leI v w.toNat)) l
theorem number_any (l : List Int) (hl : l.length ≤ 1099511627776) (err v w : Int) (h0 : 0 ≤ v ∧ v < 18446744073709551616) : ACall Tryz.prog 95 [.ptr 0 0, .val (.int .u64 v), I w] [WrO 1 l.length err, .cells false (bA l)] (Det (.ptr 0 0) [WrO 2 (numL v w err l).length (numE v w err), .gone, .cells false (bA (numL v w err l))]) := by
  by_cases hw : 0 < w ∧ w < 9
  · cases hf : fitsI v w with
    | true =>
      have e1 : numL v w err l = wput err l (leI v w.toNat) := by simp [numL, wideB, hw, hf]
      have e2 : numE v w err = err := by simp [numE, wideB, hw, hf]
      rw [e1, e2]
      have h8 : w = 1 ∨ w = 2 ∨ w = 3 ∨ w = 4 ∨ w = 5 ∨ w = 6 ∨ w = 7 ∨ w = 8 := by omega
      rcases h8 with rfl | rfl | rfl | rfl | rfl | rfl | rfl | rfl
      · exact num1 l hl err v h0 hf
      · exact num2 l hl err v h0 hf
      · exact num3 l hl err v h0 hf
      · exact num4 l hl err v h0 hf
      · exact num5 l hl err v h0 hf
      · exact num6 l hl err v h0 hf
      · exact num7 l hl err v h0 hf
      · exact num8 l hl err v h0 hf
    | false =>
      have e1 : numL v w err l = l := by simp [numL, hf]
      have e2 : numE v w err = failI err 2 := by simp [numE, wideB, hw, hf]
      rw [e1, e2]
      have h1 : (w < 1) = False := eq_false (by omega)
      have h2 : (8 < w) = False := eq_false (by omega)
      refine ACall.startA c95_ok Tryz.func95 rfl Tryz.ntmps95 (by kernel_rfl) res95_ok rfl rfl rfl ?_; simp (maxSteps := 9999999) (disch := omega) only [go_sem]
      (have k9 := And.intro @h1 (And.intro @h2 (And.intro @hf (k0))); have a1 := Arm.mk [] (fits_any v w h0 hw.1 hw.2); have a2 := Arm.mk [0, 1] (wfail_w l err 2); have e9 := Ends.mk [0, 1, 1]; exact goE)
  · have e1 : numL v w err l = l := by simp [numL, wideB, hw]
    have e2 : numE v w err = failI err 1 := by simp [numE, wideB, hw]
    rw [e1, e2]
    refine ACall.startA c95_ok Tryz.func95 rfl Tryz.ntmps95 (by kernel_rfl) res95_ok rfl rfl rfl ?_; simp (maxSteps := 9999999) (disch := omega) only [go_sem]
    (have k9 := k0; (repeat' (first | refine AWpA.seq ?_ | refine AWpA.block ?_ | (with_reducible refine CondP.tt ?_) | (with_reducible refine CondP.ff ?_) | refine AWpA.cg ?_ | ((first | refine AWpA.rg ?_ | refine AWpA.dg [] [] follows ?_ | refine TailK.tg ?_ | refine AWpA.skip ?_ | refine AWpA.exit ?_ | refine AWpA.ret ?_ | (with_reducible refine ARoundsA.succ ?_) | ((first | refine Runs.gkt (fun h9 => ?_) | refine Runs.gkf (fun h9 => ?_) | refine Runs.gnt (fun h9 => ?_) | refine Runs.gnf (fun h9 => ?_) | refine CondP.gt (fun h9 => ?_) | refine CondP.gf (fun h9 => ?_) | refine CondP.gnt (fun h9 => ?_) | refine CondP.gnf (fun h9 => ?_)); (try simp only [h9]); clear h9) | refine CallG.pg [0, 1] (wfail_w l err 1) ?_ | refine CallG.dg [0, 1] (wfail_w l err 1) ?_); (try simp (maxSteps := 9999999) (disch := omega) only [go_sem, k9]); (try refine cnd ?_)) | ((first | refine CondP.split (fun hif => ?_) (fun hif => ?_) | refine Runs.part (fun hif => ?_) (fun hif => ?_)) <;> ((try simp only [hif]); (try simp only [BL] at hif); (try (have h9 : _ = true := hif; simp only [h9])); (try (have h9 : _ = false := hif; simp only [h9])); (try simp (maxSteps := 9999999) (disch := omega) only [go_sem, k9]); (try refine cnd ?_); (try (exfalso; omega; done)))))); (all_goals (try clear k9)))
    all_goals (first | (exfalso; omega) | skip)
    all_goals (apply Ret.det [0, 1, 1]; (focus (first | exact .inl rfl | exact .inr rfl)); (focus (simp (maxSteps := 9999999) (disch := omega) only [go_sem]; rfl)); (simp (maxSteps := 9999999) (disch := omega) only [go_sem]; (try (repeat' (first | done | trivial | rfl | exact leAs_rfl _ | decide | (refine And.intro ?_ ?_) | (simp; done) | omega | (simp; decide))))))
theorem flag_any (l : List Int) (hl : l.length ≤ 1099511627776) (err : Int) (b : Bool) : ACall Tryz.prog 91 [.ptr 0 0, Bo b] [WrO 1 l.length err, .cells false (bA l)] (Det (.ptr 0 0) [WrO 2 (numL (cond b 1 0) 1 err l).length (numE (cond b 1 0) 1 err), .gone, .cells false (bA (numL (cond b 1 0) 1 err l))]) := by
  cases b
  · refine ACall.startA c91_ok Tryz.func91 rfl Tryz.ntmps91 (by kernel_rfl) res91_ok rfl rfl rfl ?_; simp (maxSteps := 9999999) (disch := omega) only [go_sem]
    (have k9 := k0; have a1 := Arm.mk [0, 1] (number_any l hl err 0 1 (by decide)); refine goK ?_; (try clear k9); (try clear a1))
    (have k9 := k0; exact Ret.dk [0, 1, _])
  · refine ACall.startA c91_ok Tryz.func91 rfl Tryz.ntmps91 (by kernel_rfl) res91_ok rfl rfl rfl ?_; simp (maxSteps := 9999999) (disch := omega) only [go_sem]
    (have k9 := k0; have a1 := Arm.mk [0, 1] (number_any l hl err 1 1 (by decide)); refine goK ?_; (try clear k9); (try clear a1))
    (have k9 := k0; exact Ret.dk [0, 1, _])
/-- A text's bytes. -/
def txI (s : ByteArray) : List Int := s.data.toList.map fun b => (b.toNat : Int)
theorem txI_len (s : ByteArray) : (txI s).length = s.size := by simp [txI]
theorem txI_str (s : ByteArray) : strCells s = bA (txI s) := by simp [strCells, txI, bA]
def textE (s : ByteArray) (err : Int) : Int := cond (decide (255 < s.size)) (failI err 2) err
def textL (s : ByteArray) (err : Int) (l : List Int) : List Int := cond (decide (255 < s.size)) l (wput err l ((s.size : Int) :: txI s))
theorem text_any (l : List Int) (hl : l.length ≤ 1099511627776) (err : Int) (s : ByteArray) : ACall Tryz.prog 135 [.ptr 0 0, .val (.string s)] [WrO 1 l.length err, .cells false (bA l)] (Det (.ptr 0 0) [WrO 2 (textL s err l).length (textE s err), .gone, .cells false (bA (textL s err l))]) := by
  by_cases h : 255 < s.size
  · have e1 : textL s err l = l := by simp [textL, h]
    have e2 : textE s err = failI err 2 := by simp [textE, h]
    rw [e1, e2]
    have h1 : ((255 : Int) < (s.size : Int)) = True := eq_true (by omega)
    refine ACall.startA c135_ok Tryz.func135 rfl Tryz.ntmps135 (by kernel_rfl) res135_ok rfl rfl rfl ?_; simp (maxSteps := 9999999) (disch := omega) only [go_sem]
    (have k9 := And.intro @h1 (k0); have a1 := Arm.mk [0, 1] (wfail_w l err 2); refine goK ?_; (try clear k9); (try clear a1))
    (have k9 := k0; exact Ret.dk [0, 1, 1])
  · have e1 : textL s err l = wput err l ((s.size : Int) :: txI s) := by simp [textL, h]
    have e2 : textE s err = err := by simp [textE, h]
    rw [e1, e2]
    have h1 : ((255 : Int) < (s.size : Int)) = False := eq_false (by omega)
    refine ACall.startA c135_ok Tryz.func135 rfl Tryz.ntmps135 (by kernel_rfl) res135_ok rfl rfl rfl ?_; simp (maxSteps := 9999999) (disch := omega) only [go_sem]
    have hp := put2_any l hl err (Seg.all [(s.size : Int)] (by simp)) (Seg.all (txI s) (by rw [txI_len]; omega))
    rw [txI_len] at hp
    (have k9 := And.intro @h1 (And.intro @txI_str (And.intro @txI_len (And.intro @bA_cons (And.intro @bA_nil (k0))))); have a1 := Arm.mk [0, 1, 178, 130, 162] hp; refine goK ?_; (try clear k9); (try clear a1))
    (have k9 := And.intro @txI_len (k0); exact Ret.dk [0, 1, _])
end
end Go.Proofs.YtopidfkmligljaaGreat
