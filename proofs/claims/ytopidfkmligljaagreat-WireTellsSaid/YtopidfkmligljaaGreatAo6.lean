/- Contracts: a reader. -/
import Derived.Test.YtopidfkmligljaaGreatEg5
import Derived.Test.YtopidfkmligljaaGreatAo5
namespace Go.Proofs.YtopidfkmligljaaGreat
noncomputable section
set_option linter.unusedSimpArgs false
set_option linter.unusedVariables false
set_option maxHeartbeats 4000000
open Go Go.Am
set_option maxRecDepth 100000
/- quidnunc/octets.Read -/
def c22_1 : ACode := .region false [⟨some 2, .move, [.c (.val (.pointer none))], none⟩] [] [] [0] false [] []
def c22_3 : ACode := .region false [⟨some 3, .move, [.t 0], none⟩,
  ⟨some 4, .call 61, [.t 3], none⟩,
  ⟨some 5, .build [(.int .i64 0), (.slice none 0 0)] [(1, 1)], [.t 4], none⟩,
  ⟨some 6, .box 0, [.t 5], none⟩,
  ⟨some 2, .move, [.t 6], none⟩] [] [] [2] true [] []
def c22_2 : ACode := .seq c22_3 .ret
def c22_0 : ACode := .seq c22_1 c22_2
def code22 : Code := (Tryz.f22.body).getD .skip
theorem c22_ok : compC Tryz.prog 7 code22 = some (strip c22_0) := by kernel_rfl
theorem res22_ok : Tryz.f22.results.toList.mapM (resC Tryz.prog) = some [(2, none)] := by kernel_rfl
/- (*quidnunc/octets.Reader).has -/
def c126_1 : ACode := .region false [⟨some 4, .move, [.c (.val (.bool false))], none⟩] [] [] [0, 1] false [] []
def c126_4 : ACode := .region false [⟨some 5, .move, [.t 1], none⟩,
  ⟨some 6, .move, [.t 0], none⟩,
  ⟨some 7, .nilChk, [.t 6], none⟩,
  ⟨some 8, .addr 1, [.t 7], none⟩,
  ⟨some 9, .load false 1, [.t 8], none⟩,
  ⟨some 10, .len, [.t 9], none⟩,
  ⟨some 11, .bin .gtr, [.t 5, .t 10], none⟩] [] [] [0, 11] false [] []
def c126_6 : ACode := .region false [⟨some 12, .move, [.t 0], none⟩,
  ⟨some 13, .nilChk, [.t 12], none⟩,
  ⟨some 14, .addr 0, [.t 13], none⟩,
  ⟨some 15, .call 26, [.t 14, .c (.val (.int .i64 6))], none⟩] [] [] [0] true [] []
def c126_5 : ACode := .cond (.t 11) c126_6 .skip
def c126_3 : ACode := .seq c126_4 c126_5
def c126_8 : ACode := .region false [⟨some 16, .move, [.t 0], none⟩,
  ⟨some 17, .nilChk, [.t 16], none⟩,
  ⟨some 18, .addr 0, [.t 17], none⟩,
  ⟨some 19, .addr 0, [.t 18], none⟩,
  ⟨some 20, .load false 1, [.t 19], none⟩,
  ⟨some 21, .bin .eql, [.t 20, .c (.val (.int .i64 0))], none⟩,
  ⟨some 4, .move, [.t 21], none⟩] [] [] [4] false [] []
def c126_7 : ACode := .seq c126_8 .ret
def c126_2 : ACode := .seq c126_3 c126_7
def c126_0 : ACode := .seq c126_1 c126_2
def code126 : Code := (Tryz.f126.body).getD .skip
theorem c126_ok : compC Tryz.prog 22 code126 = some (strip c126_0) := by kernel_rfl
theorem res126_ok : Tryz.f126.results.toList.mapM (resC Tryz.prog) = some [(4, none)] := by kernel_rfl
/- (*quidnunc/octets.Reader).take -/
def c127_1 : ACode := .region false [⟨some 4, .move, [.c (.val (.slice none 0 0))], none⟩] [] [] [0, 1] false [] []
def c127_3 : ACode := .region false [⟨some 6, .move, [.t 0], none⟩,
  ⟨some 7, .nilChk, [.t 6], none⟩,
  ⟨some 8, .addr 1, [.t 7], none⟩,
  ⟨some 9, .load false 1, [.t 8], none⟩,
  ⟨some 10, .move, [.t 1], none⟩,
  ⟨some 11, .slS 1 false true false, [.t 9, .t 10], none⟩,
  ⟨some 12, .call 61, [.t 11], none⟩,
  ⟨some 5, .move, [.t 12], none⟩] [] [] [0, 1, 5] true [] []
def c127_5 : ACode := .region false [⟨some 13, .move, [.t 0], none⟩,
  ⟨some 14, .move, [.t 0], none⟩,
  ⟨some 15, .nilChk, [.t 14], none⟩,
  ⟨some 16, .addr 1, [.t 15], none⟩,
  ⟨some 17, .load false 1, [.t 16], none⟩,
  ⟨some 18, .move, [.t 1], none⟩,
  ⟨some 19, .slS 1 true false false, [.t 17, .t 18], none⟩,
  ⟨some 20, .nilChk, [.t 13], none⟩,
  ⟨some 21, .addr 1, [.t 20], none⟩,
  ⟨none, .store 1, [.t 21, .t 19], none⟩] [] [] [5] true [] []
def c127_7 : ACode := .region false [⟨some 22, .move, [.t 5], none⟩,
  ⟨some 4, .move, [.t 22], none⟩] [] [] [4] false [] []
def c127_6 : ACode := .seq c127_7 .ret
def c127_4 : ACode := .seq c127_5 c127_6
def c127_2 : ACode := .seq c127_3 c127_4
def c127_0 : ACode := .seq c127_1 c127_2
def code127 : Code := (Tryz.f127.body).getD .skip
theorem c127_ok : compC Tryz.prog 23 code127 = some (strip c127_0) := by kernel_rfl
theorem res127_ok : Tryz.f127.results.toList.mapM (resC Tryz.prog) = some [(4, none)] := by kernel_rfl
/- (*quidnunc/octets.Reader).Done -/
def c27_1 : ACode := .region false [⟨some 2, .move, [.c (.val (.int .i64 0))], none⟩] [] [] [0] false [] []
def c27_4 : ACode := .region false [⟨some 3, .move, [.t 0], none⟩,
  ⟨some 4, .nilChk, [.t 3], none⟩,
  ⟨some 5, .addr 1, [.t 4], none⟩,
  ⟨some 6, .load false 1, [.t 5], none⟩,
  ⟨some 7, .len, [.t 6], none⟩,
  ⟨some 8, .bin .gtr, [.t 7, .c (.val (.int .i64 0))], none⟩] [] [] [0, 8] false [] []
def c27_6 : ACode := .region false [⟨some 9, .move, [.t 0], none⟩,
  ⟨some 10, .nilChk, [.t 9], none⟩,
  ⟨some 11, .addr 0, [.t 10], none⟩,
  ⟨some 12, .call 26, [.t 11, .c (.val (.int .i64 4))], none⟩] [] [] [0] true [] []
def c27_5 : ACode := .cond (.t 8) c27_6 .skip
def c27_3 : ACode := .seq c27_4 c27_5
def c27_8 : ACode := .region false [⟨some 13, .move, [.t 0], none⟩,
  ⟨some 14, .nilChk, [.t 13], none⟩,
  ⟨some 15, .addr 0, [.t 14], none⟩,
  ⟨some 16, .addr 0, [.t 15], none⟩,
  ⟨some 17, .load false 1, [.t 16], none⟩,
  ⟨some 2, .move, [.t 17], none⟩] [] [] [2] false [] []
def c27_7 : ACode := .seq c27_8 .ret
def c27_2 : ACode := .seq c27_3 c27_7
def c27_0 : ACode := .seq c27_1 c27_2
def code27 : Code := (Tryz.f27.body).getD .skip
theorem c27_ok : compC Tryz.prog 18 code27 = some (strip c27_0) := by kernel_rfl
theorem res27_ok : Tryz.f27.results.toList.mapM (resC Tryz.prog) = some [(2, none)] := by kernel_rfl
/-- A reader: its error, where its bytes are, how many were taken, of how many. -/
abbrev RdO (i a n : Nat) (err : Int) : AObj := .cells false [I err, .sl i a (n - a) 1 none]
theorem Seg.part {L : List Int} {a n : Nat} (hL : L.length ≤ 1099511627776) (h : a + n ≤ L.length) : Seg (bA L) a ((L.drop a).take n) :=
  ⟨by
    have hl : ((L.drop a).take n).length = n := by simp; omega
    rw [hl, bA_drop, bA_take], by simp [bA_len]; omega, fun ρ => bA_ren ρ L, by simp; omega⟩
theorem rfail_r (a : Nat) (L : List Int) (err e : Int) : ACall Tryz.prog 26 [.ptr 0 0, I e] [RdO 1 a L.length err, .cells true (bA L)] (Det (.tup []) [RdO 1 a L.length (failI err e), .cells true (bA L)]) := by
  refine ACall.startA c26_ok Tryz.func26 rfl Tryz.ntmps26 (by kernel_rfl) res26_ok rfl rfl rfl ?_; simp (maxSteps := 9999999) (disch := omega) only [go_sem]
  (have k9 := k0; (repeat' (first | refine goM ?_ | ((first | refine CondP.split (fun hif => ?_) (fun hif => ?_) | refine Runs.part (fun hif => ?_) (fun hif => ?_)) <;> ((try simp only [BL] at hif); first | (exfalso; omega; done) | refine goI ?_)))); (all_goals (try clear k9)))
  all_goals
    (apply Ret.det [0, 1]; (focus (first | exact .inl rfl | exact .inr rfl)); (focus (simp (maxSteps := 9999999) (disch := omega) only [go_sem]; rfl)); (simp (maxSteps := 9999999) (disch := omega) only [go_sem]; (try (repeat' (first | done | trivial | rfl | exact leAs_rfl _ | decide | (refine And.intro ?_ ?_) | (simp; done) | omega | (simp; decide))))))
    all_goals (simp [failI, *])
def hasE (err n left : Int) : Int := cond (decide (left < n)) (failI err 6) err
theorem has_any (a : Nat) (L : List Int) (hL : L.length ≤ 1099511627776) (err n : Int) : ACall Tryz.prog 126 [.ptr 0 0, I n] [RdO 1 a L.length err, .cells true (bA L)] (Det (Bo (hasE err n (L.length - a : Nat) == 0)) [RdO 1 a L.length (hasE err n (L.length - a : Nat)), .cells true (bA L)]) := by
  by_cases h : ((L.length - a : Nat) : Int) < n
  · have e : hasE err n (L.length - a : Nat) = failI err 6 := by simp [hasE, h]
    rw [e]
    refine ACall.startA c126_ok Tryz.func126 rfl Tryz.ntmps126 (by kernel_rfl) res126_ok rfl rfl rfl ?_; simp (maxSteps := 9999999) (disch := omega) only [go_sem]
    (have k9 := And.intro (eq_true h) (k0); have a1 := Arm.mk [0, 1] (rfail_r a L err 6); refine goK ?_; (try clear k9); (try clear a1))
    (have k9 := k0; exact Ret.dk [0, 1])
  · have e : hasE err n (L.length - a : Nat) = err := by simp [hasE, h]
    rw [e]
    refine ACall.startA c126_ok Tryz.func126 rfl Tryz.ntmps126 (by kernel_rfl) res126_ok rfl rfl rfl ?_; simp (maxSteps := 9999999) (disch := omega) only [go_sem]
    (have k9 := And.intro (eq_false h) (k0); have a1 := Arm.mk [0, 1] (rfail_r a L err 6); refine goK ?_; (try clear k9); (try clear a1))
    (have k9 := k0; exact Ret.dk [0, 1])
theorem take_any (a n : Nat) (L : List Int) (hL : L.length ≤ 1099511627776) (err : Int) (h : a + n ≤ L.length) : ACall Tryz.prog 127 [.ptr 0 0, I (n : Int)] [RdO 1 a L.length err, .cells true (bA L)] (Det (.sl 2 0 n 1 none) [RdO 1 (a + n) L.length err, .cells true (bA L), .cells false (bA ((L.drop a).take n))]) := by
  have hc := clone_any (Seg.part (L := L) (a := a) (n := n) hL h)
  have hl : ((L.drop a).take n).length = n := by simp; omega
  rw [hl] at hc
  have h1 : ((n : Int) ≤ ((L.length - a : Nat) : Int)) = True := eq_true (by omega)
  have h2 : L.length - a - n = L.length - (a + n) := by omega
  refine ACall.startA c127_ok Tryz.func127 rfl Tryz.ntmps127 (by kernel_rfl) res127_ok rfl rfl rfl ?_; simp (maxSteps := 9999999) (disch := omega) only [go_sem]
  (have k9 := And.intro @h1 (And.intro @h2 (k0)); have a1 := Arm.mk [1] hc; refine goK ?_; (try clear k9); (try clear a1))
  (have k9 := k0; exact Ret.dk [0, 1, _])
theorem read_any {P : List AV} {o : Nat} {l : List Int} (s : Seg P o l) : ACall Tryz.prog 22 [.sl 0 o l.length 1 none] [.cells true P] (Det (.ptr 1 0) [.cells true P, RdO 2 0 l.length 0, .cells false (bA l)]) := by
  refine ACall.startA c22_ok Tryz.func22 rfl Tryz.ntmps22 (by kernel_rfl) res22_ok rfl rfl rfl ?_; simp (maxSteps := 9999999) (disch := omega) only [go_sem]
  (have k9 := And.intro @s.ren (k0); have a1 := Arm.mk [0] (clone_any s); refine goK ?_; (try clear k9); (try clear a1))
  (have k9 := And.intro @s.ren (k0); exact Ret.dk [0, _, _])
def rawOk (err n left : Int) : Bool := decide (0 ≤ n ∧ n ≤ left) && (err == 0)
def rawE (err n left : Int) : Int := cond (decide (n < 0)) (failI err 1) (hasE err n left)
def rawA (err n left : Int) (a : Nat) : Nat := cond (rawOk err n left) (a + n.toNat) a
def rawL (err n left : Int) (a : Nat) (L : List Int) : List Int := cond (rawOk err n left) ((L.drop a).take n.toNat) []
def doneE (err : Int) (left : Nat) : Int := cond (decide (0 < left)) (failI err 4) err
theorem done_any (a : Nat) (L : List Int) (err : Int) : ACall Tryz.prog 27 [.ptr 0 0] [RdO 1 a L.length err, .cells true (bA L)] (Det (I (doneE err (L.length - a))) [RdO 1 a L.length (doneE err (L.length - a)), .cells true (bA L)]) := by
  by_cases h : 0 < L.length - a
  · have e : doneE err (L.length - a) = failI err 4 := by simp [doneE, h]
    rw [e]
    have h1 : ((0 : Int) < ((L.length - a : Nat) : Int)) = True := eq_true (by omega)
    refine ACall.startA c27_ok Tryz.func27 rfl Tryz.ntmps27 (by kernel_rfl) res27_ok rfl rfl rfl ?_; simp (maxSteps := 9999999) (disch := omega) only [go_sem]
    (have k9 := And.intro @h (And.intro @h1 (k0)); have a1 := Arm.mk [0, 1] (rfail_r a L err 4); refine goK ?_; (try clear k9); (try clear a1))
    (have k9 := k0; exact Ret.dk [0, 1])
  · have e : doneE err (L.length - a) = err := by simp [doneE, h]
    rw [e]
    have h1 : ((0 : Int) < ((L.length - a : Nat) : Int)) = False := eq_false (by omega)
    refine ACall.startA c27_ok Tryz.func27 rfl Tryz.ntmps27 (by kernel_rfl) res27_ok rfl rfl rfl ?_; simp (maxSteps := 9999999) (disch := omega) only [go_sem]
    (have k9 := And.intro @h (And.intro @h1 (k0)); have a1 := Arm.mk [0, 1] (rfail_r a L err 4); refine goK ?_; (try clear k9); (try clear a1))
    (have k9 := k0; exact Ret.dk [0, 1])
end
end Go.Proofs.YtopidfkmligljaaGreat
