/- Contracts: frames are decoded, by the program. -/
import Derived.Test.YthbpdmlbfnjoiaaAf2
import Derived.Test.YthbpdmlbfnjoiaaCk
namespace Go.Proofs.Ythbpdmlbfnjoiaa
set_option linter.unusedSimpArgs false
set_option linter.unusedVariables false
set_option maxHeartbeats 4000000
open Go Go.Am Go.RowKit Go.Crc
set_option maxRecDepth 100000
theorem num_at {B : List Int} {a k : Nat} (h : a + k ≤ B.length) (hk : 1 ≤ k) (hk8 : k ≤ 8) : numC B (k : Int) ⟨a, 0⟩ = ⟨a + k, 0⟩ ∧ numV B (k : Int) ⟨a, 0⟩ = valI ((B.drop a).take k) := by
  have hr : rawOk 0 (k : Int) ((B.length - a : Nat) : Int) = true := by
    unfold rawOk
    simp
    omega
  obtain ⟨_, _, _, h4, h5, h6⟩ := rawOk_yes hr
  have hw : wideB (k : Int) = true := by unfold wideB; exact decide_eq_true (by omega)
  unfold numC numV rawC rawV
  rw [hw]
  simp only [cond_true, Cu.left, h4, h5, h6, Int.toNat_natCast]
  exact ⟨trivial, trivial⟩
theorem take1 {B : List Int} {a : Nat} (h : a < B.length) : (B.drop a).take 1 = [B.getD a 0] := by
  rw [List.drop_eq_getElem_cons h, List.getD_eq_getElem?_getD, List.getElem?_eq_getElem h]; rfl
theorem take2 {B : List Int} {a : Nat} (h : a + 1 < B.length) : (B.drop a).take 2 = [B.getD a 0, B.getD (a + 1) 0] := by
  rw [List.drop_eq_getElem_cons (by omega), List.drop_eq_getElem_cons (by omega), List.getD_eq_getElem?_getD, List.getElem?_eq_getElem (by omega), List.getD_eq_getElem?_getD, List.getElem?_eq_getElem h]; rfl
theorem num1_at {B : List Int} {a : Nat} (h : a < B.length) : numC B 1 ⟨a, 0⟩ = ⟨a + 1, 0⟩ ∧ numV B 1 ⟨a, 0⟩ = B.getD a 0 := by
  have := num_at (B := B) (a := a) (k := 1) (by omega) (by decide) (by decide)
  rw [take1 h] at this
  simpa [valI] using this
theorem num2_at {B : List Int} {a : Nat} (h : a + 1 < B.length) : numC B 2 ⟨a, 0⟩ = ⟨a + 2, 0⟩ ∧ numV B 2 ⟨a, 0⟩ = B.getD a 0 + 256 * B.getD (a + 1) 0 := by
  have := num_at (B := B) (a := a) (k := 2) (by omega) (by decide) (by decide)
  rw [take2 h] at this
  simpa [valI] using this
/-- What is ahead of the sum; how many bytes the head says there are; the body. -/
def fA (L : List Int) : List Int := L.take (L.length - 4)
def fN (L : List Int) : Int := (fA L).getD 3 0 + 256 * (fA L).getD 4 0
def fB (L : List Int) : List Int := (fA L).drop 5
def fdE (L : List Int) : Int := if L.length < 9 then 6 else if mkdB L = false then 5 else if fN L = ((L.length - 9 : Nat) : Int) ∧ chkF ((fA L).getD 0 0) ((fA L).getD 1 0) ((fA L).getD 2 0) (L.length - 9) = 0 then 0 else 4
theorem fA_len (L : List Int) : (fA L).length = L.length - 4 := by unfold fA; rw [List.length_take]; omega
theorem fB_len (L : List Int) : (fB L).length = L.length - 9 := by unfold fB; rw [List.length_drop, fA_len]; omega
abbrev Fr0 : AV := .agg [I 0, I 0, I 0, .val (.slice none 0 0)]
theorem rraw_all {L : List Int} {a : Nat} (ha : a ≤ L.length) (hL : L.length ≤ 1099511627776) : ACall Try.prog 48 [.ptr 0 0, I ((L.length - a : Nat) : Int)] [RdO 1 a L.length 0, .cells true (bA L)] (Det (.sl 2 0 (L.length - a) 1 none) [RdO 1 L.length L.length 0, .cells true (bA L), .cells false (bA (L.drop a))]) := by
  have h := rraw_any a L ha hL 0 ((L.length - a : Nat) : Int)
  have hr : rawOk 0 ((L.length - a : Nat) : Int) ((L.length - a : Nat) : Int) = true := by
    unfold rawOk
    simp
  obtain ⟨_, _, _, h4, h5, h6⟩ := rawOk_yes hr
  rw [h4, h5, h6, Int.toNat_natCast] at h
  rw [show (L.drop a).take (L.length - a) = L.drop a from List.take_of_length_le (by rw [List.length_drop]; omega), List.length_drop, show a + (L.length - a) = L.length by omega] at h
  exact h
/- (*quidnunc/frame.Codec).Decode -/
noncomputable def c14_1 : ACode := .region false [⟨some 4, .alloc [(.int .i64 0), (.int .i64 0), (.int .i64 0), (.slice none 0 0)], [], none⟩,
  ⟨some 5, .move, [.c (.val (.int .i64 0))], none⟩] [] [] [0, 1, 4] true [] []
noncomputable def c14_5 : ACode := .region false [⟨some 12, .move, [.t 1], none⟩,
  ⟨some 13, .len, [.t 12], none⟩,
  ⟨some 14, .bin .lss, [.t 13, .c (.val (.int .i64 9))], none⟩,
  ⟨some 11, .move, [.t 14], none⟩] [] [] [0, 1, 4, 11] false [] []
noncomputable def c14_8 : ACode := .region false [⟨some 15, .build [(.int .i64 0), (.int .i64 0), (.int .i64 0), (.slice none 0 0)] [], [], none⟩,
  ⟨none, .store 4, [.t 4, .t 15], none⟩,
  ⟨some 5, .move, [.c (.val (.int .i64 6))], none⟩] [] [] [4, 5] true [] []
noncomputable def c14_7 : ACode := .seq c14_8 .ret
noncomputable def c14_10 : ACode := .region false [⟨some 17, .move, [.t 0], none⟩,
  ⟨some 18, .nilChk, [.t 17], none⟩,
  ⟨some 19, .addr 0, [.t 18], none⟩,
  ⟨some 20, .move, [.t 1], none⟩,
  ⟨some 21, .call 45, [.t 19, .t 20], none⟩,
  ⟨some 22, .un .not, [.t 21], none⟩,
  ⟨some 16, .move, [.t 22], none⟩] [] [] [1, 4, 16] true [] []
noncomputable def c14_13 : ACode := .region false [⟨some 23, .build [(.int .i64 0), (.int .i64 0), (.int .i64 0), (.slice none 0 0)] [], [], none⟩,
  ⟨none, .store 4, [.t 4, .t 23], none⟩,
  ⟨some 5, .move, [.c (.val (.int .i64 5))], none⟩] [] [] [4, 5] true [] []
noncomputable def c14_12 : ACode := .seq c14_13 .ret
noncomputable def c14_11 : ACode := .cond (.t 16) c14_12 .skip
noncomputable def c14_9 : ACode := .seq c14_10 c14_11
noncomputable def c14_6 : ACode := .cond (.t 11) c14_7 c14_9
noncomputable def c14_4 : ACode := .seq c14_5 c14_6
noncomputable def c14_3 : ACode := .block 0 c14_4
noncomputable def c14_15 : ACode := .region false [⟨some 24, .move, [.t 1], none⟩,
  ⟨some 25, .move, [.t 1], none⟩,
  ⟨some 26, .len, [.t 25], none⟩,
  ⟨some 27, .bin .sub, [.t 26, .c (.val (.int .i64 4))], none⟩,
  ⟨some 28, .slS 1 false true false, [.t 24, .t 27], none⟩,
  ⟨some 29, .call 46, [.t 28], none⟩,
  ⟨some 6, .move, [.t 29], none⟩] [] [] [4, 6] true [] []
noncomputable def c14_17 : ACode := .region false [⟨some 7, .alloc [(.int .i64 0), (.int .i64 0), (.int .i64 0), (.slice none 0 0)], [], none⟩] [] [] [4, 6, 7] true [] []
noncomputable def c14_20 : ACode := .region false [⟨some 30, .addr 0, [.t 7], none⟩,
  ⟨some 31, .addr 1, [.t 7], none⟩,
  ⟨some 32, .addr 2, [.t 7], none⟩,
  ⟨some 33, .build [(.pointer none), (.pointer none), (.pointer none)] [(0, 1), (1, 1), (2, 1)], [.t 30, .t 31, .t 32], none⟩,
  ⟨some 34, .move, [.c (.val (.int .i64 0))], none⟩] [] [] [4, 6, 7, 33, 34] false [] []
noncomputable def c14_24 : ACode := .region false [⟨some 35, .bin .lss, [.t 34, .c (.val (.int .i64 3))], none⟩] [] [] [4, 6, 7, 33, 34, 35] false [] []
noncomputable def c14_26 : ACode := .cond (.t 35) .skip (.exit 1)
noncomputable def c14_30 : ACode := .region false [⟨some 36, .ixV false 3 1, [.t 33, .t 34], none⟩,
  ⟨some 9, .move, [.t 36], none⟩] [] [] [4, 6, 7, 9, 33, 34] false [] []
noncomputable def c14_31 : ACode := .region false [⟨some 37, .move, [.t 9], none⟩,
  ⟨some 38, .move, [.t 6], none⟩,
  ⟨some 39, .call 47, [.t 38, .c (.val (.int .i64 1))], none⟩,
  ⟨some 40, .conv .i64, [.t 39], none⟩,
  ⟨some 41, .nilChk, [.t 37], none⟩,
  ⟨none, .store 1, [.t 41, .t 40], none⟩] [] [] [4, 6, 7, 33, 34] true [] []
noncomputable def c14_29 : ACode := .seq c14_30 c14_31
noncomputable def c14_28 : ACode := .block 2 c14_29
noncomputable def c14_32 : ACode := .region false [⟨some 42, .bin .add, [.t 34, .c (.val (.int .i64 1))], none⟩,
  ⟨some 34, .move, [.t 42], none⟩] [] [] [4, 6, 7, 33, 34] false [] []
noncomputable def c14_27 : ACode := .seq c14_28 c14_32
noncomputable def c14_25 : ACode := .seq c14_26 c14_27
noncomputable def c14_23 : ACode := .seq c14_24 c14_25
noncomputable def c14_22 : ACode := .loop c14_23
noncomputable def c14_21 : ACode := .block 1 c14_22
noncomputable def c14_19 : ACode := .seq c14_20 c14_21
noncomputable def c14_34 : ACode := .region false [⟨some 43, .move, [.t 6], none⟩,
  ⟨some 44, .call 47, [.t 43, .c (.val (.int .i64 2))], none⟩,
  ⟨some 45, .conv .i64, [.t 44], none⟩,
  ⟨some 10, .move, [.t 45], none⟩] [] [] [4, 6, 7, 10] true [] []
noncomputable def c14_36 : ACode := .region false [⟨some 46, .move, [.t 6], none⟩,
  ⟨some 47, .move, [.t 6], none⟩,
  ⟨some 48, .call 49, [.t 47], none⟩,
  ⟨some 49, .call 48, [.t 46, .t 48], none⟩,
  ⟨some 50, .addr 3, [.t 7], none⟩,
  ⟨none, .store 1, [.t 50, .t 49], none⟩] [] [] [4, 7, 10] true [] []
noncomputable def c14_39 : ACode := .region false [⟨some 51, .move, [.t 10], none⟩,
  ⟨some 52, .addr 3, [.t 7], none⟩,
  ⟨some 53, .load false 1, [.t 52], none⟩,
  ⟨some 54, .len, [.t 53], none⟩,
  ⟨some 55, .bin .neq, [.t 51, .t 54], none⟩,
  ⟨some 56, .move, [.t 55], none⟩,
  ⟨some 57, .load true 4, [.t 7], some (some 56, false)⟩,
  ⟨some 58, .call 21, [.t 57], some (some 56, false)⟩,
  ⟨some 59, .bin .neq, [.t 58, .c (.val (.int .i64 0))], some (some 56, false)⟩,
  ⟨some 60, .pick, [.t 56, .c (.val (.bool true)), .t 59], none⟩] [] [] [4, 7, 60] true [] []
noncomputable def c14_42 : ACode := .region false [⟨some 61, .build [(.int .i64 0), (.int .i64 0), (.int .i64 0), (.slice none 0 0)] [], [], none⟩,
  ⟨none, .store 4, [.t 4, .t 61], none⟩,
  ⟨some 5, .move, [.c (.val (.int .i64 4))], none⟩] [] [] [4, 5] true [] []
noncomputable def c14_41 : ACode := .seq c14_42 .ret
noncomputable def c14_40 : ACode := .cond (.t 60) c14_41 .skip
noncomputable def c14_38 : ACode := .seq c14_39 c14_40
noncomputable def c14_44 : ACode := .region false [⟨some 62, .load true 4, [.t 7], none⟩,
  ⟨none, .store 4, [.t 4, .t 62], none⟩,
  ⟨some 5, .move, [.c (.val (.int .i64 0))], none⟩] [] [] [4, 5] true [] []
noncomputable def c14_43 : ACode := .seq c14_44 .ret
noncomputable def c14_37 : ACode := .seq c14_38 c14_43
noncomputable def c14_35 : ACode := .seq c14_36 c14_37
noncomputable def c14_33 : ACode := .seq c14_34 c14_35
noncomputable def c14_18 : ACode := .seq c14_19 c14_33
noncomputable def c14_16 : ACode := .seq c14_17 c14_18
noncomputable def c14_14 : ACode := .seq c14_15 c14_16
noncomputable def c14_2 : ACode := .seq c14_3 c14_14
noncomputable def c14_0 : ACode := .seq c14_1 c14_2
noncomputable def code14 : Code := (Try.f14.body).getD .skip
theorem c14_ok : compC Try.prog 63 code14 = some (strip c14_0) := by kernel_rfl
theorem res14_ok : Try.f14.results.toList.mapM (resC Try.prog) = some [(4, some (true, 4)), (5, none)] := by kernel_rfl
theorem fdec_any (d : Bool) {P : List AV} {o : Nat} {L : List Int} (sg : Seg P o L) (hb : ∀ x ∈ L, 0 ≤ x ∧ x ≤ 255) :
    (fdE L ≠ 0 → ACall Try.prog 14 [.ptr 0 0, .sl 1 o L.length 1 none] [.cells false (tb d), .cells true P] (Det (.tup [Fr0, I (fdE L)]) [.cells false (tb (d || decide (9 ≤ L.length))), .cells true P])) ∧
    (fdE L = 0 → ACall Try.prog 14 [.ptr 0 0, .sl 1 o L.length 1 none] [.cells false (tb d), .cells true P] (Det (.tup [FrA 2 0 (L.length - 9) ((fA L).getD 0 0) ((fA L).getD 1 0) ((fA L).getD 2 0), I 0]) [.cells false (tb true), .cells true P, .cells false (bA (fB L))])) := by
  have hle := sg.le
  have hsm := sg.small
  by_cases h9 : L.length < 9
  · have e : fdE L = 6 := by unfold fdE; rw [if_pos h9]
    have e2 : (d || decide (9 ≤ L.length)) = d := by simp; omega
    have g1 : ((L.length : Int) < 9) = True := eq_true (by omega)
    refine ⟨fun _ => ?_, fun h => by rw [e] at h; cases h⟩
    rw [e, e2]
    refine ACall.startA c14_ok Try.func14 rfl Try.ntmps14 (by kernel_rfl) res14_ok rfl rfl rfl ?_; simp (maxSteps := 9999999) (disch := omega) only [go_sem]
    (repeat' (first | refine AWpA.seq ?_ | refine AWpA.block ?_ | (with_reducible refine CondP.tt ?_) | (with_reducible refine CondP.ff ?_) | refine AWpA.condv (by simp (maxSteps := 9999999) (disch := omega) only [go_sem, sg.ren, tb_ren, g1]; rfl) ?_ | ((first | (apply AWpA.region; (focus (simp (maxSteps := 9999999) (disch := omega) only [go_sem, sg.ren, tb_ren, g1]; rfl))) | (apply AWpA.draw [] follows; (focus (simp (maxSteps := 9999999) (disch := omega) only [go_sem, sg.ren, tb_ren, g1]; rfl)); (focus (simp (maxSteps := 9999999) (disch := omega) only [go_sem, sg.ren, tb_ren, g1]; first | done | trivial)); (focus (simp (maxSteps := 9999999) (disch := omega) only [go_sem, sg.ren, tb_ren, g1]; rfl))) | (apply TailK.go; (focus (simp (maxSteps := 9999999) (disch := omega) only [go_sem, sg.ren, tb_ren, g1]; rfl))) | refine AWpA.skip ?_ | refine AWpA.exit ?_ | refine AWpA.ret ?_ | (with_reducible refine ARoundsA.succ ?_) | ((first | refine Runs.kt (by assumption) (fun h9 => ?_) | refine Runs.kf (by assumption) (fun h9 => ?_) | refine Runs.nt (by assumption) (fun h9 => ?_) | refine Runs.nf (by assumption) (fun h9 => ?_) | refine CondP.ht (by assumption) (fun h9 => ?_) | refine CondP.hf (by assumption) (fun h9 => ?_) | refine CondP.nt (by assumption) (fun h9 => ?_) | refine CondP.nf (by assumption) (fun h9 => ?_)); (try simp only [h9]); clear h9)); (try simp (maxSteps := 9999999) (disch := omega) only [go_sem, sg.ren, tb_ren, g1]); (try (refine And.intro ?_ ?_; (focus (first | omega | (simp only [go_sem]; done) | (simp; done) | (simp; omega) | assumption))))) | ((first | refine CondP.split (fun hif => ?_) (fun hif => ?_) | refine Runs.part (fun hif => ?_) (fun hif => ?_)) <;> ((try simp only [hif]); (try simp only [decide_eq_true_eq, decide_eq_false_iff_not, Bool.not_eq_true, Bool.not_eq_false, Bool.not_eq_true', Bool.not_eq_false', beq_iff_eq, bne_iff_ne, bne_eq_false_iff_eq, beq_eq_false_iff_ne, ne_eq, Bool.and_eq_true, Bool.or_eq_true, Bool.or_eq_false_iff] at hif); (try (have h9 : _ = true := hif; simp only [h9])); (try (have h9 : _ = false := hif; simp only [h9])); (try simp (maxSteps := 9999999) (disch := omega) only [go_sem, sg.ren, tb_ren, g1]); (try (refine And.intro ?_ ?_; (focus (first | omega | (simp only [go_sem]; done) | (simp; done) | (simp; omega) | assumption)))); (try (exfalso; omega; done))))))
    (apply Ret.det [0, 1]; (focus (first | exact .inl rfl | exact .inr rfl)); (focus (simp (maxSteps := 9999999) (disch := omega) only [go_sem, sg.ren, tb_ren]; rfl)); (simp (maxSteps := 9999999) (disch := omega) only [go_sem, sg.ren, tb_ren]; (try (repeat' (first | done | trivial | rfl | exact leAs_rfl _ | decide | (refine And.intro ?_ ?_) | (simp; done) | omega | (simp; decide))))))
  have g1 : ((L.length : Int) < 9) = False := eq_false (by omega)
  have e2 : (d || decide (9 ≤ L.length)) = true := by simp; omega
  have hh := holds_any d sg hb
  rw [show (d || decide (4 ≤ L.length)) = true by simp; omega] at hh
  rw [e2]
  cases hm : mkdB L
  · have e : fdE L = 5 := by unfold fdE; rw [if_neg h9, if_pos hm]
    rw [hm] at hh
    refine ⟨fun _ => ?_, fun h => by rw [e] at h; cases h⟩
    rw [e]
    refine ACall.startA c14_ok Try.func14 rfl Try.ntmps14 (by kernel_rfl) res14_ok rfl rfl rfl ?_; simp (maxSteps := 9999999) (disch := omega) only [go_sem]
    (repeat' (first | refine AWpA.seq ?_ | refine AWpA.block ?_ | (with_reducible refine CondP.tt ?_) | (with_reducible refine CondP.ff ?_) | refine AWpA.condv (by simp (maxSteps := 9999999) (disch := omega) only [go_sem, sg.ren, tb_ren, g1]; rfl) ?_ | ((first | (apply AWpA.region; (focus (simp (maxSteps := 9999999) (disch := omega) only [go_sem, sg.ren, tb_ren, g1]; rfl))) | (apply AWpA.draw [] follows; (focus (simp (maxSteps := 9999999) (disch := omega) only [go_sem, sg.ren, tb_ren, g1]; rfl)); (focus (simp (maxSteps := 9999999) (disch := omega) only [go_sem, sg.ren, tb_ren, g1]; first | done | trivial)); (focus (simp (maxSteps := 9999999) (disch := omega) only [go_sem, sg.ren, tb_ren, g1]; rfl))) | (apply TailK.go; (focus (simp (maxSteps := 9999999) (disch := omega) only [go_sem, sg.ren, tb_ren, g1]; rfl))) | refine AWpA.skip ?_ | refine AWpA.exit ?_ | refine AWpA.ret ?_ | (with_reducible refine ARoundsA.succ ?_) | ((first | refine Runs.kt (by assumption) (fun h9 => ?_) | refine Runs.kf (by assumption) (fun h9 => ?_) | refine Runs.nt (by assumption) (fun h9 => ?_) | refine Runs.nf (by assumption) (fun h9 => ?_) | refine CondP.ht (by assumption) (fun h9 => ?_) | refine CondP.hf (by assumption) (fun h9 => ?_) | refine CondP.nt (by assumption) (fun h9 => ?_) | refine CondP.nf (by assumption) (fun h9 => ?_)); (try simp only [h9]); clear h9) | ((first | (with_reducible apply CallG.plain1 [0, 1] (hh)) | (with_reducible apply CallG.draw1 [0, 1] (hh))); (focus ((try refine And.intro (leAs_of_eq rfl) ?_); (try refine And.intro (leOL_of_eq rfl) ?_); simp (maxSteps := 9999999) (disch := omega) only [go_sem, sg.ren, tb_ren, g1]; first | done | (repeat' (first | rfl | (refine And.intro ?_ ?_))))); (focus (simp (maxSteps := 9999999) (disch := omega) only [go_sem, sg.ren, tb_ren, g1]; rfl)))); (try simp (maxSteps := 9999999) (disch := omega) only [go_sem, sg.ren, tb_ren, g1]); (try (refine And.intro ?_ ?_; (focus (first | omega | (simp only [go_sem]; done) | (simp; done) | (simp; omega) | assumption))))) | ((first | refine CondP.split (fun hif => ?_) (fun hif => ?_) | refine Runs.part (fun hif => ?_) (fun hif => ?_)) <;> ((try simp only [hif]); (try simp only [decide_eq_true_eq, decide_eq_false_iff_not, Bool.not_eq_true, Bool.not_eq_false, Bool.not_eq_true', Bool.not_eq_false', beq_iff_eq, bne_iff_ne, bne_eq_false_iff_eq, beq_eq_false_iff_ne, ne_eq, Bool.and_eq_true, Bool.or_eq_true, Bool.or_eq_false_iff] at hif); (try (have h9 : _ = true := hif; simp only [h9])); (try (have h9 : _ = false := hif; simp only [h9])); (try simp (maxSteps := 9999999) (disch := omega) only [go_sem, sg.ren, tb_ren, g1]); (try (refine And.intro ?_ ?_; (focus (first | omega | (simp only [go_sem]; done) | (simp; done) | (simp; omega) | assumption)))); (try (exfalso; omega; done))))))
    (apply Ret.det [0, 1]; (focus (first | exact .inl rfl | exact .inr rfl)); (focus (simp (maxSteps := 9999999) (disch := omega) only [go_sem, sg.ren, tb_ren]; rfl)); (simp (maxSteps := 9999999) (disch := omega) only [go_sem, sg.ren, tb_ren]; (try (repeat' (first | done | trivial | rfl | exact leAs_rfl _ | decide | (refine And.intro ?_ ?_) | (simp; done) | omega | (simp; decide))))))
  rw [hm] at hh
  have hal := fA_len L
  have hbl := fB_len L
  have sA := sg.takeS (L.length - 4) (by omega)
  have r1 := read_any sA
  rw [show L.take (L.length - 4) = fA L from rfl, hal] at r1
  have hbA : bytesB (fA L) := fun x hx => hb x (List.mem_of_mem_take hx)
  have c1 := rnum_any (L := fA L) (by omega) hbA ⟨0, 0⟩ (by simp) 1
  have c2 := rnum_any (L := fA L) (by omega) hbA ⟨1, 0⟩ (by simp only; omega) 1
  have c3 := rnum_any (L := fA L) (by omega) hbA ⟨2, 0⟩ (by simp only; omega) 1
  have c4 := rnum_any (L := fA L) (by omega) hbA ⟨3, 0⟩ (by simp only; omega) 2
  have q1 := num1_at (B := fA L) (a := 0) (by omega)
  have q2 := num1_at (B := fA L) (a := 1) (by omega)
  have q3 := num1_at (B := fA L) (a := 2) (by omega)
  have q4 := num2_at (B := fA L) (a := 3) (by omega)
  rw [q1.1, q1.2] at c1
  rw [q2.1, q2.2] at c2
  rw [q3.1, q3.2] at c3
  rw [q4.1, q4.2, show (fA L).getD 3 0 + 256 * (fA L).getD (3 + 1) 0 = fN L from rfl] at c4
  have c5 := left_any 5 (fA L) 0
  have c6 := rraw_all (L := fA L) (a := 5) (by omega) (by omega)
  rw [show (fA L).drop 5 = fB L from rfl] at c6
  simp only [hal, Nat.reduceAdd, Nat.sub_zero, Nat.sub_sub] at c1 c2 c3 c4 c5 c6
  have b0 := gd_ok hbA 0
  have b1 := gd_ok hbA 1
  have b2 := gd_ok hbA 2
  have b3 := gd_ok hbA 3
  have b4 := gd_ok hbA 4
  have hN : 0 ≤ fN L ∧ fN L ≤ 65535 := by unfold fN; omega
  have sB := Seg.all (fB L) (by omega)
  have c7 := fcheck_any sB ((fA L).getD 0 0) ((fA L).getD 1 0) ((fA L).getD 2 0)
  rw [hbl] at c7
  have ef : fdE L = if fN L = ((L.length - 9 : Nat) : Int) ∧ chkF ((fA L).getD 0 0) ((fA L).getD 1 0) ((fA L).getD 2 0) (L.length - 9) = 0 then 0 else 4 := by
    unfold fdE; rw [if_neg h9, if_neg (by rw [hm]; simp)]
  rw [ef]
  have hL4 : (L.length : Int) - 4 = ((L.length - 4 : Nat) : Int) := by omega
  clear q1 q2 q3 q4 ef hm sA hbA e2
  generalize (fA L).getD 0 0 = f at *
  generalize (fA L).getD 1 0 = t at *
  generalize (fA L).getD 2 0 = k at *
  generalize (fA L).getD 3 0 = y3 at *
  generalize (fA L).getD 4 0 = y4 at *
  generalize fN L = n at *
  generalize fB L = B at *
  generalize fA L = A at *
  by_cases hn : n = ((L.length - 9 : Nat) : Int)
  · have g2 : (n != ((L.length - 9 : Nat) : Int)) = false := by rw [hn]; simp
    by_cases hk : chkF f t k (L.length - 9) = 0
    · rw [if_pos ⟨hn, hk⟩]
      rw [hk] at c7
      refine ⟨fun h => absurd rfl h, fun _ => ?_⟩
      refine ACall.startA c14_ok Try.func14 rfl Try.ntmps14 (by kernel_rfl) res14_ok rfl rfl rfl ?_; simp (maxSteps := 9999999) (disch := omega) only [go_sem]
      (repeat' (first | refine AWpA.seq ?_ | refine AWpA.block ?_ | (with_reducible refine CondP.tt ?_) | (with_reducible refine CondP.ff ?_) | refine AWpA.condv (by simp (maxSteps := 9999999) (disch := omega) only [go_sem, sg.ren, tb_ren, g1, hL4]; rfl) ?_ | ((first | (apply AWpA.region; (focus (simp (maxSteps := 9999999) (disch := omega) only [go_sem, sg.ren, tb_ren, g1, hL4]; rfl))) | (apply AWpA.draw [] follows; (focus (simp (maxSteps := 9999999) (disch := omega) only [go_sem, sg.ren, tb_ren, g1, hL4]; rfl)); (focus (simp (maxSteps := 9999999) (disch := omega) only [go_sem, sg.ren, tb_ren, g1, hL4]; first | done | trivial)); (focus (simp (maxSteps := 9999999) (disch := omega) only [go_sem, sg.ren, tb_ren, g1, hL4]; rfl))) | (apply TailK.go; (focus (simp (maxSteps := 9999999) (disch := omega) only [go_sem, sg.ren, tb_ren, g1, hL4]; rfl))) | refine AWpA.skip ?_ | refine AWpA.exit ?_ | refine AWpA.ret ?_ | (with_reducible refine ARoundsA.succ ?_) | ((first | refine Runs.kt (by assumption) (fun h9 => ?_) | refine Runs.kf (by assumption) (fun h9 => ?_) | refine Runs.nt (by assumption) (fun h9 => ?_) | refine Runs.nf (by assumption) (fun h9 => ?_) | refine CondP.ht (by assumption) (fun h9 => ?_) | refine CondP.hf (by assumption) (fun h9 => ?_) | refine CondP.nt (by assumption) (fun h9 => ?_) | refine CondP.nf (by assumption) (fun h9 => ?_)); (try simp only [h9]); clear h9) | ((first | (with_reducible apply CallG.plain1 [0, 1] (hh)) | (with_reducible apply CallG.draw1 [0, 1] (hh))); (focus ((try refine And.intro (leAs_of_eq rfl) ?_); (try refine And.intro (leOL_of_eq rfl) ?_); simp (maxSteps := 9999999) (disch := omega) only [go_sem, sg.ren, tb_ren, g1, hL4]; first | done | (repeat' (first | rfl | (refine And.intro ?_ ?_))))); (focus (simp (maxSteps := 9999999) (disch := omega) only [go_sem, sg.ren, tb_ren, g1, hL4]; rfl))) | ((first | (with_reducible apply CallG.plain1 [1] (r1)) | (with_reducible apply CallG.draw1 [1] (r1))); (focus ((try refine And.intro (leAs_of_eq rfl) ?_); (try refine And.intro (leOL_of_eq rfl) ?_); simp (maxSteps := 9999999) (disch := omega) only [go_sem, sg.ren, tb_ren, g1, hL4]; first | done | (repeat' (first | rfl | (refine And.intro ?_ ?_))))); (focus (simp (maxSteps := 9999999) (disch := omega) only [go_sem, sg.ren, tb_ren, g1, hL4]; rfl)))); (try simp (maxSteps := 9999999) (disch := omega) only [go_sem, sg.ren, tb_ren, g1, hL4]); (try (refine And.intro ?_ ?_; (focus (first | omega | (simp only [go_sem]; done) | (simp; done) | (simp; omega) | assumption))))) | ((first | refine CondP.split (fun hif => ?_) (fun hif => ?_) | refine Runs.part (fun hif => ?_) (fun hif => ?_)) <;> ((try simp only [hif]); (try simp only [decide_eq_true_eq, decide_eq_false_iff_not, Bool.not_eq_true, Bool.not_eq_false, Bool.not_eq_true', Bool.not_eq_false', beq_iff_eq, bne_iff_ne, bne_eq_false_iff_eq, beq_eq_false_iff_ne, ne_eq, Bool.and_eq_true, Bool.or_eq_true, Bool.or_eq_false_iff] at hif); (try (have h9 : _ = true := hif; simp only [h9])); (try (have h9 : _ = false := hif; simp only [h9])); (try simp (maxSteps := 9999999) (disch := omega) only [go_sem, sg.ren, tb_ren, g1, hL4]); (try (refine And.intro ?_ ?_; (focus (first | omega | (simp only [go_sem]; done) | (simp; done) | (simp; omega) | assumption)))); (try (exfalso; omega; done))))))
      refine AWpA.rounds 4 ?_
      (try simp (maxSteps := 9999999) (disch := omega) only [go_sem])
      (repeat' (first | refine AWpA.seq ?_ | refine AWpA.block ?_ | (with_reducible refine CondP.tt ?_) | (with_reducible refine CondP.ff ?_) | refine AWpA.condv (by simp (maxSteps := 9999999) (disch := omega) only [go_sem, sg.ren, tb_ren, g2]; rfl) ?_ | ((first | (apply AWpA.region; (focus (simp (maxSteps := 9999999) (disch := omega) only [go_sem, sg.ren, tb_ren, g2]; rfl))) | (apply AWpA.draw [] follows; (focus (simp (maxSteps := 9999999) (disch := omega) only [go_sem, sg.ren, tb_ren, g2]; rfl)); (focus (simp (maxSteps := 9999999) (disch := omega) only [go_sem, sg.ren, tb_ren, g2]; first | done | trivial)); (focus (simp (maxSteps := 9999999) (disch := omega) only [go_sem, sg.ren, tb_ren, g2]; rfl))) | (apply TailK.go; (focus (simp (maxSteps := 9999999) (disch := omega) only [go_sem, sg.ren, tb_ren, g2]; rfl))) | refine AWpA.skip ?_ | refine AWpA.exit ?_ | refine AWpA.ret ?_ | (with_reducible refine ARoundsA.succ ?_) | ((first | refine Runs.kt (by assumption) (fun h9 => ?_) | refine Runs.kf (by assumption) (fun h9 => ?_) | refine Runs.nt (by assumption) (fun h9 => ?_) | refine Runs.nf (by assumption) (fun h9 => ?_) | refine CondP.ht (by assumption) (fun h9 => ?_) | refine CondP.hf (by assumption) (fun h9 => ?_) | refine CondP.nt (by assumption) (fun h9 => ?_) | refine CondP.nf (by assumption) (fun h9 => ?_)); (try simp only [h9]); clear h9) | ((first | (with_reducible apply CallG.plain1 [290, 291] (c1)) | (with_reducible apply CallG.draw1 [290, 291] (c1))); (focus ((try refine And.intro (leAs_of_eq rfl) ?_); (try refine And.intro (leOL_of_eq rfl) ?_); simp (maxSteps := 9999999) (disch := omega) only [go_sem, sg.ren, tb_ren, g2]; first | done | (repeat' (first | rfl | (refine And.intro ?_ ?_))))); (focus (simp (maxSteps := 9999999) (disch := omega) only [go_sem, sg.ren, tb_ren, g2]; rfl))) | ((first | (with_reducible apply CallG.plain1 [290, 291] (c2)) | (with_reducible apply CallG.draw1 [290, 291] (c2))); (focus ((try refine And.intro (leAs_of_eq rfl) ?_); (try refine And.intro (leOL_of_eq rfl) ?_); simp (maxSteps := 9999999) (disch := omega) only [go_sem, sg.ren, tb_ren, g2]; first | done | (repeat' (first | rfl | (refine And.intro ?_ ?_))))); (focus (simp (maxSteps := 9999999) (disch := omega) only [go_sem, sg.ren, tb_ren, g2]; rfl))) | ((first | (with_reducible apply CallG.plain1 [290, 291] (c3)) | (with_reducible apply CallG.draw1 [290, 291] (c3))); (focus ((try refine And.intro (leAs_of_eq rfl) ?_); (try refine And.intro (leOL_of_eq rfl) ?_); simp (maxSteps := 9999999) (disch := omega) only [go_sem, sg.ren, tb_ren, g2]; first | done | (repeat' (first | rfl | (refine And.intro ?_ ?_))))); (focus (simp (maxSteps := 9999999) (disch := omega) only [go_sem, sg.ren, tb_ren, g2]; rfl))) | ((first | (with_reducible apply CallG.plain1 [290, 291] (c4)) | (with_reducible apply CallG.draw1 [290, 291] (c4))); (focus ((try refine And.intro (leAs_of_eq rfl) ?_); (try refine And.intro (leOL_of_eq rfl) ?_); simp (maxSteps := 9999999) (disch := omega) only [go_sem, sg.ren, tb_ren, g2]; first | done | (repeat' (first | rfl | (refine And.intro ?_ ?_))))); (focus (simp (maxSteps := 9999999) (disch := omega) only [go_sem, sg.ren, tb_ren, g2]; rfl))) | ((first | (with_reducible apply CallG.plain1 [290, 291] (c5)) | (with_reducible apply CallG.draw1 [290, 291] (c5))); (focus ((try refine And.intro (leAs_of_eq rfl) ?_); (try refine And.intro (leOL_of_eq rfl) ?_); simp (maxSteps := 9999999) (disch := omega) only [go_sem, sg.ren, tb_ren, g2]; first | done | (repeat' (first | rfl | (refine And.intro ?_ ?_))))); (focus (simp (maxSteps := 9999999) (disch := omega) only [go_sem, sg.ren, tb_ren, g2]; rfl))) | ((first | (with_reducible apply CallG.plain1 [290, 291] (c6)) | (with_reducible apply CallG.draw1 [290, 291] (c6))); (focus ((try refine And.intro (leAs_of_eq rfl) ?_); (try refine And.intro (leOL_of_eq rfl) ?_); simp (maxSteps := 9999999) (disch := omega) only [go_sem, sg.ren, tb_ren, g2]; first | done | (repeat' (first | rfl | (refine And.intro ?_ ?_))))); (focus (simp (maxSteps := 9999999) (disch := omega) only [go_sem, sg.ren, tb_ren, g2]; rfl))) | ((first | (with_reducible apply CallG.plain1 [1074] (c7)) | (with_reducible apply CallG.draw1 [1074] (c7))); (focus ((try refine And.intro (leAs_of_eq rfl) ?_); (try refine And.intro (leOL_of_eq rfl) ?_); simp (maxSteps := 9999999) (disch := omega) only [go_sem, sg.ren, tb_ren, g2]; first | done | (repeat' (first | rfl | (refine And.intro ?_ ?_))))); (focus (simp (maxSteps := 9999999) (disch := omega) only [go_sem, sg.ren, tb_ren, g2]; rfl)))); (try simp (maxSteps := 9999999) (disch := omega) only [go_sem, sg.ren, tb_ren, g2]); (try (refine And.intro ?_ ?_; (focus (first | omega | (simp only [go_sem]; done) | (simp; done) | (simp; omega) | assumption))))) | ((first | refine CondP.split (fun hif => ?_) (fun hif => ?_) | refine Runs.part (fun hif => ?_) (fun hif => ?_)) <;> ((try simp only [hif]); (try simp only [decide_eq_true_eq, decide_eq_false_iff_not, Bool.not_eq_true, Bool.not_eq_false, Bool.not_eq_true', Bool.not_eq_false', beq_iff_eq, bne_iff_ne, bne_eq_false_iff_eq, beq_eq_false_iff_ne, ne_eq, Bool.and_eq_true, Bool.or_eq_true, Bool.or_eq_false_iff] at hif); (try (have h9 : _ = true := hif; simp only [h9])); (try (have h9 : _ = false := hif; simp only [h9])); (try simp (maxSteps := 9999999) (disch := omega) only [go_sem, sg.ren, tb_ren, g2]); (try (refine And.intro ?_ ?_; (focus (first | omega | (simp only [go_sem]; done) | (simp; done) | (simp; omega) | assumption)))); (try (exfalso; omega; done))))))
      (apply Ret.det [0, 1, 1074]; (focus (first | exact .inl rfl | exact .inr rfl)); (focus (simp (maxSteps := 9999999) (disch := omega) only [go_sem, sg.ren, tb_ren]; rfl)); (simp (maxSteps := 9999999) (disch := omega) only [go_sem, sg.ren, tb_ren]; (try (repeat' (first | done | trivial | rfl | exact leAs_rfl _ | decide | (refine And.intro ?_ ?_) | (simp; done) | omega | (simp; decide))))))
    · rw [if_neg (fun h => hk h.2)]
      have g3 : (chkF f t k (L.length - 9) != 0) = true := by rw [bne_iff_ne]; exact hk
      generalize chkF f t k (L.length - 9) = ck at *
      refine ⟨fun _ => ?_, fun h => absurd h (by decide)⟩
      refine ACall.startA c14_ok Try.func14 rfl Try.ntmps14 (by kernel_rfl) res14_ok rfl rfl rfl ?_; simp (maxSteps := 9999999) (disch := omega) only [go_sem]
      (repeat' (first | refine AWpA.seq ?_ | refine AWpA.block ?_ | (with_reducible refine CondP.tt ?_) | (with_reducible refine CondP.ff ?_) | refine AWpA.condv (by simp (maxSteps := 9999999) (disch := omega) only [go_sem, sg.ren, tb_ren, g1, hL4]; rfl) ?_ | ((first | (apply AWpA.region; (focus (simp (maxSteps := 9999999) (disch := omega) only [go_sem, sg.ren, tb_ren, g1, hL4]; rfl))) | (apply AWpA.draw [] follows; (focus (simp (maxSteps := 9999999) (disch := omega) only [go_sem, sg.ren, tb_ren, g1, hL4]; rfl)); (focus (simp (maxSteps := 9999999) (disch := omega) only [go_sem, sg.ren, tb_ren, g1, hL4]; first | done | trivial)); (focus (simp (maxSteps := 9999999) (disch := omega) only [go_sem, sg.ren, tb_ren, g1, hL4]; rfl))) | (apply TailK.go; (focus (simp (maxSteps := 9999999) (disch := omega) only [go_sem, sg.ren, tb_ren, g1, hL4]; rfl))) | refine AWpA.skip ?_ | refine AWpA.exit ?_ | refine AWpA.ret ?_ | (with_reducible refine ARoundsA.succ ?_) | ((first | refine Runs.kt (by assumption) (fun h9 => ?_) | refine Runs.kf (by assumption) (fun h9 => ?_) | refine Runs.nt (by assumption) (fun h9 => ?_) | refine Runs.nf (by assumption) (fun h9 => ?_) | refine CondP.ht (by assumption) (fun h9 => ?_) | refine CondP.hf (by assumption) (fun h9 => ?_) | refine CondP.nt (by assumption) (fun h9 => ?_) | refine CondP.nf (by assumption) (fun h9 => ?_)); (try simp only [h9]); clear h9) | ((first | (with_reducible apply CallG.plain1 [0, 1] (hh)) | (with_reducible apply CallG.draw1 [0, 1] (hh))); (focus ((try refine And.intro (leAs_of_eq rfl) ?_); (try refine And.intro (leOL_of_eq rfl) ?_); simp (maxSteps := 9999999) (disch := omega) only [go_sem, sg.ren, tb_ren, g1, hL4]; first | done | (repeat' (first | rfl | (refine And.intro ?_ ?_))))); (focus (simp (maxSteps := 9999999) (disch := omega) only [go_sem, sg.ren, tb_ren, g1, hL4]; rfl))) | ((first | (with_reducible apply CallG.plain1 [1] (r1)) | (with_reducible apply CallG.draw1 [1] (r1))); (focus ((try refine And.intro (leAs_of_eq rfl) ?_); (try refine And.intro (leOL_of_eq rfl) ?_); simp (maxSteps := 9999999) (disch := omega) only [go_sem, sg.ren, tb_ren, g1, hL4]; first | done | (repeat' (first | rfl | (refine And.intro ?_ ?_))))); (focus (simp (maxSteps := 9999999) (disch := omega) only [go_sem, sg.ren, tb_ren, g1, hL4]; rfl)))); (try simp (maxSteps := 9999999) (disch := omega) only [go_sem, sg.ren, tb_ren, g1, hL4]); (try (refine And.intro ?_ ?_; (focus (first | omega | (simp only [go_sem]; done) | (simp; done) | (simp; omega) | assumption))))) | ((first | refine CondP.split (fun hif => ?_) (fun hif => ?_) | refine Runs.part (fun hif => ?_) (fun hif => ?_)) <;> ((try simp only [hif]); (try simp only [decide_eq_true_eq, decide_eq_false_iff_not, Bool.not_eq_true, Bool.not_eq_false, Bool.not_eq_true', Bool.not_eq_false', beq_iff_eq, bne_iff_ne, bne_eq_false_iff_eq, beq_eq_false_iff_ne, ne_eq, Bool.and_eq_true, Bool.or_eq_true, Bool.or_eq_false_iff] at hif); (try (have h9 : _ = true := hif; simp only [h9])); (try (have h9 : _ = false := hif; simp only [h9])); (try simp (maxSteps := 9999999) (disch := omega) only [go_sem, sg.ren, tb_ren, g1, hL4]); (try (refine And.intro ?_ ?_; (focus (first | omega | (simp only [go_sem]; done) | (simp; done) | (simp; omega) | assumption)))); (try (exfalso; omega; done))))))
      refine AWpA.rounds 4 ?_
      (try simp (maxSteps := 9999999) (disch := omega) only [go_sem])
      (repeat' (first | refine AWpA.seq ?_ | refine AWpA.block ?_ | (with_reducible refine CondP.tt ?_) | (with_reducible refine CondP.ff ?_) | refine AWpA.condv (by simp (maxSteps := 9999999) (disch := omega) only [go_sem, sg.ren, tb_ren, g2, g3]; rfl) ?_ | ((first | (apply AWpA.region; (focus (simp (maxSteps := 9999999) (disch := omega) only [go_sem, sg.ren, tb_ren, g2, g3]; rfl))) | (apply AWpA.draw [] follows; (focus (simp (maxSteps := 9999999) (disch := omega) only [go_sem, sg.ren, tb_ren, g2, g3]; rfl)); (focus (simp (maxSteps := 9999999) (disch := omega) only [go_sem, sg.ren, tb_ren, g2, g3]; first | done | trivial)); (focus (simp (maxSteps := 9999999) (disch := omega) only [go_sem, sg.ren, tb_ren, g2, g3]; rfl))) | (apply TailK.go; (focus (simp (maxSteps := 9999999) (disch := omega) only [go_sem, sg.ren, tb_ren, g2, g3]; rfl))) | refine AWpA.skip ?_ | refine AWpA.exit ?_ | refine AWpA.ret ?_ | (with_reducible refine ARoundsA.succ ?_) | ((first | refine Runs.kt (by assumption) (fun h9 => ?_) | refine Runs.kf (by assumption) (fun h9 => ?_) | refine Runs.nt (by assumption) (fun h9 => ?_) | refine Runs.nf (by assumption) (fun h9 => ?_) | refine CondP.ht (by assumption) (fun h9 => ?_) | refine CondP.hf (by assumption) (fun h9 => ?_) | refine CondP.nt (by assumption) (fun h9 => ?_) | refine CondP.nf (by assumption) (fun h9 => ?_)); (try simp only [h9]); clear h9) | ((first | (with_reducible apply CallG.plain1 [290, 291] (c1)) | (with_reducible apply CallG.draw1 [290, 291] (c1))); (focus ((try refine And.intro (leAs_of_eq rfl) ?_); (try refine And.intro (leOL_of_eq rfl) ?_); simp (maxSteps := 9999999) (disch := omega) only [go_sem, sg.ren, tb_ren, g2, g3]; first | done | (repeat' (first | rfl | (refine And.intro ?_ ?_))))); (focus (simp (maxSteps := 9999999) (disch := omega) only [go_sem, sg.ren, tb_ren, g2, g3]; rfl))) | ((first | (with_reducible apply CallG.plain1 [290, 291] (c2)) | (with_reducible apply CallG.draw1 [290, 291] (c2))); (focus ((try refine And.intro (leAs_of_eq rfl) ?_); (try refine And.intro (leOL_of_eq rfl) ?_); simp (maxSteps := 9999999) (disch := omega) only [go_sem, sg.ren, tb_ren, g2, g3]; first | done | (repeat' (first | rfl | (refine And.intro ?_ ?_))))); (focus (simp (maxSteps := 9999999) (disch := omega) only [go_sem, sg.ren, tb_ren, g2, g3]; rfl))) | ((first | (with_reducible apply CallG.plain1 [290, 291] (c3)) | (with_reducible apply CallG.draw1 [290, 291] (c3))); (focus ((try refine And.intro (leAs_of_eq rfl) ?_); (try refine And.intro (leOL_of_eq rfl) ?_); simp (maxSteps := 9999999) (disch := omega) only [go_sem, sg.ren, tb_ren, g2, g3]; first | done | (repeat' (first | rfl | (refine And.intro ?_ ?_))))); (focus (simp (maxSteps := 9999999) (disch := omega) only [go_sem, sg.ren, tb_ren, g2, g3]; rfl))) | ((first | (with_reducible apply CallG.plain1 [290, 291] (c4)) | (with_reducible apply CallG.draw1 [290, 291] (c4))); (focus ((try refine And.intro (leAs_of_eq rfl) ?_); (try refine And.intro (leOL_of_eq rfl) ?_); simp (maxSteps := 9999999) (disch := omega) only [go_sem, sg.ren, tb_ren, g2, g3]; first | done | (repeat' (first | rfl | (refine And.intro ?_ ?_))))); (focus (simp (maxSteps := 9999999) (disch := omega) only [go_sem, sg.ren, tb_ren, g2, g3]; rfl))) | ((first | (with_reducible apply CallG.plain1 [290, 291] (c5)) | (with_reducible apply CallG.draw1 [290, 291] (c5))); (focus ((try refine And.intro (leAs_of_eq rfl) ?_); (try refine And.intro (leOL_of_eq rfl) ?_); simp (maxSteps := 9999999) (disch := omega) only [go_sem, sg.ren, tb_ren, g2, g3]; first | done | (repeat' (first | rfl | (refine And.intro ?_ ?_))))); (focus (simp (maxSteps := 9999999) (disch := omega) only [go_sem, sg.ren, tb_ren, g2, g3]; rfl))) | ((first | (with_reducible apply CallG.plain1 [290, 291] (c6)) | (with_reducible apply CallG.draw1 [290, 291] (c6))); (focus ((try refine And.intro (leAs_of_eq rfl) ?_); (try refine And.intro (leOL_of_eq rfl) ?_); simp (maxSteps := 9999999) (disch := omega) only [go_sem, sg.ren, tb_ren, g2, g3]; first | done | (repeat' (first | rfl | (refine And.intro ?_ ?_))))); (focus (simp (maxSteps := 9999999) (disch := omega) only [go_sem, sg.ren, tb_ren, g2, g3]; rfl))) | ((first | (with_reducible apply CallG.plain1 [1074] (c7)) | (with_reducible apply CallG.draw1 [1074] (c7))); (focus ((try refine And.intro (leAs_of_eq rfl) ?_); (try refine And.intro (leOL_of_eq rfl) ?_); simp (maxSteps := 9999999) (disch := omega) only [go_sem, sg.ren, tb_ren, g2, g3]; first | done | (repeat' (first | rfl | (refine And.intro ?_ ?_))))); (focus (simp (maxSteps := 9999999) (disch := omega) only [go_sem, sg.ren, tb_ren, g2, g3]; rfl)))); (try simp (maxSteps := 9999999) (disch := omega) only [go_sem, sg.ren, tb_ren, g2, g3]); (try (refine And.intro ?_ ?_; (focus (first | omega | (simp only [go_sem]; done) | (simp; done) | (simp; omega) | assumption))))) | ((first | refine CondP.split (fun hif => ?_) (fun hif => ?_) | refine Runs.part (fun hif => ?_) (fun hif => ?_)) <;> ((try simp only [hif]); (try simp only [decide_eq_true_eq, decide_eq_false_iff_not, Bool.not_eq_true, Bool.not_eq_false, Bool.not_eq_true', Bool.not_eq_false', beq_iff_eq, bne_iff_ne, bne_eq_false_iff_eq, beq_eq_false_iff_ne, ne_eq, Bool.and_eq_true, Bool.or_eq_true, Bool.or_eq_false_iff] at hif); (try (have h9 : _ = true := hif; simp only [h9])); (try (have h9 : _ = false := hif; simp only [h9])); (try simp (maxSteps := 9999999) (disch := omega) only [go_sem, sg.ren, tb_ren, g2, g3]); (try (refine And.intro ?_ ?_; (focus (first | omega | (simp only [go_sem]; done) | (simp; done) | (simp; omega) | assumption)))); (try (exfalso; omega; done))))))
      (apply Ret.det [0, 1]; (focus (first | exact .inl rfl | exact .inr rfl)); (focus (simp (maxSteps := 9999999) (disch := omega) only [go_sem, sg.ren, tb_ren]; rfl)); (simp (maxSteps := 9999999) (disch := omega) only [go_sem, sg.ren, tb_ren]; (try (repeat' (first | done | trivial | rfl | exact leAs_rfl _ | decide | (refine And.intro ?_ ?_) | (simp; done) | omega | (simp; decide))))))
  · rw [if_neg (fun h => hn h.1)]
    have g2 : (n != ((L.length - 9 : Nat) : Int)) = true := by rw [bne_iff_ne]; exact hn
    refine ⟨fun _ => ?_, fun h => absurd h (by decide)⟩
    refine ACall.startA c14_ok Try.func14 rfl Try.ntmps14 (by kernel_rfl) res14_ok rfl rfl rfl ?_; simp (maxSteps := 9999999) (disch := omega) only [go_sem]
    (repeat' (first | refine AWpA.seq ?_ | refine AWpA.block ?_ | (with_reducible refine CondP.tt ?_) | (with_reducible refine CondP.ff ?_) | refine AWpA.condv (by simp (maxSteps := 9999999) (disch := omega) only [go_sem, sg.ren, tb_ren, g1, hL4]; rfl) ?_ | ((first | (apply AWpA.region; (focus (simp (maxSteps := 9999999) (disch := omega) only [go_sem, sg.ren, tb_ren, g1, hL4]; rfl))) | (apply AWpA.draw [] follows; (focus (simp (maxSteps := 9999999) (disch := omega) only [go_sem, sg.ren, tb_ren, g1, hL4]; rfl)); (focus (simp (maxSteps := 9999999) (disch := omega) only [go_sem, sg.ren, tb_ren, g1, hL4]; first | done | trivial)); (focus (simp (maxSteps := 9999999) (disch := omega) only [go_sem, sg.ren, tb_ren, g1, hL4]; rfl))) | (apply TailK.go; (focus (simp (maxSteps := 9999999) (disch := omega) only [go_sem, sg.ren, tb_ren, g1, hL4]; rfl))) | refine AWpA.skip ?_ | refine AWpA.exit ?_ | refine AWpA.ret ?_ | (with_reducible refine ARoundsA.succ ?_) | ((first | refine Runs.kt (by assumption) (fun h9 => ?_) | refine Runs.kf (by assumption) (fun h9 => ?_) | refine Runs.nt (by assumption) (fun h9 => ?_) | refine Runs.nf (by assumption) (fun h9 => ?_) | refine CondP.ht (by assumption) (fun h9 => ?_) | refine CondP.hf (by assumption) (fun h9 => ?_) | refine CondP.nt (by assumption) (fun h9 => ?_) | refine CondP.nf (by assumption) (fun h9 => ?_)); (try simp only [h9]); clear h9) | ((first | (with_reducible apply CallG.plain1 [0, 1] (hh)) | (with_reducible apply CallG.draw1 [0, 1] (hh))); (focus ((try refine And.intro (leAs_of_eq rfl) ?_); (try refine And.intro (leOL_of_eq rfl) ?_); simp (maxSteps := 9999999) (disch := omega) only [go_sem, sg.ren, tb_ren, g1, hL4]; first | done | (repeat' (first | rfl | (refine And.intro ?_ ?_))))); (focus (simp (maxSteps := 9999999) (disch := omega) only [go_sem, sg.ren, tb_ren, g1, hL4]; rfl))) | ((first | (with_reducible apply CallG.plain1 [1] (r1)) | (with_reducible apply CallG.draw1 [1] (r1))); (focus ((try refine And.intro (leAs_of_eq rfl) ?_); (try refine And.intro (leOL_of_eq rfl) ?_); simp (maxSteps := 9999999) (disch := omega) only [go_sem, sg.ren, tb_ren, g1, hL4]; first | done | (repeat' (first | rfl | (refine And.intro ?_ ?_))))); (focus (simp (maxSteps := 9999999) (disch := omega) only [go_sem, sg.ren, tb_ren, g1, hL4]; rfl)))); (try simp (maxSteps := 9999999) (disch := omega) only [go_sem, sg.ren, tb_ren, g1, hL4]); (try (refine And.intro ?_ ?_; (focus (first | omega | (simp only [go_sem]; done) | (simp; done) | (simp; omega) | assumption))))) | ((first | refine CondP.split (fun hif => ?_) (fun hif => ?_) | refine Runs.part (fun hif => ?_) (fun hif => ?_)) <;> ((try simp only [hif]); (try simp only [decide_eq_true_eq, decide_eq_false_iff_not, Bool.not_eq_true, Bool.not_eq_false, Bool.not_eq_true', Bool.not_eq_false', beq_iff_eq, bne_iff_ne, bne_eq_false_iff_eq, beq_eq_false_iff_ne, ne_eq, Bool.and_eq_true, Bool.or_eq_true, Bool.or_eq_false_iff] at hif); (try (have h9 : _ = true := hif; simp only [h9])); (try (have h9 : _ = false := hif; simp only [h9])); (try simp (maxSteps := 9999999) (disch := omega) only [go_sem, sg.ren, tb_ren, g1, hL4]); (try (refine And.intro ?_ ?_; (focus (first | omega | (simp only [go_sem]; done) | (simp; done) | (simp; omega) | assumption)))); (try (exfalso; omega; done))))))
    refine AWpA.rounds 4 ?_
    (try simp (maxSteps := 9999999) (disch := omega) only [go_sem])
    (repeat' (first | refine AWpA.seq ?_ | refine AWpA.block ?_ | (with_reducible refine CondP.tt ?_) | (with_reducible refine CondP.ff ?_) | refine AWpA.condv (by simp (maxSteps := 9999999) (disch := omega) only [go_sem, sg.ren, tb_ren, g2]; rfl) ?_ | ((first | (apply AWpA.region; (focus (simp (maxSteps := 9999999) (disch := omega) only [go_sem, sg.ren, tb_ren, g2]; rfl))) | (apply AWpA.draw [] follows; (focus (simp (maxSteps := 9999999) (disch := omega) only [go_sem, sg.ren, tb_ren, g2]; rfl)); (focus (simp (maxSteps := 9999999) (disch := omega) only [go_sem, sg.ren, tb_ren, g2]; first | done | trivial)); (focus (simp (maxSteps := 9999999) (disch := omega) only [go_sem, sg.ren, tb_ren, g2]; rfl))) | (apply TailK.go; (focus (simp (maxSteps := 9999999) (disch := omega) only [go_sem, sg.ren, tb_ren, g2]; rfl))) | refine AWpA.skip ?_ | refine AWpA.exit ?_ | refine AWpA.ret ?_ | (with_reducible refine ARoundsA.succ ?_) | ((first | refine Runs.kt (by assumption) (fun h9 => ?_) | refine Runs.kf (by assumption) (fun h9 => ?_) | refine Runs.nt (by assumption) (fun h9 => ?_) | refine Runs.nf (by assumption) (fun h9 => ?_) | refine CondP.ht (by assumption) (fun h9 => ?_) | refine CondP.hf (by assumption) (fun h9 => ?_) | refine CondP.nt (by assumption) (fun h9 => ?_) | refine CondP.nf (by assumption) (fun h9 => ?_)); (try simp only [h9]); clear h9) | ((first | (with_reducible apply CallG.plain1 [290, 291] (c1)) | (with_reducible apply CallG.draw1 [290, 291] (c1))); (focus ((try refine And.intro (leAs_of_eq rfl) ?_); (try refine And.intro (leOL_of_eq rfl) ?_); simp (maxSteps := 9999999) (disch := omega) only [go_sem, sg.ren, tb_ren, g2]; first | done | (repeat' (first | rfl | (refine And.intro ?_ ?_))))); (focus (simp (maxSteps := 9999999) (disch := omega) only [go_sem, sg.ren, tb_ren, g2]; rfl))) | ((first | (with_reducible apply CallG.plain1 [290, 291] (c2)) | (with_reducible apply CallG.draw1 [290, 291] (c2))); (focus ((try refine And.intro (leAs_of_eq rfl) ?_); (try refine And.intro (leOL_of_eq rfl) ?_); simp (maxSteps := 9999999) (disch := omega) only [go_sem, sg.ren, tb_ren, g2]; first | done | (repeat' (first | rfl | (refine And.intro ?_ ?_))))); (focus (simp (maxSteps := 9999999) (disch := omega) only [go_sem, sg.ren, tb_ren, g2]; rfl))) | ((first | (with_reducible apply CallG.plain1 [290, 291] (c3)) | (with_reducible apply CallG.draw1 [290, 291] (c3))); (focus ((try refine And.intro (leAs_of_eq rfl) ?_); (try refine And.intro (leOL_of_eq rfl) ?_); simp (maxSteps := 9999999) (disch := omega) only [go_sem, sg.ren, tb_ren, g2]; first | done | (repeat' (first | rfl | (refine And.intro ?_ ?_))))); (focus (simp (maxSteps := 9999999) (disch := omega) only [go_sem, sg.ren, tb_ren, g2]; rfl))) | ((first | (with_reducible apply CallG.plain1 [290, 291] (c4)) | (with_reducible apply CallG.draw1 [290, 291] (c4))); (focus ((try refine And.intro (leAs_of_eq rfl) ?_); (try refine And.intro (leOL_of_eq rfl) ?_); simp (maxSteps := 9999999) (disch := omega) only [go_sem, sg.ren, tb_ren, g2]; first | done | (repeat' (first | rfl | (refine And.intro ?_ ?_))))); (focus (simp (maxSteps := 9999999) (disch := omega) only [go_sem, sg.ren, tb_ren, g2]; rfl))) | ((first | (with_reducible apply CallG.plain1 [290, 291] (c5)) | (with_reducible apply CallG.draw1 [290, 291] (c5))); (focus ((try refine And.intro (leAs_of_eq rfl) ?_); (try refine And.intro (leOL_of_eq rfl) ?_); simp (maxSteps := 9999999) (disch := omega) only [go_sem, sg.ren, tb_ren, g2]; first | done | (repeat' (first | rfl | (refine And.intro ?_ ?_))))); (focus (simp (maxSteps := 9999999) (disch := omega) only [go_sem, sg.ren, tb_ren, g2]; rfl))) | ((first | (with_reducible apply CallG.plain1 [290, 291] (c6)) | (with_reducible apply CallG.draw1 [290, 291] (c6))); (focus ((try refine And.intro (leAs_of_eq rfl) ?_); (try refine And.intro (leOL_of_eq rfl) ?_); simp (maxSteps := 9999999) (disch := omega) only [go_sem, sg.ren, tb_ren, g2]; first | done | (repeat' (first | rfl | (refine And.intro ?_ ?_))))); (focus (simp (maxSteps := 9999999) (disch := omega) only [go_sem, sg.ren, tb_ren, g2]; rfl))) | ((first | (with_reducible apply CallG.plain1 [1074] (c7)) | (with_reducible apply CallG.draw1 [1074] (c7))); (focus ((try refine And.intro (leAs_of_eq rfl) ?_); (try refine And.intro (leOL_of_eq rfl) ?_); simp (maxSteps := 9999999) (disch := omega) only [go_sem, sg.ren, tb_ren, g2]; first | done | (repeat' (first | rfl | (refine And.intro ?_ ?_))))); (focus (simp (maxSteps := 9999999) (disch := omega) only [go_sem, sg.ren, tb_ren, g2]; rfl)))); (try simp (maxSteps := 9999999) (disch := omega) only [go_sem, sg.ren, tb_ren, g2]); (try (refine And.intro ?_ ?_; (focus (first | omega | (simp only [go_sem]; done) | (simp; done) | (simp; omega) | assumption))))) | ((first | refine CondP.split (fun hif => ?_) (fun hif => ?_) | refine Runs.part (fun hif => ?_) (fun hif => ?_)) <;> ((try simp only [hif]); (try simp only [decide_eq_true_eq, decide_eq_false_iff_not, Bool.not_eq_true, Bool.not_eq_false, Bool.not_eq_true', Bool.not_eq_false', beq_iff_eq, bne_iff_ne, bne_eq_false_iff_eq, beq_eq_false_iff_ne, ne_eq, Bool.and_eq_true, Bool.or_eq_true, Bool.or_eq_false_iff] at hif); (try (have h9 : _ = true := hif; simp only [h9])); (try (have h9 : _ = false := hif; simp only [h9])); (try simp (maxSteps := 9999999) (disch := omega) only [go_sem, sg.ren, tb_ren, g2]); (try (refine And.intro ?_ ?_; (focus (first | omega | (simp only [go_sem]; done) | (simp; done) | (simp; omega) | assumption)))); (try (exfalso; omega; done))))))
    (apply Ret.det [0, 1]; (focus (first | exact .inl rfl | exact .inr rfl)); (focus (simp (maxSteps := 9999999) (disch := omega) only [go_sem, sg.ren, tb_ren]; rfl)); (simp (maxSteps := 9999999) (disch := omega) only [go_sem, sg.ren, tb_ren]; (try (repeat' (first | done | trivial | rfl | exact leAs_rfl _ | decide | (refine And.intro ?_ ?_) | (simp; done) | omega | (simp; decide))))))
end Go.Proofs.Ythbpdmlbfnjoiaa
