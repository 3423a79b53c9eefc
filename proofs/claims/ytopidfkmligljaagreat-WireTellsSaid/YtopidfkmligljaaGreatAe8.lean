/- Contracts: the document's bytes of an entry; which is newer, alike; marks. -/
import Derived.Test.YtopidfkmligljaaGreatEg5
import Derived.Test.YtopidfkmligljaaGreatAe7
import Derived.Test.YtopidfkmligljaaGreatAo14
namespace Go.Proofs.YtopidfkmligljaaGreat
noncomputable section
set_option linter.unusedSimpArgs false
set_option linter.unusedVariables false
set_option maxHeartbeats 4000000
open Go Go.Am
set_option maxRecDepth 100000
/- quidnunc/quidnuncref05.text -/
def c124_1 : ACode := .region false [⟨some 2, .move, [.c (.val (.slice none 0 0))], none⟩] [] [] [0] false [] []
def c124_3 : ACode := .region false [⟨some 3, .move, [.t 0], none⟩,
  ⟨some 4, .lenStr, [.t 3], none⟩,
  ⟨some 5, .conv .u8, [.t 4], none⟩,
  ⟨some 6, .buildSl 1 1 [(.int .u8 0)] [(0, 1)], [.t 5], none⟩,
  ⟨some 7, .move, [.t 0], none⟩,
  ⟨some 8, .toBytes, [.t 7], none⟩,
  ⟨some 9, .append 1 1 false, [.t 6, .t 8], none⟩,
  ⟨some 2, .move, [.t 9], none⟩] [] [] [2] true [] []
def c124_2 : ACode := .seq c124_3 .ret
def c124_0 : ACode := .seq c124_1 c124_2
def code124 : Code := (Tryz.f124.body).getD .skip
theorem c124_ok : compC Tryz.prog 10 code124 = some (strip c124_0) := by kernel_rfl
theorem res124_ok : Tryz.f124.results.toList.mapM (resC Tryz.prog) = some [(2, none)] := by kernel_rfl
/- quidnunc/quidnuncref05.number -/
def c125_1 : ACode := .region false [⟨some 4, .move, [.c (.val (.slice none 0 0))], none⟩] [] [] [0, 1] false [] []
def c125_3 : ACode := .region false [⟨some 8, .move, [.t 0], none⟩,
  ⟨some 9, .conv .u64, [.t 8], none⟩,
  ⟨some 10, .move, [.t 1], none⟩,
  ⟨some 11, .call 123, [.t 9, .t 10], none⟩,
  ⟨some 7, .move, [.t 11], none⟩,
  ⟨some 12, .ext 0, [.t 7], none⟩,
  ⟨some 13, .ext 1, [.t 7], none⟩,
  ⟨some 5, .move, [.t 12], none⟩,
  ⟨some 6, .move, [.t 13], none⟩] [] [] [5] true [] []
def c125_5 : ACode := .region false [⟨some 14, .move, [.t 5], none⟩,
  ⟨some 4, .move, [.t 14], none⟩] [] [] [4] false [] []
def c125_4 : ACode := .seq c125_5 .ret
def c125_2 : ACode := .seq c125_3 c125_4
def c125_0 : ACode := .seq c125_1 c125_2
def code125 : Code := (Tryz.f125.body).getD .skip
theorem c125_ok : compC Tryz.prog 15 code125 = some (strip c125_0) := by kernel_rfl
theorem res125_ok : Tryz.f125.results.toList.mapM (resC Tryz.prog) = some [(4, none)] := by kernel_rfl
/- quidnunc/quidnuncref05.Bytes -/
def c59_1 : ACode := .region false [⟨some 1, .box 0, [.t 0], none⟩,
  ⟨some 2, .move, [.c (.val (.slice none 0 0))], none⟩] [] [] [1] true [] []
def c59_3 : ACode := .region false [⟨some 4, .addr 0, [.t 1], none⟩,
  ⟨some 5, .load false 1, [.t 4], none⟩,
  ⟨some 6, .call 124, [.t 5], none⟩,
  ⟨some 3, .move, [.t 6], none⟩] [] [] [1, 3] true [] []
def c59_6 : ACode := .region false [⟨some 7, .addr 2, [.t 1], none⟩,
  ⟨some 8, .load false 1, [.t 7], none⟩] [] [] [1, 3, 8] false [] []
def c59_8 : ACode := .region false [⟨some 9, .move, [.t 3], none⟩,
  ⟨some 10, .buildSl 1 1 [(.int .u8 0)] [(0, 1)], [.c (.val (.int .u8 1))], none⟩,
  ⟨some 11, .append 1 1 false, [.t 9, .t 10], none⟩,
  ⟨some 3, .move, [.t 11], none⟩] [] [] [1, 3] true [] []
def c59_9 : ACode := .region false [⟨some 12, .move, [.t 3], none⟩,
  ⟨some 13, .buildSl 1 1 [(.int .u8 0)] [(0, 1)], [.c (.val (.int .u8 0))], none⟩,
  ⟨some 14, .append 1 1 false, [.t 12, .t 13], none⟩,
  ⟨some 3, .move, [.t 14], none⟩] [] [] [1, 3] true [] []
def c59_7 : ACode := .cond (.t 8) c59_8 c59_9
def c59_5 : ACode := .seq c59_6 c59_7
def c59_11 : ACode := .region false [⟨some 15, .move, [.t 3], none⟩,
  ⟨some 16, .addr 1, [.t 1], none⟩,
  ⟨some 17, .load false 1, [.t 16], none⟩,
  ⟨some 18, .call 124, [.t 17], none⟩,
  ⟨some 19, .append 1 1 false, [.t 15, .t 18], none⟩,
  ⟨some 3, .move, [.t 19], none⟩] [] [] [1, 3] true [] []
def c59_13 : ACode := .region false [⟨some 20, .move, [.t 3], none⟩,
  ⟨some 21, .addr 3, [.t 1], none⟩,
  ⟨some 22, .addr 0, [.t 21], none⟩,
  ⟨some 23, .load false 1, [.t 22], none⟩,
  ⟨some 24, .call 125, [.t 23, .c (.val (.int .i64 4))], none⟩,
  ⟨some 25, .append 1 1 false, [.t 20, .t 24], none⟩,
  ⟨some 3, .move, [.t 25], none⟩] [] [] [1, 3] true [] []
def c59_15 : ACode := .region false [⟨some 26, .move, [.t 3], none⟩,
  ⟨some 27, .addr 3, [.t 1], none⟩,
  ⟨some 28, .addr 1, [.t 27], none⟩,
  ⟨some 29, .load false 1, [.t 28], none⟩,
  ⟨some 30, .call 125, [.t 29, .c (.val (.int .i64 1))], none⟩,
  ⟨some 31, .append 1 1 false, [.t 26, .t 30], none⟩,
  ⟨some 3, .move, [.t 31], none⟩] [] [] [1, 3] true [] []
def c59_17 : ACode := .region false [⟨some 32, .move, [.t 3], none⟩,
  ⟨some 33, .addr 5, [.t 1], none⟩,
  ⟨some 34, .addr 0, [.t 33], none⟩,
  ⟨some 35, .load false 1, [.t 34], none⟩,
  ⟨some 36, .call 125, [.t 35, .c (.val (.int .i64 4))], none⟩,
  ⟨some 37, .append 1 1 false, [.t 32, .t 36], none⟩,
  ⟨some 3, .move, [.t 37], none⟩] [] [] [1, 3] true [] []
def c59_19 : ACode := .region false [⟨some 38, .move, [.t 3], none⟩,
  ⟨some 39, .addr 5, [.t 1], none⟩,
  ⟨some 40, .addr 1, [.t 39], none⟩,
  ⟨some 41, .load false 1, [.t 40], none⟩,
  ⟨some 42, .call 125, [.t 41, .c (.val (.int .i64 1))], none⟩,
  ⟨some 43, .append 1 1 false, [.t 38, .t 42], none⟩,
  ⟨some 3, .move, [.t 43], none⟩] [] [] [1, 3] true [] []
def c59_21 : ACode := .region false [⟨some 44, .move, [.t 3], none⟩,
  ⟨some 45, .addr 7, [.t 1], none⟩,
  ⟨some 46, .load false 1, [.t 45], none⟩,
  ⟨some 47, .call 125, [.t 46, .c (.val (.int .i64 2))], none⟩,
  ⟨some 48, .append 1 1 false, [.t 44, .t 47], none⟩,
  ⟨some 3, .move, [.t 48], none⟩] [] [] [1, 3] true [] []
def c59_23 : ACode := .region false [⟨some 49, .move, [.t 3], none⟩,
  ⟨some 50, .addr 8, [.t 1], none⟩,
  ⟨some 51, .load false 1, [.t 50], none⟩,
  ⟨some 52, .call 125, [.t 51, .c (.val (.int .i64 4))], none⟩,
  ⟨some 53, .append 1 1 false, [.t 49, .t 52], none⟩,
  ⟨some 2, .move, [.t 53], none⟩] [] [] [2] true [] []
def c59_22 : ACode := .seq c59_23 .ret
def c59_20 : ACode := .seq c59_21 c59_22
def c59_18 : ACode := .seq c59_19 c59_20
def c59_16 : ACode := .seq c59_17 c59_18
def c59_14 : ACode := .seq c59_15 c59_16
def c59_12 : ACode := .seq c59_13 c59_14
def c59_10 : ACode := .seq c59_11 c59_12
def c59_4 : ACode := .seq c59_5 c59_10
def c59_2 : ACode := .seq c59_3 c59_4
def c59_0 : ACode := .seq c59_1 c59_2
def code59 : Code := (Tryz.f59.body).getD .skip
theorem c59_ok : compC Tryz.prog 54 code59 = some (strip c59_0) := by kernel_rfl
theorem res59_ok : Tryz.f59.results.toList.mapM (resC Tryz.prog) = some [(2, none)] := by kernel_rfl
theorem rtextB_any (s : ByteArray) (h : s.size ≤ 255) : ACall Tryz.prog 124 [Str s] [] (Det (.sl 0 0 ((s.size : Int) :: txI s).length 1 none) [.cells false (bA ((s.size : Int) :: txI s))]) := by
  have hx := txI_str s
  have hl := txI_len s
  by_cases h0 : s.size = 0
  · have h1 : (1 + s.size ≤ 1) = True := eq_true (by omega)
    have h2 : txI s = [] := List.length_eq_zero_iff.1 (by omega)
    refine ACall.startA c124_ok Tryz.func124 rfl Tryz.ntmps124 (by kernel_rfl) res124_ok rfl rfl rfl ?_; simp (maxSteps := 9999999) (disch := omega) only [go_sem]
    (have k9 := And.intro @hx (And.intro @hl (And.intro @h1 (And.intro @h2 (And.intro @h0 (And.intro @bA_nil (k0)))))); (repeat' (first | refine goM ?_ | ((first | refine CondP.split (fun hif => ?_) (fun hif => ?_) | refine Runs.part (fun hif => ?_) (fun hif => ?_)) <;> ((try simp only [BL] at hif); first | (exfalso; omega; done) | refine goI ?_)))); (all_goals (try clear k9)))
    all_goals (apply Ret.det [_]; (focus (first | exact .inl rfl | exact .inr rfl)); (focus (simp (maxSteps := 9999999) (disch := omega) only [go_sem, h0, bA_cons, bA_nil]; rfl)); (simp (maxSteps := 9999999) (disch := omega) only [go_sem, h0, bA_cons, bA_nil]; (try (repeat' (first | done | trivial | rfl | exact leAs_rfl _ | decide | (refine And.intro ?_ ?_) | (simp; done) | omega | (simp; decide))))))
  · have h1 : (1 + s.size ≤ 1) = False := eq_false (by omega)
    have h3 : (s.size ≤ 0) = False := eq_false (by omega)
    have h2 : 1 + s.size = s.size + 1 := Nat.add_comm _ _
    have h4 : (txI s).take s.size = txI s := List.take_of_length_le (by omega)
    refine ACall.startA c124_ok Tryz.func124 rfl Tryz.ntmps124 (by kernel_rfl) res124_ok rfl rfl rfl ?_; simp (maxSteps := 9999999) (disch := omega) only [go_sem]
    (have k9 := And.intro @hx (And.intro @hl (And.intro @h1 (And.intro @h2 (And.intro @h3 (And.intro @h4 (And.intro @bA_cons (k0))))))); (repeat' (first | refine goM ?_ | ((first | refine CondP.split (fun hif => ?_) (fun hif => ?_) | refine Runs.part (fun hif => ?_) (fun hif => ?_)) <;> ((try simp only [BL] at hif); first | (exfalso; omega; done) | refine goI ?_)))); (all_goals (try clear k9)))
    all_goals (apply Ret.det [_]; (focus (first | exact .inl rfl | exact .inr rfl)); (focus (simp (maxSteps := 9999999) (disch := omega) only [go_sem, hl, h2, h4, bA_cons]; rfl)); (simp (maxSteps := 9999999) (disch := omega) only [go_sem, hl, h2, h4, bA_cons]; (try (repeat' (first | done | trivial | rfl | exact leAs_rfl _ | decide | (refine And.intro ?_ ?_) | (simp; done) | omega | (simp; decide))))))
theorem rnumB_any (v : Int) (h0 : 0 ≤ v ∧ v < 18446744073709551616) (h1 : v ≤ 9223372036854775807) (n : Nat) (hn : n ≤ 8) : ACall Tryz.prog 125 [I v, I (n : Int)] [] (Det (.sl 0 0 (leI v n).length 1 none) [.cells false (bA (leI v n))]) := by
  have hr := refnum_any v h0 n hn
  have hl := leI_len v n
  generalize leI v n = m at *
  generalize (v / 256 ^ n == 0) = q at *
  refine ACall.startA c125_ok Tryz.func125 rfl Tryz.ntmps125 (by kernel_rfl) res125_ok rfl rfl rfl ?_; simp (maxSteps := 9999999) (disch := omega) only [go_sem]
  (have k9 := k0; have a1 := Arm.mk [] hr; refine goK ?_; (try clear k9); (try clear a1))
  (have k9 := And.intro @hl (k0); exact Ret.dk [_])
set_option maxHeartbeats 20000000 in
theorem rbytes_any (e : En) (he : checkI e = 0) : ACall Tryz.prog 59 [EnA e] [] (Det (.sl 0 0 (enB e).length 1 none) [.cells false (bA (enB e))]) := by
  obtain ⟨k1, k2, k3, k4, k5, k6, k7, k8, k9⟩ := check_ok he
  have hB : enB e = ((e.key.size : Int) :: txI e.key) ++ [cond e.dead 1 0] ++ ((e.val.size : Int) :: txI e.val) ++ leI e.st.c 4 ++ leI e.st.s 1 ++ leI e.act.c 4 ++ leI e.act.s 1 ++ leI e.keep 2 ++ leI e.age 4 := rfl
  rw [hB]
  clear hB he
  obtain ⟨key, val, dead, ⟨sc, ss⟩, ⟨ac, ax⟩, keep, age⟩ := e
  simp only at k1 k2 k3 k4 k5 k6 k7 k8 k9
  simp only
  have c1 := rtextB_any key (by omega)
  have c3 := rtextB_any val (by omega)
  have c4 := rnumB_any sc (by omega) (by omega) 4 (by decide)
  have c5 := rnumB_any ss (by omega) (by omega) 1 (by decide)
  have c6 := rnumB_any ac (by omega) (by omega) 4 (by decide)
  have c7 := rnumB_any ax (by omega) (by omega) 1 (by decide)
  have c8 := rnumB_any keep (by omega) (by omega) 2 (by decide)
  have c9 := rnumB_any age (by omega) (by omega) 4 (by decide)
  have n1 : ((key.size : Int) :: txI key).length ≤ 17 := by simp [txI_len]; omega
  have n3 : ((val.size : Int) :: txI val).length ≤ 33 := by simp [txI_len]; omega
  have n4 := leI_len sc 4
  have n5 := leI_len ss 1
  have n6 := leI_len ac 4
  have n7 := leI_len ax 1
  have n8 := leI_len keep 2
  have n9 := leI_len age 4
  generalize ((key.size : Int) :: txI key) = m1 at *
  generalize ((val.size : Int) :: txI val) = m3 at *
  generalize leI sc 4 = m4 at *
  generalize leI ss 1 = m5 at *
  generalize leI ac 4 = m6 at *
  generalize leI ax 1 = m7 at *
  generalize leI keep 2 = m8 at *
  generalize leI age 4 = m9 at *
  have t2 : ∀ d : Int, (m1 ++ [d]).take (m1.length + 1) = m1 ++ [d] := fun d => List.take_of_length_le (by simp)
  have t3 : ∀ d : Int, (m1 ++ [d] ++ m3).take (m1.length + 1 + m3.length) = m1 ++ [d] ++ m3 := fun d => List.take_of_length_le (by simp only [List.length_append, List.length_cons, List.length_nil]; omega)
  have t4 : ∀ d : Int, (m1 ++ [d] ++ m3 ++ m4).take (m1.length + 1 + m3.length + m4.length) = m1 ++ [d] ++ m3 ++ m4 := fun d => List.take_of_length_le (by simp only [List.length_append, List.length_cons, List.length_nil]; omega)
  have t5 : ∀ d : Int, (m1 ++ [d] ++ m3 ++ m4 ++ m5).take (m1.length + 1 + m3.length + m4.length + m5.length) = m1 ++ [d] ++ m3 ++ m4 ++ m5 := fun d => List.take_of_length_le (by simp only [List.length_append, List.length_cons, List.length_nil]; omega)
  have t6 : ∀ d : Int, (m1 ++ [d] ++ m3 ++ m4 ++ m5 ++ m6).take (m1.length + 1 + m3.length + m4.length + m5.length + m6.length) = m1 ++ [d] ++ m3 ++ m4 ++ m5 ++ m6 := fun d => List.take_of_length_le (by simp only [List.length_append, List.length_cons, List.length_nil]; omega)
  have t7 : ∀ d : Int, (m1 ++ [d] ++ m3 ++ m4 ++ m5 ++ m6 ++ m7).take (m1.length + 1 + m3.length + m4.length + m5.length + m6.length + m7.length) = m1 ++ [d] ++ m3 ++ m4 ++ m5 ++ m6 ++ m7 := fun d => List.take_of_length_le (by simp only [List.length_append, List.length_cons, List.length_nil]; omega)
  have t8 : ∀ d : Int, (m1 ++ [d] ++ m3 ++ m4 ++ m5 ++ m6 ++ m7 ++ m8).take (m1.length + 1 + m3.length + m4.length + m5.length + m6.length + m7.length + m8.length) = m1 ++ [d] ++ m3 ++ m4 ++ m5 ++ m6 ++ m7 ++ m8 := fun d => List.take_of_length_le (by simp only [List.length_append, List.length_cons, List.length_nil]; omega)
  cases dead
  all_goals
    refine ACall.startA c59_ok Tryz.func59 rfl Tryz.ntmps59 (by kernel_rfl) res59_ok rfl rfl rfl ?_; simp (maxSteps := 9999999) (disch := omega) only [go_sem]
    (have k9 := And.intro @t2 (And.intro @t3 (And.intro @t4 (And.intro @t5 (And.intro @t6 (And.intro @t7 (And.intro @t8 (k0))))))); have a1 := Arm.mk [] c1; have a2 := Arm.mk [] c3; have a3 := Arm.mk [] c4; have a4 := Arm.mk [] c5; have a5 := Arm.mk [] c6; have a6 := Arm.mk [] c7; have a7 := Arm.mk [] c8; have a8 := Arm.mk [] c9; (repeat' (first | refine goM ?_ | ((first | refine CondP.split (fun hif => ?_) (fun hif => ?_) | refine Runs.part (fun hif => ?_) (fun hif => ?_)) <;> ((try simp only [BL] at hif); first | (exfalso; omega; done) | refine goI ?_)))); (all_goals (try clear k9)); (all_goals (try clear a1)); (all_goals (try clear a2)); (all_goals (try clear a3)); (all_goals (try clear a4)); (all_goals (try clear a5)); (all_goals (try clear a6)); (all_goals (try clear a7)); (all_goals (try clear a8)))
    all_goals (apply Ret.det [_]; (focus (first | exact .inl rfl | exact .inr rfl)); (focus (simp (maxSteps := 9999999) (disch := omega) only [go_sem, t2, t3, t4, t5, t6, t7, t8]; rfl)); (simp (maxSteps := 9999999) (disch := omega) only [go_sem, t2, t3, t4, t5, t6, t7, t8]; (try (repeat' (first | done | trivial | rfl | exact leAs_rfl _ | decide | (refine And.intro ?_ ?_) | (simp; done) | omega | (simp; decide))))))
end
end Go.Proofs.YtopidfkmligljaaGreat
