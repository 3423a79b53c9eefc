/- Contracts: bytes put together. -/
import Derived.Test.YtopidfkmligljaaGreatEg5
import Derived.Test.YtopidfkmligljaaGreatAo1
namespace Go.Proofs.YtopidfkmligljaaGreat
noncomputable section
set_option linter.unusedSimpArgs false
set_option linter.unusedVariables false
set_option maxHeartbeats 4000000
open Go Go.Am
set_option maxRecDepth 100000
/- slices.Grow[[]byte,byte] -/
def c145_1 : ACode := .region false [⟨some 4, .move, [.c (.val (.slice none 0 0))], none⟩] [] [] [0, 1] false [] []
def c145_4 : ACode := .region false [⟨some 5, .move, [.t 1], none⟩,
  ⟨some 6, .bin .lss, [.t 5, .c (.val (.int .i64 0))], none⟩] [] [] [0, 1, 6] false [] []
def c145_6 : ACode := .region false [⟨some 7, .other, [], none⟩,
  ⟨none, .other, [], none⟩] [] [] [0, 1] false [] []
def c145_5 : ACode := .cond (.t 6) c145_6 .skip
def c145_3 : ACode := .seq c145_4 c145_5
def c145_9 : ACode := .region false [⟨some 8, .move, [.t 1], none⟩,
  ⟨some 9, .move, [.t 0], none⟩,
  ⟨some 10, .cap, [.t 9], none⟩,
  ⟨some 11, .move, [.t 0], none⟩,
  ⟨some 12, .len, [.t 11], none⟩,
  ⟨some 13, .bin .sub, [.t 10, .t 12], none⟩,
  ⟨some 14, .bin .sub, [.t 8, .t 13], none⟩,
  ⟨some 1, .move, [.t 14], none⟩] [] [] [0, 1] false [] []
def c145_11 : ACode := .region false [⟨some 15, .move, [.t 1], none⟩,
  ⟨some 16, .bin .gtr, [.t 15, .c (.val (.int .i64 0))], none⟩] [] [] [0, 1, 16] false [] []
def c145_13 : ACode := .region false [⟨some 17, .move, [.t 0], none⟩,
  ⟨some 18, .move, [.t 0], none⟩,
  ⟨some 19, .cap, [.t 18], none⟩,
  ⟨some 20, .slS 1 false true false, [.t 17, .t 19], none⟩,
  ⟨some 21, .move, [.t 1], none⟩,
  ⟨some 22, .growN 1 1, [.t 20, .t 21], none⟩,
  ⟨some 23, .move, [.t 0], none⟩,
  ⟨some 24, .len, [.t 23], none⟩,
  ⟨some 25, .slS 1 false true false, [.t 22, .t 24], none⟩,
  ⟨some 0, .move, [.t 25], none⟩] [] [] [0] true [] []
def c145_12 : ACode := .cond (.t 16) c145_13 .skip
def c145_10 : ACode := .seq c145_11 c145_12
def c145_8 : ACode := .seq c145_9 c145_10
def c145_15 : ACode := .region false [⟨some 26, .move, [.t 0], none⟩,
  ⟨some 4, .move, [.t 26], none⟩] [] [] [4] false [] []
def c145_14 : ACode := .seq c145_15 .ret
def c145_7 : ACode := .seq c145_8 c145_14
def c145_2 : ACode := .seq c145_3 c145_7
def c145_0 : ACode := .seq c145_1 c145_2
def code145 : Code := (Tryz.f145.body).getD .skip
theorem c145_ok : compC Tryz.prog 27 code145 = some (strip c145_0) := by kernel_rfl
theorem res145_ok : Tryz.f145.results.toList.mapM (resC Tryz.prog) = some [(4, none)] := by kernel_rfl
/- slices.Concat[[]byte,byte] -/
def c142_1 : ACode := .region false [⟨some 2, .move, [.c (.val (.slice none 0 0))], none⟩] [] [] [0] false [] []
def c142_3 : ACode := .region false [⟨some 3, .move, [.c (.val (.int .i64 0))], none⟩] [] [] [0, 3] false [] []
def c142_6 : ACode := .region false [⟨some 9, .move, [.t 0], none⟩,
  ⟨some 10, .len, [.t 9], none⟩,
  ⟨some 11, .move, [.c (.val (.int .i64 0))], none⟩] [] [] [0, 3, 9, 10, 11] false [] []
def c142_10 : ACode := .region false [⟨some 12, .bin .lss, [.t 11, .t 10], none⟩] [] [] [0, 3, 9, 10, 11, 12] false [] []
def c142_12 : ACode := .cond (.t 12) .skip (.exit 0)
def c142_16 : ACode := .region false [⟨some 13, .ixS 1, [.t 9, .t 11], none⟩,
  ⟨some 14, .load false 1, [.t 13], none⟩,
  ⟨some 5, .move, [.t 14], none⟩] [] [] [0, 3, 5, 9, 10, 11] false [] []
def c142_18 : ACode := .region false [⟨some 15, .move, [.t 3], none⟩,
  ⟨some 16, .move, [.t 5], none⟩,
  ⟨some 17, .len, [.t 16], none⟩,
  ⟨some 18, .bin .add, [.t 15, .t 17], none⟩,
  ⟨some 3, .move, [.t 18], none⟩] [] [] [0, 3, 9, 10, 11] false [] []
def c142_20 : ACode := .region false [⟨some 19, .move, [.t 3], none⟩,
  ⟨some 20, .bin .lss, [.t 19, .c (.val (.int .i64 0))], none⟩] [] [] [0, 3, 9, 10, 11, 20] false [] []
def c142_22 : ACode := .region false [⟨some 21, .other, [], none⟩,
  ⟨none, .other, [], none⟩] [] [] [0, 3, 9, 10, 11] false [] []
def c142_21 : ACode := .cond (.t 20) c142_22 .skip
def c142_19 : ACode := .seq c142_20 c142_21
def c142_17 : ACode := .seq c142_18 c142_19
def c142_15 : ACode := .seq c142_16 c142_17
def c142_14 : ACode := .block 1 c142_15
def c142_23 : ACode := .region false [⟨some 22, .bin .add, [.t 11, .c (.val (.int .i64 1))], none⟩,
  ⟨some 11, .move, [.t 22], none⟩] [] [] [0, 3, 9, 10, 11] false [] []
def c142_13 : ACode := .seq c142_14 c142_23
def c142_11 : ACode := .seq c142_12 c142_13
def c142_9 : ACode := .seq c142_10 c142_11
def c142_8 : ACode := .loop c142_9
def c142_7 : ACode := .block 0 c142_8
def c142_5 : ACode := .seq c142_6 c142_7
def c142_25 : ACode := .region false [⟨some 23, .move, [.t 3], none⟩,
  ⟨some 24, .call 145, [.c (.val (.slice none 0 0)), .t 23], none⟩,
  ⟨some 6, .move, [.t 24], none⟩] [] [] [0, 6] true [] []
def c142_28 : ACode := .region false [⟨some 25, .move, [.t 0], none⟩,
  ⟨some 26, .len, [.t 25], none⟩,
  ⟨some 27, .move, [.c (.val (.int .i64 0))], none⟩] [] [] [6, 25, 26, 27] false [] []
def c142_32 : ACode := .region false [⟨some 28, .bin .lss, [.t 27, .t 26], none⟩] [] [] [6, 25, 26, 27, 28] false [] []
def c142_34 : ACode := .cond (.t 28) .skip (.exit 2)
def c142_38 : ACode := .region false [⟨some 29, .ixS 1, [.t 25, .t 27], none⟩,
  ⟨some 30, .load false 1, [.t 29], none⟩,
  ⟨some 8, .move, [.t 30], none⟩] [] [] [6, 8, 25, 26, 27] false [] []
def c142_39 : ACode := .region false [⟨some 31, .move, [.t 6], none⟩,
  ⟨some 32, .move, [.t 8], none⟩,
  ⟨some 33, .append 1 1 false, [.t 31, .t 32], none⟩,
  ⟨some 6, .move, [.t 33], none⟩] [] [] [6, 25, 26, 27] true [] []
def c142_37 : ACode := .seq c142_38 c142_39
def c142_36 : ACode := .block 3 c142_37
def c142_40 : ACode := .region false [⟨some 34, .bin .add, [.t 27, .c (.val (.int .i64 1))], none⟩,
  ⟨some 27, .move, [.t 34], none⟩] [] [] [6, 25, 26, 27] false [] []
def c142_35 : ACode := .seq c142_36 c142_40
def c142_33 : ACode := .seq c142_34 c142_35
def c142_31 : ACode := .seq c142_32 c142_33
def c142_30 : ACode := .loop c142_31
def c142_29 : ACode := .block 2 c142_30
def c142_27 : ACode := .seq c142_28 c142_29
def c142_42 : ACode := .region false [⟨some 35, .move, [.t 6], none⟩,
  ⟨some 2, .move, [.t 35], none⟩] [] [] [2] false [] []
def c142_41 : ACode := .seq c142_42 .ret
def c142_26 : ACode := .seq c142_27 c142_41
def c142_24 : ACode := .seq c142_25 c142_26
def c142_4 : ACode := .seq c142_5 c142_24
def c142_2 : ACode := .seq c142_3 c142_4
def c142_0 : ACode := .seq c142_1 c142_2
def code142 : Code := (Tryz.f142.body).getD .skip
theorem c142_ok : compC Tryz.prog 36 code142 = some (strip c142_0) := by kernel_rfl
theorem res142_ok : Tryz.f142.results.toList.mapM (resC Tryz.prog) = some [(2, none)] := by kernel_rfl
theorem grow_any (n : Nat) (h : n ≤ 140737488355328) : ACall Tryz.prog 145 [.val (.slice none 0 0), I n] [] (Det (.sl 0 0 0 1 none) [.cells false []]) := by
  refine ACall.startA c145_ok Tryz.func145 rfl Tryz.ntmps145 (by kernel_rfl) res145_ok rfl rfl rfl ?_; simp (maxSteps := 9999999) (disch := omega) only [go_sem]
  refine AWpA.dummy ?_
  (have k9 := k0; (repeat' (first | refine goM ?_ | ((first | refine CondP.split (fun hif => ?_) (fun hif => ?_) | refine Runs.part (fun hif => ?_) (fun hif => ?_)) <;> ((try simp only [BL] at hif); first | (exfalso; omega; done) | refine goI ?_)))); (all_goals (try clear k9)))
  · (have k9 := k0; exact Ret.dk [289])
  · (have k9 := k0; exact Ret.dk [0])
theorem concat1 {P1 : List AV} {o1 : Nat} {l1 : List Int} (s1 : Seg P1 o1 l1) : ACall Tryz.prog 142 [.sl 0 0 1 1 none] [.cells true [.sl 1 o1 l1.length 1 none], .cells true P1] (Det (.sl 2 0 (l1.length) 1 none) [.cells true [.sl 1 o1 l1.length 1 none], .cells true P1, .cells false (bA l1)]) := by
  have h1a := s1.le
  have h1b := s1.small
  refine ACall.startA c142_ok Tryz.func142 rfl Tryz.ntmps142 (by kernel_rfl) res142_ok rfl rfl rfl ?_; simp (maxSteps := 9999999) (disch := omega) only [go_sem]
  (have k9 := And.intro @s1.seg (And.intro @s1.noAny (And.intro @s1.ren (k0))); (repeat' (first | refine goM ?_ | ((first | refine CondP.split (fun hif => ?_) (fun hif => ?_) | refine Runs.part (fun hif => ?_) (fun hif => ?_)) <;> ((try simp only [BL] at hif); first | (exfalso; omega; done) | refine goI ?_)))); (all_goals (try clear k9)))
  refine AWpA.rounds 2 ?_
  (have k9 := And.intro @s1.seg (And.intro @s1.noAny (And.intro @s1.ren (k0))); have a1 := Arm.mk [] (grow_any (l1.length) (by omega)); (repeat' (first | refine goM ?_ | ((first | refine CondP.split (fun hif => ?_) (fun hif => ?_) | refine Runs.part (fun hif => ?_) (fun hif => ?_)) <;> ((try simp only [BL] at hif); first | (exfalso; omega; done) | refine goI ?_)))); (all_goals (try clear k9)); (all_goals (try clear a1)))
  refine AWpA.rounds 2 ?_
  (have k9 := And.intro @s1.seg (And.intro @s1.noAny (And.intro @s1.ren (k0))); have a1 := Arm.mk [] (grow_any (l1.length) (by omega)); refine goK ?_; (try clear k9); (try clear a1))
  (have k9 := And.intro @s1.seg (And.intro @s1.noAny (And.intro @s1.ren (k0))); exact Ret.dk [0, 1, _])
theorem concat2 {P1 : List AV} {o1 : Nat} {l1 : List Int} (s1 : Seg P1 o1 l1) {P2 : List AV} {o2 : Nat} {l2 : List Int} (s2 : Seg P2 o2 l2) : ACall Tryz.prog 142 [.sl 0 0 2 1 none] [.cells true [.sl 1 o1 l1.length 1 none, .sl 2 o2 l2.length 1 none], .cells true P1, .cells true P2] (Det (.sl 3 0 (l1.length + l2.length) 1 none) [.cells true [.sl 1 o1 l1.length 1 none, .sl 2 o2 l2.length 1 none], .cells true P1, .cells true P2, .cells false (bA (l1 ++ l2))]) := by
  have h1a := s1.le
  have h1b := s1.small
  have h2a := s2.le
  have h2b := s2.small
  refine ACall.startA c142_ok Tryz.func142 rfl Tryz.ntmps142 (by kernel_rfl) res142_ok rfl rfl rfl ?_; simp (maxSteps := 9999999) (disch := omega) only [go_sem]
  (have k9 := And.intro @s1.seg (And.intro @s1.noAny (And.intro @s1.ren (And.intro @s2.seg (And.intro @s2.noAny (And.intro @s2.ren (k0)))))); (repeat' (first | refine goM ?_ | ((first | refine CondP.split (fun hif => ?_) (fun hif => ?_) | refine Runs.part (fun hif => ?_) (fun hif => ?_)) <;> ((try simp only [BL] at hif); first | (exfalso; omega; done) | refine goI ?_)))); (all_goals (try clear k9)))
  refine AWpA.rounds 3 ?_
  (have k9 := And.intro @s1.seg (And.intro @s1.noAny (And.intro @s1.ren (And.intro @s2.seg (And.intro @s2.noAny (And.intro @s2.ren (k0)))))); have a1 := Arm.mk [] (grow_any (l1.length + l2.length) (by omega)); (repeat' (first | refine goM ?_ | ((first | refine CondP.split (fun hif => ?_) (fun hif => ?_) | refine Runs.part (fun hif => ?_) (fun hif => ?_)) <;> ((try simp only [BL] at hif); first | (exfalso; omega; done) | refine goI ?_)))); (all_goals (try clear k9)); (all_goals (try clear a1)))
  refine AWpA.rounds 3 ?_
  (have k9 := And.intro @s1.seg (And.intro @s1.noAny (And.intro @s1.ren (And.intro @s2.seg (And.intro @s2.noAny (And.intro @s2.ren (k0)))))); have a1 := Arm.mk [] (grow_any (l1.length + l2.length) (by omega)); refine goK ?_; (try clear k9); (try clear a1))
  (have k9 := And.intro @s1.seg (And.intro @s1.noAny (And.intro @s1.ren (And.intro @s2.seg (And.intro @s2.noAny (And.intro @s2.ren (k0)))))); exact Ret.dk [0, 1, 2, _])
end
end Go.Proofs.YtopidfkmligljaaGreat
