/- Contracts, small functions. -/
import Derived.Test.YtopidfkmligljaaGreatEg5
import Derived.Test.YtopidfkmligljaaGreatAc0
namespace Go.Proofs.YtopidfkmligljaaGreat
noncomputable section
set_option linter.unusedSimpArgs false
set_option linter.unusedVariables false
set_option maxHeartbeats 4000000
open Go Go.Am
set_option maxRecDepth 100000
/- cmp.isNaN[int] -/
def c146_1 : ACode := .region false [⟨some 2, .move, [.c (.val (.bool false))], none⟩] [] [] [0] false [] []
def c146_3 : ACode := .region false [⟨some 3, .move, [.t 0], none⟩,
  ⟨some 4, .move, [.t 0], none⟩,
  ⟨some 5, .bin .neq, [.t 3, .t 4], none⟩,
  ⟨some 2, .move, [.t 5], none⟩] [] [] [2] false [] []
def c146_2 : ACode := .seq c146_3 .ret
def c146_0 : ACode := .seq c146_1 c146_2
def code146 : Code := (Tryz.f146.body).getD .skip
theorem c146_ok : compC Tryz.prog 6 code146 = some (strip c146_0) := by kernel_rfl
theorem res146_ok : Tryz.f146.results.toList.mapM (resC Tryz.prog) = some [(2, none)] := by kernel_rfl
/- cmp.Compare[int] -/
def c144_1 : ACode := .region false [⟨some 4, .move, [.c (.val (.int .i64 0))], none⟩] [] [] [0, 1] false [] []
def c144_3 : ACode := .region false [⟨some 7, .move, [.t 0], none⟩,
  ⟨some 8, .call 146, [.t 7], none⟩,
  ⟨some 5, .move, [.t 8], none⟩] [] [] [0, 1, 5] true [] []
def c144_5 : ACode := .region false [⟨some 9, .move, [.t 1], none⟩,
  ⟨some 10, .call 146, [.t 9], none⟩,
  ⟨some 6, .move, [.t 10], none⟩] [] [] [0, 1, 5, 6] true [] []
def c144_8 : ACode := .region false [⟨some 11, .move, [.t 5], none⟩] [] [] [0, 1, 6, 11] false [] []
def c144_12 : ACode := .region false [⟨some 12, .move, [.t 6], none⟩] [] [] [12] false [] []
def c144_15 : ACode := .region false [⟨some 4, .move, [.c (.val (.int .i64 0))], none⟩] [] [] [4] false [] []
def c144_14 : ACode := .seq c144_15 .ret
def c144_13 : ACode := .cond (.t 12) c144_14 .skip
def c144_11 : ACode := .seq c144_12 c144_13
def c144_17 : ACode := .region false [⟨some 4, .move, [.c (.val (.int .i64 (-1)))], none⟩] [] [] [4] false [] []
def c144_16 : ACode := .seq c144_17 .ret
def c144_10 : ACode := .seq c144_11 c144_16
def c144_9 : ACode := .cond (.t 11) c144_10 .skip
def c144_7 : ACode := .seq c144_8 c144_9
def c144_20 : ACode := .region false [⟨some 13, .move, [.t 6], none⟩] [] [] [0, 1, 13] false [] []
def c144_23 : ACode := .region false [⟨some 4, .move, [.c (.val (.int .i64 1))], none⟩] [] [] [4] false [] []
def c144_22 : ACode := .seq c144_23 .ret
def c144_21 : ACode := .cond (.t 13) c144_22 .skip
def c144_19 : ACode := .seq c144_20 c144_21
def c144_26 : ACode := .region false [⟨some 14, .move, [.t 0], none⟩,
  ⟨some 15, .move, [.t 1], none⟩,
  ⟨some 16, .bin .lss, [.t 14, .t 15], none⟩] [] [] [0, 1, 16] false [] []
def c144_29 : ACode := .region false [⟨some 4, .move, [.c (.val (.int .i64 (-1)))], none⟩] [] [] [4] false [] []
def c144_28 : ACode := .seq c144_29 .ret
def c144_27 : ACode := .cond (.t 16) c144_28 .skip
def c144_25 : ACode := .seq c144_26 c144_27
def c144_32 : ACode := .region false [⟨some 17, .move, [.t 0], none⟩,
  ⟨some 18, .move, [.t 1], none⟩,
  ⟨some 19, .bin .gtr, [.t 17, .t 18], none⟩] [] [] [19] false [] []
def c144_35 : ACode := .region false [⟨some 4, .move, [.c (.val (.int .i64 1))], none⟩] [] [] [4] false [] []
def c144_34 : ACode := .seq c144_35 .ret
def c144_33 : ACode := .cond (.t 19) c144_34 .skip
def c144_31 : ACode := .seq c144_32 c144_33
def c144_37 : ACode := .region false [⟨some 4, .move, [.c (.val (.int .i64 0))], none⟩] [] [] [4] false [] []
def c144_36 : ACode := .seq c144_37 .ret
def c144_30 : ACode := .seq c144_31 c144_36
def c144_24 : ACode := .seq c144_25 c144_30
def c144_18 : ACode := .seq c144_19 c144_24
def c144_6 : ACode := .seq c144_7 c144_18
def c144_4 : ACode := .seq c144_5 c144_6
def c144_2 : ACode := .seq c144_3 c144_4
def c144_0 : ACode := .seq c144_1 c144_2
def code144 : Code := (Tryz.f144.body).getD .skip
theorem c144_ok : compC Tryz.prog 20 code144 = some (strip c144_0) := by kernel_rfl
theorem res144_ok : Tryz.f144.results.toList.mapM (resC Tryz.prog) = some [(4, none)] := by kernel_rfl
/- quidnunc/quidnuncref04.Site -/
def c45_1 : ACode := .region false [⟨some 2, .move, [.c (.val (.bool false))], none⟩] [] [] [0] false [] []
def c45_3 : ACode := .region false [⟨some 3, .move, [.t 0], none⟩,
  ⟨some 4, .bin .geq, [.t 3, .c (.val (.int .i64 0))], none⟩,
  ⟨some 5, .move, [.t 4], none⟩,
  ⟨some 6, .move, [.t 0], some (some 5, true)⟩,
  ⟨some 7, .bin .lss, [.t 6, .c (.val (.int .i64 12))], some (some 5, true)⟩,
  ⟨some 8, .pick, [.t 5, .t 7, .c (.val (.bool false))], none⟩,
  ⟨some 2, .move, [.t 8], none⟩] [] [] [2] false [] []
def c45_2 : ACode := .seq c45_3 .ret
def c45_0 : ACode := .seq c45_1 c45_2
def code45 : Code := (Tryz.f45.body).getD .skip
theorem c45_ok : compC Tryz.prog 9 code45 = some (strip c45_0) := by kernel_rfl
theorem res45_ok : Tryz.f45.results.toList.mapM (resC Tryz.prog) = some [(2, none)] := by kernel_rfl
/- quidnunc/quidnuncref04.Later -/
def c106_1 : ACode := .region false [⟨some 2, .box 0, [.t 0], none⟩,
  ⟨some 3, .box 0, [.t 1], none⟩,
  ⟨some 4, .move, [.c (.val (.bool false))], none⟩] [] [] [2, 3] true [] []
def c106_4 : ACode := .region false [⟨some 5, .addr 0, [.t 2], none⟩,
  ⟨some 6, .load false 1, [.t 5], none⟩,
  ⟨some 7, .addr 0, [.t 3], none⟩,
  ⟨some 8, .load false 1, [.t 7], none⟩,
  ⟨some 9, .bin .neq, [.t 6, .t 8], none⟩] [] [] [2, 3, 9] false [] []
def c106_7 : ACode := .region false [⟨some 10, .addr 0, [.t 2], none⟩,
  ⟨some 11, .load false 1, [.t 10], none⟩,
  ⟨some 12, .addr 0, [.t 3], none⟩,
  ⟨some 13, .load false 1, [.t 12], none⟩,
  ⟨some 14, .bin .gtr, [.t 11, .t 13], none⟩,
  ⟨some 4, .move, [.t 14], none⟩] [] [] [4] false [] []
def c106_6 : ACode := .seq c106_7 .ret
def c106_5 : ACode := .cond (.t 9) c106_6 .skip
def c106_3 : ACode := .seq c106_4 c106_5
def c106_9 : ACode := .region false [⟨some 15, .addr 1, [.t 2], none⟩,
  ⟨some 16, .load false 1, [.t 15], none⟩,
  ⟨some 17, .addr 1, [.t 3], none⟩,
  ⟨some 18, .load false 1, [.t 17], none⟩,
  ⟨some 19, .bin .gtr, [.t 16, .t 18], none⟩,
  ⟨some 4, .move, [.t 19], none⟩] [] [] [4] false [] []
def c106_8 : ACode := .seq c106_9 .ret
def c106_2 : ACode := .seq c106_3 c106_8
def c106_0 : ACode := .seq c106_1 c106_2
def code106 : Code := (Tryz.f106.body).getD .skip
theorem c106_ok : compC Tryz.prog 20 code106 = some (strip c106_0) := by kernel_rfl
theorem res106_ok : Tryz.f106.results.toList.mapM (resC Tryz.prog) = some [(4, none)] := by kernel_rfl
/- quidnunc/quidnunclaw04.Of -/
def c107_1 : ACode := .region false [⟨some 1, .box 0, [.t 0], none⟩,
  ⟨some 2, .alloc [(.int .i64 0), (.int .i64 0)], [], none⟩] [] [] [1, 2] true [] []
def c107_3 : ACode := .region false [⟨some 3, .addr 0, [.t 1], none⟩,
  ⟨some 4, .load false 1, [.t 3], none⟩,
  ⟨some 5, .addr 1, [.t 1], none⟩,
  ⟨some 6, .load false 1, [.t 5], none⟩,
  ⟨some 7, .build [(.int .i64 0), (.int .i64 0)] [(0, 1), (1, 1)], [.t 4, .t 6], none⟩,
  ⟨none, .store 2, [.t 2, .t 7], none⟩] [] [] [2] true [] []
def c107_2 : ACode := .seq c107_3 .ret
def c107_0 : ACode := .seq c107_1 c107_2
def code107 : Code := (Tryz.f107.body).getD .skip
theorem c107_ok : compC Tryz.prog 8 code107 = some (strip c107_0) := by kernel_rfl
theorem res107_ok : Tryz.f107.results.toList.mapM (resC Tryz.prog) = some [(2, some (true, 2))] := by kernel_rfl
/- quidnunc/quidnunclaw04.To -/
def c86_1 : ACode := .region false [⟨some 1, .box 0, [.t 0], none⟩,
  ⟨some 2, .alloc [(.int .i64 0), (.int .i64 0)], [], none⟩] [] [] [1, 2] true [] []
def c86_3 : ACode := .region false [⟨some 3, .addr 0, [.t 1], none⟩,
  ⟨some 4, .load false 1, [.t 3], none⟩,
  ⟨some 5, .addr 1, [.t 1], none⟩,
  ⟨some 6, .load false 1, [.t 5], none⟩,
  ⟨some 7, .build [(.int .i64 0), (.int .i64 0)] [(0, 1), (1, 1)], [.t 4, .t 6], none⟩,
  ⟨none, .store 2, [.t 2, .t 7], none⟩] [] [] [2] true [] []
def c86_2 : ACode := .seq c86_3 .ret
def c86_0 : ACode := .seq c86_1 c86_2
def code86 : Code := (Tryz.f86.body).getD .skip
theorem c86_ok : compC Tryz.prog 8 code86 = some (strip c86_0) := by kernel_rfl
theorem res86_ok : Tryz.f86.results.toList.mapM (resC Tryz.prog) = some [(2, some (true, 2))] := by kernel_rfl
/- quidnunc/quidnuncref04.Good -/
def c105_1 : ACode := .region false [⟨some 1, .box 0, [.t 0], none⟩,
  ⟨some 2, .move, [.c (.val (.bool false))], none⟩] [] [] [1] true [] []
def c105_3 : ACode := .region false [⟨some 3, .addr 0, [.t 1], none⟩,
  ⟨some 4, .load false 1, [.t 3], none⟩,
  ⟨some 5, .bin .geq, [.t 4, .c (.val (.int .i64 1))], none⟩,
  ⟨some 6, .move, [.t 5], none⟩,
  ⟨some 7, .addr 0, [.t 1], some (some 6, true)⟩,
  ⟨some 8, .load false 1, [.t 7], some (some 6, true)⟩,
  ⟨some 9, .bin .leq, [.t 8, .c (.val (.int .i64 4294967295))], some (some 6, true)⟩,
  ⟨some 10, .pick, [.t 6, .t 9, .c (.val (.bool false))], none⟩,
  ⟨some 11, .move, [.t 10], none⟩,
  ⟨some 12, .addr 1, [.t 1], some (some 11, true)⟩,
  ⟨some 13, .load false 1, [.t 12], some (some 11, true)⟩,
  ⟨some 14, .call 45, [.t 13], some (some 11, true)⟩,
  ⟨some 15, .pick, [.t 11, .t 14, .c (.val (.bool false))], none⟩,
  ⟨some 2, .move, [.t 15], none⟩] [] [] [2] true [] []
def c105_2 : ACode := .seq c105_3 .ret
def c105_0 : ACode := .seq c105_1 c105_2
def code105 : Code := (Tryz.f105.body).getD .skip
theorem c105_ok : compC Tryz.prog 16 code105 = some (strip c105_0) := by kernel_rfl
theorem res105_ok : Tryz.f105.results.toList.mapM (resC Tryz.prog) = some [(2, none)] := by kernel_rfl
/- quidnunc/stamp.Good -/
def c115_1 : ACode := .region false [⟨some 1, .box 0, [.t 0], none⟩,
  ⟨some 2, .move, [.c (.val (.bool false))], none⟩] [] [] [1] true [] []
def c115_3 : ACode := .region false [⟨some 3, .addr 0, [.t 1], none⟩,
  ⟨some 4, .load false 1, [.t 3], none⟩,
  ⟨some 5, .bin .geq, [.t 4, .c (.val (.int .i64 1))], none⟩,
  ⟨some 6, .move, [.t 5], none⟩,
  ⟨some 7, .addr 0, [.t 1], some (some 6, true)⟩,
  ⟨some 8, .load false 1, [.t 7], some (some 6, true)⟩,
  ⟨some 9, .bin .leq, [.t 8, .c (.val (.int .i64 4294967295))], some (some 6, true)⟩,
  ⟨some 10, .pick, [.t 6, .t 9, .c (.val (.bool false))], none⟩,
  ⟨some 11, .move, [.t 10], none⟩,
  ⟨some 12, .addr 1, [.t 1], some (some 11, true)⟩,
  ⟨some 13, .load false 1, [.t 12], some (some 11, true)⟩,
  ⟨some 14, .bin .geq, [.t 13, .c (.val (.int .i64 0))], some (some 11, true)⟩,
  ⟨some 15, .pick, [.t 11, .t 14, .c (.val (.bool false))], none⟩,
  ⟨some 16, .move, [.t 15], none⟩,
  ⟨some 17, .addr 1, [.t 1], some (some 16, true)⟩,
  ⟨some 18, .load false 1, [.t 17], some (some 16, true)⟩,
  ⟨some 19, .bin .lss, [.t 18, .c (.val (.int .i64 12))], some (some 16, true)⟩,
  ⟨some 20, .pick, [.t 16, .t 19, .c (.val (.bool false))], none⟩,
  ⟨some 2, .move, [.t 20], none⟩] [] [] [2] false [] []
def c115_2 : ACode := .seq c115_3 .ret
def c115_0 : ACode := .seq c115_1 c115_2
def code115 : Code := (Tryz.f115.body).getD .skip
theorem c115_ok : compC Tryz.prog 21 code115 = some (strip c115_0) := by kernel_rfl
theorem res115_ok : Tryz.f115.results.toList.mapM (resC Tryz.prog) = some [(2, none)] := by kernel_rfl
def cmpI (x y : Int) : Int := if x < y then -1 else if y < x then 1 else 0
theorem isNaN_any (a : Int) : ACall Tryz.prog 146 [I a] [] (Det (Bo false) []) := by
  refine ACall.startA c146_ok Tryz.func146 rfl Tryz.ntmps146 (by kernel_rfl) res146_ok rfl rfl rfl ?_; simp (maxSteps := 9999999) (disch := omega) only [go_sem]
  (have k9 := k0; refine goK ?_; (try clear k9))
  (have k9 := k0; exact Ret.dk [])
  all_goals (simp)
theorem cmp_any (a b : Int) : ACall Tryz.prog 144 [I a, I b] [] (Det (I (cmpI a b)) []) := by
  refine ACall.startA c144_ok Tryz.func144 rfl Tryz.ntmps144 (by kernel_rfl) res144_ok rfl rfl rfl ?_; simp (maxSteps := 9999999) (disch := omega) only [go_sem]
  (have k9 := k0; (repeat' (first | refine goM ?_ | ((first | refine CallG.pg [] (isNaN_any _) ?_ | refine CallG.dg [] (isNaN_any _) ?_); refine goJ ?_) | ((first | refine CondP.split (fun hif => ?_) (fun hif => ?_) | refine Runs.part (fun hif => ?_) (fun hif => ?_)) <;> ((try simp only [BL] at hif); first | (exfalso; omega; done) | refine goI ?_)))); (all_goals (try clear k9)))
  all_goals
    (apply Ret.det []; (focus (first | exact .inl rfl | exact .inr rfl)); (focus (simp (maxSteps := 9999999) (disch := omega) only [go_sem]; rfl)); (simp (maxSteps := 9999999) (disch := omega) only [go_sem]; (try (repeat' (first | done | trivial | rfl | exact leAs_rfl _ | decide | (refine And.intro ?_ ?_) | (simp; done) | omega | (simp; decide))))))
    all_goals (simp [cmpI, *])
/-- A stamp. -/
structure St where
  c : Int
  s : Int
abbrev StA (x : St) : AV := .agg [I x.c, I x.s]
def siteB (n : Int) : Bool := decide (0 ≤ n) && decide (n < 12)
def goodB (s : St) : Bool := decide (1 ≤ s.c) && (decide (s.c ≤ 4294967295) && (decide (0 ≤ s.s) && decide (s.s < 12)))
def laterB (a b : St) : Bool := if a.c ≠ b.c then decide (b.c < a.c) else decide (b.s < a.s)
theorem site_any (n : Int) : ACall Tryz.prog 45 [I n] [] (Det (Bo (siteB n)) []) := by
  refine ACall.startA c45_ok Tryz.func45 rfl Tryz.ntmps45 (by kernel_rfl) res45_ok rfl rfl rfl ?_; simp (maxSteps := 9999999) (disch := omega) only [go_sem]
  (have k9 := k0; (repeat' (first | refine goM ?_ | ((first | refine CondP.split (fun hif => ?_) (fun hif => ?_) | refine Runs.part (fun hif => ?_) (fun hif => ?_)) <;> ((try simp only [BL] at hif); first | (exfalso; omega; done) | refine goI ?_)))); (all_goals (try clear k9)))
  all_goals
    (apply Ret.det []; (focus (first | exact .inl rfl | exact .inr rfl)); (focus (simp (maxSteps := 9999999) (disch := omega) only [go_sem]; rfl)); (simp (maxSteps := 9999999) (disch := omega) only [go_sem]; (try (repeat' (first | done | trivial | rfl | exact leAs_rfl _ | decide | (refine And.intro ?_ ?_) | (simp; done) | omega | (simp; decide))))))
    all_goals (simp_all [siteB]; try omega)
theorem later_any (a b : St) : ACall Tryz.prog 106 [StA a, StA b] [] (Det (Bo (laterB a b)) []) := by
  refine ACall.startA c106_ok Tryz.func106 rfl Tryz.ntmps106 (by kernel_rfl) res106_ok rfl rfl rfl ?_; simp (maxSteps := 9999999) (disch := omega) only [go_sem]
  (have k9 := k0; (repeat' (first | refine goM ?_ | ((first | refine CondP.split (fun hif => ?_) (fun hif => ?_) | refine Runs.part (fun hif => ?_) (fun hif => ?_)) <;> ((try simp only [BL] at hif); first | (exfalso; omega; done) | refine goI ?_)))); (all_goals (try clear k9)))
  all_goals
    (apply Ret.det []; (focus (first | exact .inl rfl | exact .inr rfl)); (focus (simp (maxSteps := 9999999) (disch := omega) only [go_sem]; rfl)); (simp (maxSteps := 9999999) (disch := omega) only [go_sem]; (try (repeat' (first | done | trivial | rfl | exact leAs_rfl _ | decide | (refine And.intro ?_ ?_) | (simp; done) | omega | (simp; decide))))))
    all_goals (simp [laterB, *])
theorem of04_any (a : St) : ACall Tryz.prog 107 [StA a] [] (Det (StA a) []) := by
  refine ACall.startA c107_ok Tryz.func107 rfl Tryz.ntmps107 (by kernel_rfl) res107_ok rfl rfl rfl ?_; simp (maxSteps := 9999999) (disch := omega) only [go_sem]
  (have k9 := k0; (repeat' (first | refine goM ?_ | ((first | refine CondP.split (fun hif => ?_) (fun hif => ?_) | refine Runs.part (fun hif => ?_) (fun hif => ?_)) <;> ((try simp only [BL] at hif); first | (exfalso; omega; done) | refine goI ?_)))); (all_goals (try clear k9)))
  all_goals
    (have k9 := k0; exact Ret.dk [])
theorem to04_any (a : St) : ACall Tryz.prog 86 [StA a] [] (Det (StA a) []) := by
  refine ACall.startA c86_ok Tryz.func86 rfl Tryz.ntmps86 (by kernel_rfl) res86_ok rfl rfl rfl ?_; simp (maxSteps := 9999999) (disch := omega) only [go_sem]
  (have k9 := k0; (repeat' (first | refine goM ?_ | ((first | refine CondP.split (fun hif => ?_) (fun hif => ?_) | refine Runs.part (fun hif => ?_) (fun hif => ?_)) <;> ((try simp only [BL] at hif); first | (exfalso; omega; done) | refine goI ?_)))); (all_goals (try clear k9)))
  all_goals
    (have k9 := k0; exact Ret.dk [])
theorem rgood_any (s : St) : ACall Tryz.prog 105 [StA s] [] (Det (Bo (goodB s)) []) := by
  refine ACall.startA c105_ok Tryz.func105 rfl Tryz.ntmps105 (by kernel_rfl) res105_ok rfl rfl rfl ?_; simp (maxSteps := 9999999) (disch := omega) only [go_sem]
  (have k9 := k0; (repeat' (first | refine goM ?_ | ((first | refine CallG.pg [] (site_any _) ?_ | refine CallG.dg [] (site_any _) ?_); refine goJ ?_) | ((first | refine CondP.split (fun hif => ?_) (fun hif => ?_) | refine Runs.part (fun hif => ?_) (fun hif => ?_)) <;> ((try simp only [BL] at hif); first | (exfalso; omega; done) | refine goI ?_)))); (all_goals (try clear k9)))
  all_goals
    (apply Ret.det []; (focus (first | exact .inl rfl | exact .inr rfl)); (focus (simp (maxSteps := 9999999) (disch := omega) only [go_sem]; rfl)); (simp (maxSteps := 9999999) (disch := omega) only [go_sem]; (try (repeat' (first | done | trivial | rfl | exact leAs_rfl _ | decide | (refine And.intro ?_ ?_) | (simp; done) | omega | (simp; decide))))))
    all_goals (simp_all [goodB, siteB]; try omega)
theorem good_any (s : St) : ACall Tryz.prog 115 [StA s] [] (Det (Bo (goodB s)) []) := by
  refine ACall.startA c115_ok Tryz.func115 rfl Tryz.ntmps115 (by kernel_rfl) res115_ok rfl rfl rfl ?_; simp (maxSteps := 9999999) (disch := omega) only [go_sem]
  (have k9 := k0; (repeat' (first | refine goM ?_ | ((first | refine CallG.pg [] (site_any _) ?_ | refine CallG.dg [] (site_any _) ?_); refine goJ ?_) | ((first | refine CondP.split (fun hif => ?_) (fun hif => ?_) | refine Runs.part (fun hif => ?_) (fun hif => ?_)) <;> ((try simp only [BL] at hif); first | (exfalso; omega; done) | refine goI ?_)))); (all_goals (try clear k9)))
  all_goals
    (apply Ret.det []; (focus (first | exact .inl rfl | exact .inr rfl)); (focus (simp (maxSteps := 9999999) (disch := omega) only [go_sem]; rfl)); (simp (maxSteps := 9999999) (disch := omega) only [go_sem]; (try (repeat' (first | done | trivial | rfl | exact leAs_rfl _ | decide | (refine And.intro ?_ ?_) | (simp; done) | omega | (simp; decide))))))
    all_goals (simp_all [goodB]; try omega)
/- cmp.Or[int] -/
def c143_1 : ACode := .region false [⟨some 2, .move, [.c (.val (.int .i64 0))], none⟩] [] [] [0] false [] []
def c143_3 : ACode := .region false [⟨some 3, .move, [.c (.val (.int .i64 0))], none⟩] [] [] [0, 3] false [] []
def c143_6 : ACode := .region false [⟨some 6, .move, [.t 0], none⟩,
  ⟨some 7, .len, [.t 6], none⟩,
  ⟨some 8, .move, [.c (.val (.int .i64 0))], none⟩] [] [] [3, 6, 7, 8] false [] []
def c143_10 : ACode := .region false [⟨some 9, .bin .lss, [.t 8, .t 7], none⟩] [] [] [3, 6, 7, 8, 9] false [] []
def c143_12 : ACode := .cond (.t 9) .skip (.exit 0)
def c143_16 : ACode := .region false [⟨some 10, .ixS 1, [.t 6, .t 8], none⟩,
  ⟨some 11, .load false 1, [.t 10], none⟩,
  ⟨some 5, .move, [.t 11], none⟩] [] [] [3, 5, 6, 7, 8] false [] []
def c143_18 : ACode := .region false [⟨some 12, .move, [.t 5], none⟩,
  ⟨some 13, .move, [.t 3], none⟩,
  ⟨some 14, .bin .neq, [.t 12, .t 13], none⟩] [] [] [3, 5, 6, 7, 8, 14] false [] []
def c143_21 : ACode := .region false [⟨some 15, .move, [.t 5], none⟩,
  ⟨some 2, .move, [.t 15], none⟩] [] [] [2] false [] []
def c143_20 : ACode := .seq c143_21 .ret
def c143_19 : ACode := .cond (.t 14) c143_20 .skip
def c143_17 : ACode := .seq c143_18 c143_19
def c143_15 : ACode := .seq c143_16 c143_17
def c143_14 : ACode := .block 1 c143_15
def c143_22 : ACode := .region false [⟨some 16, .bin .add, [.t 8, .c (.val (.int .i64 1))], none⟩,
  ⟨some 8, .move, [.t 16], none⟩] [] [] [3, 6, 7, 8] false [] []
def c143_13 : ACode := .seq c143_14 c143_22
def c143_11 : ACode := .seq c143_12 c143_13
def c143_9 : ACode := .seq c143_10 c143_11
def c143_8 : ACode := .loop c143_9
def c143_7 : ACode := .block 0 c143_8
def c143_5 : ACode := .seq c143_6 c143_7
def c143_24 : ACode := .region false [⟨some 17, .move, [.t 3], none⟩,
  ⟨some 2, .move, [.t 17], none⟩] [] [] [2] false [] []
def c143_23 : ACode := .seq c143_24 .ret
def c143_4 : ACode := .seq c143_5 c143_23
def c143_2 : ACode := .seq c143_3 c143_4
def c143_0 : ACode := .seq c143_1 c143_2
def code143 : Code := (Tryz.f143.body).getD .skip
theorem c143_ok : compC Tryz.prog 18 code143 = some (strip c143_0) := by kernel_rfl
theorem res143_ok : Tryz.f143.results.toList.mapM (resC Tryz.prog) = some [(2, none)] := by kernel_rfl
/- quidnunc/stamp.Compare -/
def c139_1 : ACode := .region false [⟨some 2, .box 0, [.t 0], none⟩,
  ⟨some 3, .box 0, [.t 1], none⟩,
  ⟨some 4, .move, [.c (.val (.int .i64 0))], none⟩] [] [] [2, 3] true [] []
def c139_3 : ACode := .region true [⟨some 5, .addr 0, [.t 2], none⟩,
  ⟨some 6, .load false 1, [.t 5], none⟩,
  ⟨some 7, .addr 0, [.t 3], none⟩,
  ⟨some 8, .load false 1, [.t 7], none⟩,
  ⟨some 9, .call 144, [.t 6, .t 8], none⟩,
  ⟨some 10, .addr 1, [.t 2], none⟩,
  ⟨some 11, .load false 1, [.t 10], none⟩,
  ⟨some 12, .addr 1, [.t 3], none⟩,
  ⟨some 13, .load false 1, [.t 12], none⟩,
  ⟨some 14, .call 144, [.t 11, .t 13], none⟩,
  ⟨some 15, .buildSl 1 2 [(.int .i64 0)] [(0, 1), (1, 1)], [.t 9, .t 14], none⟩,
  ⟨some 16, .call 143, [.t 15], none⟩,
  ⟨some 4, .move, [.t 16], none⟩] [] [] [4] true [] []
def c139_2 : ACode := .seq c139_3 .ret
def c139_0 : ACode := .seq c139_1 c139_2
def code139 : Code := (Tryz.f139.body).getD .skip
theorem c139_ok : compC Tryz.prog 17 code139 = some (strip c139_0) := by kernel_rfl
theorem res139_ok : Tryz.f139.results.toList.mapM (resC Tryz.prog) = some [(4, none)] := by kernel_rfl
def orI (x y : Int) : Int := if x = 0 then y else x
theorem or_any (a b : Int) : ACall Tryz.prog 143 [.sl 0 0 2 1 (some 2)] [.cells true [I a, I b]] (Det (I (orI a b)) [.cells true [I a, I b]]) := by
  refine ACall.startA c143_ok Tryz.func143 rfl Tryz.ntmps143 (by kernel_rfl) res143_ok rfl rfl rfl ?_; simp (maxSteps := 9999999) (disch := omega) only [go_sem]
  (have k9 := k0; (repeat' (first | refine goM ?_ | ((first | refine CondP.split (fun hif => ?_) (fun hif => ?_) | refine Runs.part (fun hif => ?_) (fun hif => ?_)) <;> ((try simp only [BL] at hif); first | (exfalso; omega; done) | refine goI ?_)))); (all_goals (try clear k9)))
  refine AWpA.rounds 3 ?_
  (have k9 := k0; (repeat' (first | refine goM ?_ | ((first | refine CondP.split (fun hif => ?_) (fun hif => ?_) | refine Runs.part (fun hif => ?_) (fun hif => ?_)) <;> ((try simp only [BL] at hif); first | (exfalso; omega; done) | refine goI ?_)))); (all_goals (try clear k9)))
  all_goals
    (apply Ret.det [0]; (focus (first | exact .inl rfl | exact .inr rfl)); (focus (simp (maxSteps := 9999999) (disch := omega) only [go_sem]; rfl)); (simp (maxSteps := 9999999) (disch := omega) only [go_sem]; (try (repeat' (first | done | trivial | rfl | exact leAs_rfl _ | decide | (refine And.intro ?_ ?_) | (simp; done) | omega | (simp; decide))))))
    all_goals (simp_all [orI])
def cmpS (a b : St) : Int := orI (cmpI a.c b.c) (cmpI a.s b.s)
theorem compare_any (a b : St) : ACall Tryz.prog 139 [StA a, StA b] [] (Det (I (cmpS a b)) []) := by
  refine ACall.startA c139_ok Tryz.func139 rfl Tryz.ntmps139 (by kernel_rfl) res139_ok rfl rfl rfl ?_; simp (maxSteps := 9999999) (disch := omega) only [go_sem]
  (have k9 := k0; (repeat' (first | refine goM ?_ | ((first | refine CallG.pg [] (cmp_any _ _) ?_ | refine CallG.pg [_] (or_any _ _) ?_ | refine CallG.dg [] (cmp_any _ _) ?_ | refine CallG.dg [_] (or_any _ _) ?_); refine goJ ?_) | ((first | refine CondP.split (fun hif => ?_) (fun hif => ?_) | refine Runs.part (fun hif => ?_) (fun hif => ?_)) <;> ((try simp only [BL] at hif); first | (exfalso; omega; done) | refine goI ?_)))); (all_goals (try clear k9)))
  all_goals
    (have k9 := k0; exact Ret.dk [])
    all_goals (simp [cmpS])
end
end Go.Proofs.YtopidfkmligljaaGreat
