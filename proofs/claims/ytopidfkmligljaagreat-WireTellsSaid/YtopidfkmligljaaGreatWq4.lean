/- Contracts: a message without its fields; nodes, marks and entries that may be. -/
import Derived.Test.YtopidfkmligljaaGreatWq3
namespace Go.Proofs.YtopidfkmligljaaGreat
noncomputable section
set_option linter.unusedSimpArgs false
set_option linter.unusedVariables false
set_option maxHeartbeats 4000000
open Go Go.Am Go.RowKit
set_option maxRecDepth 100000
set_option maxHeartbeats 8000000
/-- A slice, or none. -/
abbrev psA (g : Bool) (i a n : Nat) : AV := cond g (.val (.slice none 0 0)) (.sl i a n 1 none)
abbrev WbL (x : Wm) (g : Bool) (i a j b k c : Nat) : List AV := [I x.kind, I x.peer, I x.hops, Bo x.high, psA g i a x.peers.length, I x.num, U64 x.sum, I x.mark.act.c, I x.mark.act.s, Str x.mark.key, .sl j b x.marks.length 3 none, .sl k c x.ents.length 9 none]
abbrev OB (x : Wm) (g : Bool) (a b c : Nat) : List AObj := [.cells false (WbL x g 1 a 2 b 3 c), .cells true (Ri a x.peers), .cells true (Rm b x.marks), .cells true (Re c x.ents)]
/- quidnunc/wire.bare$1 -/
def c108_0 : ACode := .region false [⟨some 1, .addr 1, [.t 0], none⟩,
  ⟨none, .store 1, [.t 1, .c (.val (.int .i64 0))], none⟩] [] [] [] true [] []
def code108 : Code := (Tryz.f108.body).getD .skip
theorem c108_ok : compC Tryz.prog 2 code108 = some (strip c108_0) := by kernel_rfl
theorem res108_ok : Tryz.f108.results.toList.mapM (resC Tryz.prog) = some [] := by kernel_rfl
/- quidnunc/wire.bare$2 -/
def c109_0 : ACode := .region false [⟨some 1, .addr 2, [.t 0], none⟩,
  ⟨none, .store 1, [.t 1, .c (.val (.int .i64 0))], none⟩] [] [] [] true [] []
def code109 : Code := (Tryz.f109.body).getD .skip
theorem c109_ok : compC Tryz.prog 2 code109 = some (strip c109_0) := by kernel_rfl
theorem res109_ok : Tryz.f109.results.toList.mapM (resC Tryz.prog) = some [] := by kernel_rfl
/- quidnunc/wire.bare$3 -/
def c110_0 : ACode := .region false [⟨some 1, .addr 3, [.t 0], none⟩,
  ⟨none, .store 1, [.t 1, .c (.val (.bool false))], none⟩] [] [] [] true [] []
def code110 : Code := (Tryz.f110.body).getD .skip
theorem c110_ok : compC Tryz.prog 2 code110 = some (strip c110_0) := by kernel_rfl
theorem res110_ok : Tryz.f110.results.toList.mapM (resC Tryz.prog) = some [] := by kernel_rfl
/- quidnunc/wire.bare$4 -/
def c111_0 : ACode := .region false [⟨some 1, .addr 4, [.t 0], none⟩,
  ⟨none, .store 1, [.t 1, .c (.val (.slice none 0 0))], none⟩] [] [] [] true [] []
def code111 : Code := (Tryz.f111.body).getD .skip
theorem c111_ok : compC Tryz.prog 2 code111 = some (strip c111_0) := by kernel_rfl
theorem res111_ok : Tryz.f111.results.toList.mapM (resC Tryz.prog) = some [] := by kernel_rfl
/- quidnunc/wire.bare$5 -/
def c112_0 : ACode := .region false [⟨some 1, .addr 5, [.t 0], none⟩,
  ⟨none, .store 1, [.t 1, .c (.val (.int .i64 0))], none⟩] [] [] [] true [] []
def code112 : Code := (Tryz.f112.body).getD .skip
theorem c112_ok : compC Tryz.prog 2 code112 = some (strip c112_0) := by kernel_rfl
theorem res112_ok : Tryz.f112.results.toList.mapM (resC Tryz.prog) = some [] := by kernel_rfl
/- quidnunc/wire.bare$6 -/
def c113_0 : ACode := .region false [⟨some 1, .addr 6, [.t 0], none⟩,
  ⟨none, .store 1, [.t 1, .c (.val (.int .u64 0))], none⟩] [] [] [] true [] []
def code113 : Code := (Tryz.f113.body).getD .skip
theorem c113_ok : compC Tryz.prog 2 code113 = some (strip c113_0) := by kernel_rfl
theorem res113_ok : Tryz.f113.results.toList.mapM (resC Tryz.prog) = some [] := by kernel_rfl
/- quidnunc/wire.bare$7 -/
def c114_0 : ACode := .region false [⟨some 1, .build [(.int .i64 0), (.int .i64 0), (.string ⟨#[]⟩)] [], [], none⟩,
  ⟨some 2, .addr 7, [.t 0], none⟩,
  ⟨none, .store 3, [.t 2, .t 1], none⟩] [] [] [] true [] []
def code114 : Code := (Tryz.f114.body).getD .skip
theorem c114_ok : compC Tryz.prog 3 code114 = some (strip c114_0) := by kernel_rfl
theorem res114_ok : Tryz.f114.results.toList.mapM (resC Tryz.prog) = some [] := by kernel_rfl
/- quidnunc/wire.bare -/
def c50_1 : ACode := .region false [⟨some 2, .box 0, [.t 0], none⟩,
  ⟨some 4, .alloc [(.int .i64 0), (.int .i64 0), (.int .i64 0), (.bool false), (.slice none 0 0), (.int .i64 0), (.int .u64 0), (.int .i64 0), (.int .i64 0), (.string ⟨#[]⟩), (.slice none 0 0), (.slice none 0 0)], [], none⟩] [] [] [1, 2, 4] true [] []
def c50_3 : ACode := .region false [⟨some 8, .load true 12, [.t 2], none⟩,
  ⟨some 5, .alloc [(.int .i64 0), (.int .i64 0), (.int .i64 0), (.bool false), (.slice none 0 0), (.int .i64 0), (.int .u64 0), (.int .i64 0), (.int .i64 0), (.string ⟨#[]⟩), (.slice none 0 0), (.slice none 0 0)], [], none⟩,
  ⟨none, .store 12, [.t 5, .t 8], none⟩] [] [] [1, 4, 5] true [] []
def c50_6 : ACode := .region false [⟨some 9, .mkFn 108 0, [.t 5], none⟩,
  ⟨some 10, .build [(.int .i64 0), .nilFunc] [(0, 1), (1, 1)], [.c (.val (.int .i64 1)), .t 9], none⟩,
  ⟨some 11, .mkFn 109 0, [.t 5], none⟩,
  ⟨some 12, .build [(.int .i64 0), .nilFunc] [(0, 1), (1, 1)], [.c (.val (.int .i64 2)), .t 11], none⟩,
  ⟨some 13, .mkFn 110 0, [.t 5], none⟩,
  ⟨some 14, .build [(.int .i64 0), .nilFunc] [(0, 1), (1, 1)], [.c (.val (.int .i64 4)), .t 13], none⟩,
  ⟨some 15, .mkFn 111 0, [.t 5], none⟩,
  ⟨some 16, .build [(.int .i64 0), .nilFunc] [(0, 1), (1, 1)], [.c (.val (.int .i64 8)), .t 15], none⟩,
  ⟨some 17, .mkFn 112 0, [.t 5], none⟩,
  ⟨some 18, .build [(.int .i64 0), .nilFunc] [(0, 1), (1, 1)], [.c (.val (.int .i64 16)), .t 17], none⟩,
  ⟨some 19, .mkFn 113 0, [.t 5], none⟩,
  ⟨some 20, .build [(.int .i64 0), .nilFunc] [(0, 1), (1, 1)], [.c (.val (.int .i64 32)), .t 19], none⟩,
  ⟨some 21, .mkFn 114 0, [.t 5], none⟩,
  ⟨some 22, .build [(.int .i64 0), .nilFunc] [(0, 1), (1, 1)], [.c (.val (.int .i64 64)), .t 21], none⟩,
  ⟨some 23, .buildSl 2 7 [(.int .i64 0), .nilFunc] [(0, 2), (2, 2), (4, 2), (6, 2), (8, 2), (10, 2), (12, 2)], [.t 10, .t 12, .t 14, .t 16, .t 18, .t 20, .t 22], none⟩,
  ⟨some 24, .len, [.t 23], none⟩,
  ⟨some 25, .move, [.c (.val (.int .i64 0))], none⟩] [] [] [1, 4, 5, 23, 24, 25] true [] []
def c50_10 : ACode := .region false [⟨some 26, .bin .lss, [.t 25, .t 24], none⟩] [] [] [1, 4, 5, 23, 24, 25, 26] false [] []
def c50_12 : ACode := .cond (.t 26) .skip (.exit 0)
def c50_16 : ACode := .region false [⟨some 27, .ixS 2, [.t 23, .t 25], none⟩,
  ⟨some 28, .load true 2, [.t 27], none⟩,
  ⟨some 7, .alloc [(.int .i64 0), .nilFunc], [], none⟩,
  ⟨none, .store 2, [.t 7, .t 28], none⟩] [] [] [1, 4, 5, 7, 23, 24, 25] true [] []
def c50_18 : ACode := .region false [⟨some 29, .move, [.t 1], none⟩,
  ⟨some 30, .addr 0, [.t 7], none⟩,
  ⟨some 31, .load false 1, [.t 30], none⟩,
  ⟨some 32, .bin .and, [.t 29, .t 31], none⟩,
  ⟨some 33, .bin .neq, [.t 32, .c (.val (.int .i64 0))], none⟩] [] [] [1, 4, 5, 7, 23, 24, 25, 33] false [] []
def c50_20 : ACode := .region false [⟨some 34, .addr 1, [.t 7], none⟩,
  ⟨some 35, .load false 1, [.t 34], none⟩,
  ⟨some 36, .callv, [.t 35], none⟩] [] [] [1, 4, 5, 23, 24, 25] true [] []
def c50_19 : ACode := .cond (.t 33) c50_20 .skip
def c50_17 : ACode := .seq c50_18 c50_19
def c50_15 : ACode := .seq c50_16 c50_17
def c50_14 : ACode := .block 1 c50_15
def c50_21 : ACode := .region false [⟨some 37, .bin .add, [.t 25, .c (.val (.int .i64 1))], none⟩,
  ⟨some 25, .move, [.t 37], none⟩] [] [] [1, 4, 5, 23, 24, 25] false [] []
def c50_13 : ACode := .seq c50_14 c50_21
def c50_11 : ACode := .seq c50_12 c50_13
def c50_9 : ACode := .seq c50_10 c50_11
def c50_8 : ACode := .loop c50_9
def c50_7 : ACode := .block 0 c50_8
def c50_5 : ACode := .seq c50_6 c50_7
def c50_23 : ACode := .region false [⟨some 38, .addr 10, [.t 5], none⟩,
  ⟨none, .store 1, [.t 38, .c (.val (.slice none 0 0))], none⟩,
  ⟨some 39, .addr 11, [.t 5], none⟩,
  ⟨none, .store 1, [.t 39, .c (.val (.slice none 0 0))], none⟩] [] [] [4, 5] true [] []
def c50_25 : ACode := .region false [⟨some 40, .load true 12, [.t 5], none⟩,
  ⟨none, .store 12, [.t 4, .t 40], none⟩] [] [] [4] true [] []
def c50_24 : ACode := .seq c50_25 .ret
def c50_22 : ACode := .seq c50_23 c50_24
def c50_4 : ACode := .seq c50_5 c50_22
def c50_2 : ACode := .seq c50_3 c50_4
def c50_0 : ACode := .seq c50_1 c50_2
def code50 : Code := (Tryz.f50.body).getD .skip
theorem c50_ok : compC Tryz.prog 41 code50 = some (strip c50_0) := by kernel_rfl
theorem res50_ok : Tryz.f50.results.toList.mapM (resC Tryz.prog) = some [(4, some (true, 12))] := by kernel_rfl
/- quidnunc/wire.node -/
def c51_1 : ACode := .region false [⟨some 2, .move, [.c (.val (.bool false))], none⟩] [] [] [0] false [] []
def c51_3 : ACode := .region false [⟨some 3, .move, [.t 0], none⟩,
  ⟨some 4, .bin .geq, [.t 3, .c (.val (.int .i64 0))], none⟩,
  ⟨some 5, .move, [.t 4], none⟩,
  ⟨some 6, .move, [.t 0], some (some 5, true)⟩,
  ⟨some 7, .bin .lss, [.t 6, .c (.val (.int .i64 12))], some (some 5, true)⟩,
  ⟨some 8, .pick, [.t 5, .t 7, .c (.val (.bool false))], none⟩,
  ⟨some 2, .move, [.t 8], none⟩] [] [] [2] false [] []
def c51_2 : ACode := .seq c51_3 .ret
def c51_0 : ACode := .seq c51_1 c51_2
def code51 : Code := (Tryz.f51.body).getD .skip
theorem c51_ok : compC Tryz.prog 9 code51 = some (strip c51_0) := by kernel_rfl
theorem res51_ok : Tryz.f51.results.toList.mapM (resC Tryz.prog) = some [(2, none)] := by kernel_rfl
/- quidnunc/wire.goodMark -/
def c52_1 : ACode := .region false [⟨some 1, .box 0, [.t 0], none⟩,
  ⟨some 2, .move, [.c (.val (.bool false))], none⟩] [] [] [1] true [] []
def c52_3 : ACode := .region false [⟨some 3, .addr 0, [.t 1], none⟩,
  ⟨some 4, .load true 2, [.t 3], none⟩,
  ⟨some 5, .call 115, [.t 4], none⟩,
  ⟨some 6, .move, [.t 5], none⟩,
  ⟨some 7, .addr 2, [.t 1], some (some 6, true)⟩,
  ⟨some 8, .load false 1, [.t 7], some (some 6, true)⟩,
  ⟨some 9, .lenStr, [.t 8], some (some 6, true)⟩,
  ⟨some 10, .bin .geq, [.t 9, .c (.val (.int .i64 1))], some (some 6, true)⟩,
  ⟨some 11, .pick, [.t 6, .t 10, .c (.val (.bool false))], none⟩,
  ⟨some 12, .move, [.t 11], none⟩,
  ⟨some 13, .addr 2, [.t 1], some (some 12, true)⟩,
  ⟨some 14, .load false 1, [.t 13], some (some 12, true)⟩,
  ⟨some 15, .lenStr, [.t 14], some (some 12, true)⟩,
  ⟨some 16, .bin .leq, [.t 15, .c (.val (.int .i64 16))], some (some 12, true)⟩,
  ⟨some 17, .pick, [.t 12, .t 16, .c (.val (.bool false))], none⟩,
  ⟨some 2, .move, [.t 17], none⟩] [] [] [2] true [] []
def c52_2 : ACode := .seq c52_3 .ret
def c52_0 : ACode := .seq c52_1 c52_2
def code52 : Code := (Tryz.f52.body).getD .skip
theorem c52_ok : compC Tryz.prog 18 code52 = some (strip c52_0) := by kernel_rfl
theorem res52_ok : Tryz.f52.results.toList.mapM (resC Tryz.prog) = some [(2, none)] := by kernel_rfl
/- quidnunc/wire.goodEntry -/
def c56_1 : ACode := .region false [⟨some 1, .box 0, [.t 0], none⟩,
  ⟨some 2, .move, [.c (.val (.bool false))], none⟩] [] [] [1] true [] []
def c56_3 : ACode := .region false [⟨some 3, .load true 9, [.t 1], none⟩,
  ⟨some 4, .call 122, [.t 3], none⟩,
  ⟨some 5, .bin .eql, [.t 4, .c (.val (.int .i64 0))], none⟩,
  ⟨some 2, .move, [.t 5], none⟩] [] [] [2] true [] []
def c56_2 : ACode := .seq c56_3 .ret
def c56_0 : ACode := .seq c56_1 c56_2
def code56 : Code := (Tryz.f56.body).getD .skip
theorem c56_ok : compC Tryz.prog 6 code56 = some (strip c56_0) := by kernel_rfl
theorem res56_ok : Tryz.f56.results.toList.mapM (resC Tryz.prog) = some [(2, none)] := by kernel_rfl
theorem node_any (n : Int) : ACall Tryz.prog 51 [I n] [] (Det (Bo (nodeB n)) []) := by
  refine ACall.startA c51_ok Tryz.func51 rfl Tryz.ntmps51 (by kernel_rfl) res51_ok rfl rfl rfl ?_; simp (maxSteps := 9999999) (disch := omega) only [go_sem]
  (have k9 := k0; (repeat' (first | refine AWpA.seq ?_ | refine AWpA.block ?_ | (with_reducible refine CondP.tt ?_) | (with_reducible refine CondP.ff ?_) | refine AWpA.cg ?_ | ((first | refine AWpA.rg ?_ | refine AWpA.dg [] [] follows ?_ | refine TailK.tg ?_ | refine AWpA.skip ?_ | refine AWpA.exit ?_ | refine AWpA.ret ?_ | (with_reducible refine ARoundsA.succ ?_) | ((first | refine Runs.gkt (fun h9 => ?_) | refine Runs.gkf (fun h9 => ?_) | refine Runs.gnt (fun h9 => ?_) | refine Runs.gnf (fun h9 => ?_) | refine CondP.gt (fun h9 => ?_) | refine CondP.gf (fun h9 => ?_) | refine CondP.gnt (fun h9 => ?_) | refine CondP.gnf (fun h9 => ?_)); (try simp only [h9]); clear h9)); (try simp (maxSteps := 9999999) (disch := omega) only [go_sem, k9]); (try refine cnd ?_)) | ((first | refine CondP.split (fun hif => ?_) (fun hif => ?_) | refine Runs.part (fun hif => ?_) (fun hif => ?_)) <;> ((try simp only [hif]); (try simp only [BL] at hif); (try (have h9 : _ = true := hif; simp only [h9])); (try (have h9 : _ = false := hif; simp only [h9])); (try simp (maxSteps := 9999999) (disch := omega) only [go_sem, k9]); (try refine cnd ?_); (try (exfalso; omega; done)))))); (all_goals (try clear k9)))
  all_goals
    (apply Ret.det []; (focus (first | exact .inl rfl | exact .inr rfl)); (focus (simp (maxSteps := 9999999) (disch := omega) only [go_sem]; rfl)); (simp (maxSteps := 9999999) (disch := omega) only [go_sem]; (try (repeat' (first | done | trivial | rfl | exact leAs_rfl _ | decide | (refine And.intro ?_ ?_) | (simp; done) | omega | (simp; decide))))))
    all_goals (simp [nodeB, *])
theorem goodmk_any (m : Mk) : ACall Tryz.prog 52 [MkG m] [] (Det (Bo (goodMk m)) []) := by
  have c := good_any m.act
  unfold goodMk
  generalize goodB m.act = b at *
  cases b
  all_goals
    refine ACall.startA c52_ok Tryz.func52 rfl Tryz.ntmps52 (by kernel_rfl) res52_ok rfl rfl rfl ?_; simp (maxSteps := 9999999) (disch := omega) only [go_sem]
    (have k9 := k0; (repeat' (first | refine AWpA.seq ?_ | refine AWpA.block ?_ | (with_reducible refine CondP.tt ?_) | (with_reducible refine CondP.ff ?_) | refine AWpA.cg ?_ | ((first | refine AWpA.rg ?_ | refine AWpA.dg [] [] follows ?_ | refine TailK.tg ?_ | refine AWpA.skip ?_ | refine AWpA.exit ?_ | refine AWpA.ret ?_ | (with_reducible refine ARoundsA.succ ?_) | ((first | refine Runs.gkt (fun h9 => ?_) | refine Runs.gkf (fun h9 => ?_) | refine Runs.gnt (fun h9 => ?_) | refine Runs.gnf (fun h9 => ?_) | refine CondP.gt (fun h9 => ?_) | refine CondP.gf (fun h9 => ?_) | refine CondP.gnt (fun h9 => ?_) | refine CondP.gnf (fun h9 => ?_)); (try simp only [h9]); clear h9) | refine CallG.pg [] (c) ?_ | refine CallG.dg [] (c) ?_); (try simp (maxSteps := 9999999) (disch := omega) only [go_sem, k9]); (try refine cnd ?_)) | ((first | refine CondP.split (fun hif => ?_) (fun hif => ?_) | refine Runs.part (fun hif => ?_) (fun hif => ?_)) <;> ((try simp only [hif]); (try simp only [BL] at hif); (try (have h9 : _ = true := hif; simp only [h9])); (try (have h9 : _ = false := hif; simp only [h9])); (try simp (maxSteps := 9999999) (disch := omega) only [go_sem, k9]); (try refine cnd ?_); (try (exfalso; omega; done)))))); (all_goals (try clear k9)))
    all_goals
      (apply Ret.det []; (focus (first | exact .inl rfl | exact .inr rfl)); (focus (simp (maxSteps := 9999999) (disch := omega) only [go_sem]; rfl)); (simp (maxSteps := 9999999) (disch := omega) only [go_sem]; (try (repeat' (first | done | trivial | rfl | exact leAs_rfl _ | decide | (refine And.intro ?_ ?_) | (simp; done) | omega | (simp; decide))))))
      all_goals (simp [*])
theorem goodent_any (e : En) : ACall Tryz.prog 56 [EnA e] [] (Det (Bo (checkI e == 0)) []) := by
  have c := check_any e
  generalize checkI e = k at *
  refine ACall.startA c56_ok Tryz.func56 rfl Tryz.ntmps56 (by kernel_rfl) res56_ok rfl rfl rfl ?_; simp (maxSteps := 9999999) (disch := omega) only [go_sem]
  (have k9 := k0; have a1 := Arm.mk [] c; refine goK ?_; (try clear k9); (try clear a1))
  (have k9 := k0; exact Ret.dk [])
theorem bare1_any (x : Wm) (g : Bool) (a b c : Nat) : ACall Tryz.prog 108 [.ptr 0 0] (OB x g a b c) (Det (.tup []) (OB { x with peer := 0 } g a b c)) := by
  have hi := ri_ren
  have hm := rm_ren
  have he := re_ren
  cases g
  all_goals
    refine ACall.startA c108_ok Tryz.func108 rfl Tryz.ntmps108 (by kernel_rfl) res108_ok rfl rfl rfl ?_; simp (maxSteps := 9999999) (disch := omega) only [go_sem]
    (have k9 := And.intro @hi (And.intro @hm (And.intro @he (k0))); have x9 := Xs.mk [0] []; refine goK ?_; (try clear k9))
    (have k9 := And.intro @hi (And.intro @hm (And.intro @he (k0))); exact Ret.dk [0, 1, 2, 3])
theorem bare2_any (x : Wm) (g : Bool) (a b c : Nat) : ACall Tryz.prog 109 [.ptr 0 0] (OB x g a b c) (Det (.tup []) (OB { x with hops := 0 } g a b c)) := by
  have hi := ri_ren
  have hm := rm_ren
  have he := re_ren
  cases g
  all_goals
    refine ACall.startA c109_ok Tryz.func109 rfl Tryz.ntmps109 (by kernel_rfl) res109_ok rfl rfl rfl ?_; simp (maxSteps := 9999999) (disch := omega) only [go_sem]
    (have k9 := And.intro @hi (And.intro @hm (And.intro @he (k0))); have x9 := Xs.mk [0] []; refine goK ?_; (try clear k9))
    (have k9 := And.intro @hi (And.intro @hm (And.intro @he (k0))); exact Ret.dk [0, 1, 2, 3])
theorem bare3_any (x : Wm) (g : Bool) (a b c : Nat) : ACall Tryz.prog 110 [.ptr 0 0] (OB x g a b c) (Det (.tup []) (OB { x with high := false } g a b c)) := by
  have hi := ri_ren
  have hm := rm_ren
  have he := re_ren
  cases g
  all_goals
    refine ACall.startA c110_ok Tryz.func110 rfl Tryz.ntmps110 (by kernel_rfl) res110_ok rfl rfl rfl ?_; simp (maxSteps := 9999999) (disch := omega) only [go_sem]
    (have k9 := And.intro @hi (And.intro @hm (And.intro @he (k0))); have x9 := Xs.mk [0] []; refine goK ?_; (try clear k9))
    (have k9 := And.intro @hi (And.intro @hm (And.intro @he (k0))); exact Ret.dk [0, 1, 2, 3])
theorem bare4_any (x : Wm) (g : Bool) (a b c : Nat) : ACall Tryz.prog 111 [.ptr 0 0] (OB x g a b c) (Det (.tup []) (OB x true a b c)) := by
  have hi := ri_ren
  have hm := rm_ren
  have he := re_ren
  cases g
  all_goals
    refine ACall.startA c111_ok Tryz.func111 rfl Tryz.ntmps111 (by kernel_rfl) res111_ok rfl rfl rfl ?_; simp (maxSteps := 9999999) (disch := omega) only [go_sem]
    (have k9 := And.intro @hi (And.intro @hm (And.intro @he (k0))); have x9 := Xs.mk [0] []; refine goK ?_; (try clear k9))
    (have k9 := And.intro @hi (And.intro @hm (And.intro @he (k0))); exact Ret.dk [0, 1, 2, 3])
theorem bare5_any (x : Wm) (g : Bool) (a b c : Nat) : ACall Tryz.prog 112 [.ptr 0 0] (OB x g a b c) (Det (.tup []) (OB { x with num := 0 } g a b c)) := by
  have hi := ri_ren
  have hm := rm_ren
  have he := re_ren
  cases g
  all_goals
    refine ACall.startA c112_ok Tryz.func112 rfl Tryz.ntmps112 (by kernel_rfl) res112_ok rfl rfl rfl ?_; simp (maxSteps := 9999999) (disch := omega) only [go_sem]
    (have k9 := And.intro @hi (And.intro @hm (And.intro @he (k0))); have x9 := Xs.mk [0] []; refine goK ?_; (try clear k9))
    (have k9 := And.intro @hi (And.intro @hm (And.intro @he (k0))); exact Ret.dk [0, 1, 2, 3])
theorem bare6_any (x : Wm) (g : Bool) (a b c : Nat) : ACall Tryz.prog 113 [.ptr 0 0] (OB x g a b c) (Det (.tup []) (OB { x with sum := 0 } g a b c)) := by
  have hi := ri_ren
  have hm := rm_ren
  have he := re_ren
  cases g
  all_goals
    refine ACall.startA c113_ok Tryz.func113 rfl Tryz.ntmps113 (by kernel_rfl) res113_ok rfl rfl rfl ?_; simp (maxSteps := 9999999) (disch := omega) only [go_sem]
    (have k9 := And.intro @hi (And.intro @hm (And.intro @he (k0))); have x9 := Xs.mk [0] []; refine goK ?_; (try clear k9))
    (have k9 := And.intro @hi (And.intro @hm (And.intro @he (k0))); exact Ret.dk [0, 1, 2, 3])
theorem bare7_any (x : Wm) (g : Bool) (a b c : Nat) : ACall Tryz.prog 114 [.ptr 0 0] (OB x g a b c) (Det (.tup []) (OB { x with mark := noMk } g a b c)) := by
  have hi := ri_ren
  have hm := rm_ren
  have he := re_ren
  cases g
  all_goals
    refine ACall.startA c114_ok Tryz.func114 rfl Tryz.ntmps114 (by kernel_rfl) res114_ok rfl rfl rfl ?_; simp (maxSteps := 9999999) (disch := omega) only [go_sem]
    (have k9 := And.intro @hi (And.intro @hm (And.intro @he (k0))); have x9 := Xs.mk [0] []; refine goK ?_; (try clear k9))
    (have k9 := And.intro @hi (And.intro @hm (And.intro @he (k0))); exact Ret.dk [0, 1, 2, 3])
/-- What is left of a message when so many fields are taken off (the slice of nodes apart). -/
def bareS (k : Int) (x : Wm) : Nat → Wm
  | 0 => x
  | i + 1 => if hasF k i = true ∧ i ≠ 3 then setF i (bareS k x i) noW else bareS k x i
theorem bareS_rows (k : Int) (x : Wm) : ∀ i, i ≤ 7 → (bareS k x i).peers = x.peers ∧ (bareS k x i).marks = x.marks ∧ (bareS k x i).ents = x.ents ∧ (bareS k x i).kind = x.kind
  | 0, _ => ⟨rfl, rfl, rfl, rfl⟩
  | i + 1, h => by
    obtain ⟨h1, h2, h3, h4⟩ := bareS_rows k x i (by omega)
    rw [bareS]
    split
    · rename_i hh
      refine ⟨?_, ?_, ?_, ?_⟩
      all_goals
        match i, h, hh.2 with
        | 0, _, _ | 1, _, _ | 2, _, _ | 4, _, _ | 5, _, _ | 6, _, _ => assumption
    · exact ⟨h1, h2, h3, h4⟩
theorem mask_at : ∀ (k : Fin 20) (i : Fin 9), (bits .and .i64 (fldW k.val) (2 ^ i.val) != 0) = hasF k.val i.val := by decide +kernel
theorem mask_k {k : Int} (hk : kindB k = true) (i : Nat) (hi : i < 9) : (bits .and .i64 (fldW k.toNat) (2 ^ i) != 0) = hasF k i := by
  simp only [kindB, Bool.and_eq_true, decide_eq_true_eq] at hk
  have := mask_at ⟨k.toNat, by omega⟩ ⟨i, hi⟩
  rwa [show (((⟨k.toNat, by omega⟩ : Fin 20).val : Nat) : Int) = k by simp; omega] at this
theorem wbare_any (x : Wm) (a b c : Nat) (hk : kindB x.kind = true) : ACall Tryz.prog 50 [WmA x 0 a 1 b 2 c, I (fldW x.kind.toNat)] [.cells true (Ri a x.peers), .cells true (Rm b x.marks), .cells true (Re c x.ents)]
    (Det (.agg [I x.kind, I (bareS x.kind x 7).peer, I (bareS x.kind x 7).hops, Bo (bareS x.kind x 7).high, psA (hasF x.kind 3) 0 a x.peers.length, I (bareS x.kind x 7).num, U64 (bareS x.kind x 7).sum, I (bareS x.kind x 7).mark.act.c, I (bareS x.kind x 7).mark.act.s, Str (bareS x.kind x 7).mark.key, .val (.slice none 0 0), .val (.slice none 0 0)]) [.cells true (Ri a x.peers), .cells true (Rm b x.marks), .cells true (Re c x.ents)]) := by
  have hi := ri_ren
  have hm := rm_ren
  have he := re_ren
  have mk0 := mask_k hk 0 (by decide)
  have mk1 := mask_k hk 1 (by decide)
  have mk2 := mask_k hk 2 (by decide)
  have mk3 := mask_k hk 3 (by decide)
  have mk4 := mask_k hk 4 (by decide)
  have mk5 := mask_k hk 5 (by decide)
  have mk6 := mask_k hk 6 (by decide)
  have hS : ∀ i, bareS x.kind x (i + 1) = if hasF x.kind i = true ∧ i ≠ 3 then setF i (bareS x.kind x i) noW else bareS x.kind x i := fun i => rfl
  have hrow := bareS_rows x.kind x
  simp only [Nat.reducePow, Int.reducePow] at mk0 mk1 mk2 mk3 mk4 mk5 mk6
  refine ACall.startA c50_ok Tryz.func50 rfl Tryz.ntmps50 (by kernel_rfl) res50_ok rfl rfl rfl ?_; simp (maxSteps := 9999999) (disch := omega) only [go_sem]
  (have k9 := And.intro @hi (And.intro @hm (And.intro @he (k0))); refine goK ?_; (try clear k9))
  (apply AWpA.loopL (fun i : Nat => [(1, I (fldW x.kind.toNat)), (4, .ptr 5 0), (5, .ptr 3 0), (23, .sl 4 0 7 2 (some 7)), (24, I 7), (25, I i)]) (fun i => [.cells true (Ri a x.peers), .cells true (Rm b x.marks), .cells true (Re c x.ents), .cells false (WbL (bareS x.kind x i) (decide (3 < i) && hasF x.kind 3) 0 a 1 b 2 c), .cells false [I 1, .fn 108 [] [.ptr 3 0], I 2, .fn 109 [] [.ptr 3 0], I 4, .fn 110 [] [.ptr 3 0], I 8, .fn 111 [] [.ptr 3 0], I 16, .fn 112 [] [.ptr 3 0], I 32, .fn 113 [] [.ptr 3 0], I 64, .fn 114 [] [.ptr 3 0]], .cells false [I 0, I 0, I 0, Bo false, .val (.slice none 0 0), I 0, U64 0, I 0, I 0, Str ⟨#[]⟩, .val (.slice none 0 0), .val (.slice none 0 0)]]) (fun i => 7 - i) (fun i => i ≤ 7) (0) [0, 1, 2, 51, 307, 19]; rotate_left; (focus (simp (maxSteps := 9999999) (disch := omega) only [go_sem, hi, hm, he, bareS, Nat.not_lt_zero, decide_false, Bool.false_and, cond_false]; (try (repeat' (first | done | trivial | rfl | exact leAs_rfl _ | decide | (refine And.intro ?_ ?_) | (simp; done) | omega | (simp; decide)))))); rotate_right)
  · exact Nat.zero_le _
  rintro i hi7
  (try simp only at hi7)
  obtain ⟨e1, e2, e3, e4⟩ := hrow i hi7
  have hS := hS i
  by_cases hin : i < 7
  · rcases (show i = 0 ∨ i = 1 ∨ i = 2 ∨ i = 3 ∨ i = 4 ∨ i = 5 ∨ i = 6 by omega) with rfl | rfl | rfl | rfl | rfl | rfl | rfl
    · cases hh : hasF x.kind 0 with
      | false =>
        rw [hh] at mk0
        have hs : bareS x.kind x (0 + 1) = bareS x.kind x 0 := by rw [hS, if_neg (by simp [hh])]
        clear hS hrow
        generalize bareS x.kind x 0 = y at *
        simp only [Nat.reduceAdd] at hs
        simp only [show decide (3 < 0) = false from rfl, Bool.false_and]
        have c1 := bare1_any y false a b c
        simp only [OB, WbL, e1, e2, e3, e4] at c1
        (try simp (maxSteps := 9999999) (disch := omega) only [go_sem])
        (have k9 := And.intro @hi (And.intro @hm (And.intro @he (And.intro @mk0 (And.intro @e1 (And.intro @e2 (And.intro @e3 (And.intro @e4 (k0)))))))); have x9 := Xs.mk [3] []; refine goK ?_; (try clear k9))
        (have k9 := And.intro @hi (And.intro @hm (And.intro @he (And.intro @hs (And.intro @e1 (And.intro @e2 (And.intro @e3 (And.intro @e4 (And.intro (show decide (3 < 1) = false from rfl) (And.intro @Bool.true_and (And.intro @Bool.false_and (k0))))))))))); refine Back.tk 1 [0, 1, 2, 3, 4, 5] ?_)
        omega
      | true =>
        rw [hh] at mk0
        have hs : bareS x.kind x (0 + 1) = { bareS x.kind x 0 with peer := 0 } := by rw [hS, if_pos ⟨hh, by decide⟩]; rfl
        clear hS hrow
        generalize bareS x.kind x 0 = y at *
        simp only [Nat.reduceAdd] at hs
        simp only [show decide (3 < 0) = false from rfl, Bool.false_and]
        have c1 := bare1_any y false a b c
        simp only [OB, WbL, e1, e2, e3, e4] at c1
        (try simp (maxSteps := 9999999) (disch := omega) only [go_sem])
        (have k9 := And.intro @hi (And.intro @hm (And.intro @he (And.intro @mk0 (And.intro @e1 (And.intro @e2 (And.intro @e3 (And.intro @e4 (k0)))))))); have x9 := Xs.mk [3] []; have a1 := Arm.mk [3, 0, 1, 2] c1; refine goK ?_; (try clear k9); (try clear a1))
        (have k9 := And.intro @hi (And.intro @hm (And.intro @he (And.intro @hs (And.intro @e1 (And.intro @e2 (And.intro @e3 (And.intro @e4 (And.intro (show decide (3 < 1) = false from rfl) (And.intro @Bool.true_and (And.intro @Bool.false_and (k0))))))))))); refine Back.tk 1 [0, 1, 2, 3, 4, 5] ?_)
        omega
    · cases hh : hasF x.kind 1 with
      | false =>
        rw [hh] at mk1
        have hs : bareS x.kind x (1 + 1) = bareS x.kind x 1 := by rw [hS, if_neg (by simp [hh])]
        clear hS hrow
        generalize bareS x.kind x 1 = y at *
        simp only [Nat.reduceAdd] at hs
        simp only [show decide (3 < 1) = false from rfl, Bool.false_and]
        have c1 := bare2_any y false a b c
        simp only [OB, WbL, e1, e2, e3, e4] at c1
        (try simp (maxSteps := 9999999) (disch := omega) only [go_sem])
        (have k9 := And.intro @hi (And.intro @hm (And.intro @he (And.intro @mk1 (And.intro @e1 (And.intro @e2 (And.intro @e3 (And.intro @e4 (k0)))))))); have x9 := Xs.mk [3] []; refine goK ?_; (try clear k9))
        (have k9 := And.intro @hi (And.intro @hm (And.intro @he (And.intro @hs (And.intro @e1 (And.intro @e2 (And.intro @e3 (And.intro @e4 (And.intro (show decide (3 < 2) = false from rfl) (And.intro @Bool.true_and (And.intro @Bool.false_and (k0))))))))))); refine Back.tk 2 [0, 1, 2, 3, 4, 5] ?_)
        omega
      | true =>
        rw [hh] at mk1
        have hs : bareS x.kind x (1 + 1) = { bareS x.kind x 1 with hops := 0 } := by rw [hS, if_pos ⟨hh, by decide⟩]; rfl
        clear hS hrow
        generalize bareS x.kind x 1 = y at *
        simp only [Nat.reduceAdd] at hs
        simp only [show decide (3 < 1) = false from rfl, Bool.false_and]
        have c1 := bare2_any y false a b c
        simp only [OB, WbL, e1, e2, e3, e4] at c1
        (try simp (maxSteps := 9999999) (disch := omega) only [go_sem])
        (have k9 := And.intro @hi (And.intro @hm (And.intro @he (And.intro @mk1 (And.intro @e1 (And.intro @e2 (And.intro @e3 (And.intro @e4 (k0)))))))); have x9 := Xs.mk [3] []; have a1 := Arm.mk [3, 0, 1, 2] c1; refine goK ?_; (try clear k9); (try clear a1))
        (have k9 := And.intro @hi (And.intro @hm (And.intro @he (And.intro @hs (And.intro @e1 (And.intro @e2 (And.intro @e3 (And.intro @e4 (And.intro (show decide (3 < 2) = false from rfl) (And.intro @Bool.true_and (And.intro @Bool.false_and (k0))))))))))); refine Back.tk 2 [0, 1, 2, 3, 4, 5] ?_)
        omega
    · cases hh : hasF x.kind 2 with
      | false =>
        rw [hh] at mk2
        have hs : bareS x.kind x (2 + 1) = bareS x.kind x 2 := by rw [hS, if_neg (by simp [hh])]
        clear hS hrow
        generalize bareS x.kind x 2 = y at *
        simp only [Nat.reduceAdd] at hs
        simp only [show decide (3 < 2) = false from rfl, Bool.false_and]
        have c1 := bare3_any y false a b c
        simp only [OB, WbL, e1, e2, e3, e4] at c1
        (try simp (maxSteps := 9999999) (disch := omega) only [go_sem])
        (have k9 := And.intro @hi (And.intro @hm (And.intro @he (And.intro @mk2 (And.intro @e1 (And.intro @e2 (And.intro @e3 (And.intro @e4 (k0)))))))); have x9 := Xs.mk [3] []; refine goK ?_; (try clear k9))
        (have k9 := And.intro @hi (And.intro @hm (And.intro @he (And.intro @hs (And.intro @e1 (And.intro @e2 (And.intro @e3 (And.intro @e4 (And.intro (show decide (3 < 3) = false from rfl) (And.intro @Bool.true_and (And.intro @Bool.false_and (k0))))))))))); refine Back.tk 3 [0, 1, 2, 3, 4, 5] ?_)
        omega
      | true =>
        rw [hh] at mk2
        have hs : bareS x.kind x (2 + 1) = { bareS x.kind x 2 with high := false } := by rw [hS, if_pos ⟨hh, by decide⟩]; rfl
        clear hS hrow
        generalize bareS x.kind x 2 = y at *
        simp only [Nat.reduceAdd] at hs
        simp only [show decide (3 < 2) = false from rfl, Bool.false_and]
        have c1 := bare3_any y false a b c
        simp only [OB, WbL, e1, e2, e3, e4] at c1
        (try simp (maxSteps := 9999999) (disch := omega) only [go_sem])
        (have k9 := And.intro @hi (And.intro @hm (And.intro @he (And.intro @mk2 (And.intro @e1 (And.intro @e2 (And.intro @e3 (And.intro @e4 (k0)))))))); have x9 := Xs.mk [3] []; have a1 := Arm.mk [3, 0, 1, 2] c1; refine goK ?_; (try clear k9); (try clear a1))
        (have k9 := And.intro @hi (And.intro @hm (And.intro @he (And.intro @hs (And.intro @e1 (And.intro @e2 (And.intro @e3 (And.intro @e4 (And.intro (show decide (3 < 3) = false from rfl) (And.intro @Bool.true_and (And.intro @Bool.false_and (k0))))))))))); refine Back.tk 3 [0, 1, 2, 3, 4, 5] ?_)
        omega
    · cases hh : hasF x.kind 3 with
      | false =>
        rw [hh] at mk3
        have hs : bareS x.kind x (3 + 1) = bareS x.kind x 3 := by rw [hS, if_neg (by simp [hh])]
        clear hS hrow
        generalize bareS x.kind x 3 = y at *
        simp only [Nat.reduceAdd] at hs
        simp only [show decide (3 < 3) = false from rfl, Bool.false_and]
        have c1 := bare4_any y false a b c
        simp only [OB, WbL, e1, e2, e3, e4] at c1
        (try simp (maxSteps := 9999999) (disch := omega) only [go_sem])
        (have k9 := And.intro @hi (And.intro @hm (And.intro @he (And.intro @mk3 (And.intro @e1 (And.intro @e2 (And.intro @e3 (And.intro @e4 (k0)))))))); have x9 := Xs.mk [3] []; refine goK ?_; (try clear k9))
        (have k9 := And.intro @hi (And.intro @hm (And.intro @he (And.intro @hs (And.intro @e1 (And.intro @e2 (And.intro @e3 (And.intro @e4 (And.intro @hh (And.intro (show decide (3 < 4) = true from rfl) (And.intro @Bool.true_and (And.intro @Bool.false_and (k0)))))))))))); refine Back.tk 4 [0, 1, 2, 3, 4, 5] ?_)
        omega
      | true =>
        rw [hh] at mk3
        have hs : bareS x.kind x (3 + 1) = bareS x.kind x 3 := by rw [hS, if_neg (by simp [hh])]
        clear hS hrow
        generalize bareS x.kind x 3 = y at *
        simp only [Nat.reduceAdd] at hs
        simp only [show decide (3 < 3) = false from rfl, Bool.false_and]
        have c1 := bare4_any y false a b c
        simp only [OB, WbL, e1, e2, e3, e4] at c1
        (try simp (maxSteps := 9999999) (disch := omega) only [go_sem])
        (have k9 := And.intro @hi (And.intro @hm (And.intro @he (And.intro @mk3 (And.intro @e1 (And.intro @e2 (And.intro @e3 (And.intro @e4 (k0)))))))); have x9 := Xs.mk [3] []; have a1 := Arm.mk [3, 0, 1, 2] c1; refine goK ?_; (try clear k9); (try clear a1))
        (have k9 := And.intro @hi (And.intro @hm (And.intro @he (And.intro @hs (And.intro @e1 (And.intro @e2 (And.intro @e3 (And.intro @e4 (And.intro @hh (And.intro (show decide (3 < 4) = true from rfl) (And.intro @Bool.true_and (And.intro @Bool.false_and (k0)))))))))))); refine Back.tk 4 [0, 1, 2, 3, 4, 5] ?_)
        omega
    · cases hh : hasF x.kind 4 with
      | false =>
        rw [hh] at mk4
        have hs : bareS x.kind x (4 + 1) = bareS x.kind x 4 := by rw [hS, if_neg (by simp [hh])]
        clear hS hrow
        generalize bareS x.kind x 4 = y at *
        simp only [Nat.reduceAdd] at hs
        simp only [show decide (3 < 4) = true from rfl, Bool.true_and]
        generalize hasF x.kind 3 = g at *
        have c1 := bare5_any y g a b c
        simp only [OB, WbL, e1, e2, e3, e4] at c1
        cases g
        all_goals
          (try simp (maxSteps := 9999999) (disch := omega) only [go_sem])
          (have k9 := And.intro @hi (And.intro @hm (And.intro @he (And.intro @mk4 (And.intro @e1 (And.intro @e2 (And.intro @e3 (And.intro @e4 (k0)))))))); have x9 := Xs.mk [3] []; refine goK ?_; (try clear k9))
          (have k9 := And.intro @hi (And.intro @hm (And.intro @he (And.intro @hs (And.intro @e1 (And.intro @e2 (And.intro @e3 (And.intro @e4 (And.intro (show decide (3 < 5) = true from rfl) (And.intro @Bool.true_and (And.intro @Bool.false_and (k0))))))))))); refine Back.tk 5 [0, 1, 2, 3, 4, 5] ?_)
          omega
      | true =>
        rw [hh] at mk4
        have hs : bareS x.kind x (4 + 1) = { bareS x.kind x 4 with num := 0 } := by rw [hS, if_pos ⟨hh, by decide⟩]; rfl
        clear hS hrow
        generalize bareS x.kind x 4 = y at *
        simp only [Nat.reduceAdd] at hs
        simp only [show decide (3 < 4) = true from rfl, Bool.true_and]
        generalize hasF x.kind 3 = g at *
        have c1 := bare5_any y g a b c
        simp only [OB, WbL, e1, e2, e3, e4] at c1
        cases g
        all_goals
          (try simp (maxSteps := 9999999) (disch := omega) only [go_sem])
          (have k9 := And.intro @hi (And.intro @hm (And.intro @he (And.intro @mk4 (And.intro @e1 (And.intro @e2 (And.intro @e3 (And.intro @e4 (k0)))))))); have x9 := Xs.mk [3] []; have a1 := Arm.mk [3, 0, 1, 2] c1; refine goK ?_; (try clear k9); (try clear a1))
          (have k9 := And.intro @hi (And.intro @hm (And.intro @he (And.intro @hs (And.intro @e1 (And.intro @e2 (And.intro @e3 (And.intro @e4 (And.intro (show decide (3 < 5) = true from rfl) (And.intro @Bool.true_and (And.intro @Bool.false_and (k0))))))))))); refine Back.tk 5 [0, 1, 2, 3, 4, 5] ?_)
          omega
    · cases hh : hasF x.kind 5 with
      | false =>
        rw [hh] at mk5
        have hs : bareS x.kind x (5 + 1) = bareS x.kind x 5 := by rw [hS, if_neg (by simp [hh])]
        clear hS hrow
        generalize bareS x.kind x 5 = y at *
        simp only [Nat.reduceAdd] at hs
        simp only [show decide (3 < 5) = true from rfl, Bool.true_and]
        generalize hasF x.kind 3 = g at *
        have c1 := bare6_any y g a b c
        simp only [OB, WbL, e1, e2, e3, e4] at c1
        cases g
        all_goals
          (try simp (maxSteps := 9999999) (disch := omega) only [go_sem])
          (have k9 := And.intro @hi (And.intro @hm (And.intro @he (And.intro @mk5 (And.intro @e1 (And.intro @e2 (And.intro @e3 (And.intro @e4 (k0)))))))); have x9 := Xs.mk [3] []; refine goK ?_; (try clear k9))
          (have k9 := And.intro @hi (And.intro @hm (And.intro @he (And.intro @hs (And.intro @e1 (And.intro @e2 (And.intro @e3 (And.intro @e4 (And.intro (show decide (3 < 6) = true from rfl) (And.intro @Bool.true_and (And.intro @Bool.false_and (k0))))))))))); refine Back.tk 6 [0, 1, 2, 3, 4, 5] ?_)
          omega
      | true =>
        rw [hh] at mk5
        have hs : bareS x.kind x (5 + 1) = { bareS x.kind x 5 with sum := 0 } := by rw [hS, if_pos ⟨hh, by decide⟩]; rfl
        clear hS hrow
        generalize bareS x.kind x 5 = y at *
        simp only [Nat.reduceAdd] at hs
        simp only [show decide (3 < 5) = true from rfl, Bool.true_and]
        generalize hasF x.kind 3 = g at *
        have c1 := bare6_any y g a b c
        simp only [OB, WbL, e1, e2, e3, e4] at c1
        cases g
        all_goals
          (try simp (maxSteps := 9999999) (disch := omega) only [go_sem])
          (have k9 := And.intro @hi (And.intro @hm (And.intro @he (And.intro @mk5 (And.intro @e1 (And.intro @e2 (And.intro @e3 (And.intro @e4 (k0)))))))); have x9 := Xs.mk [3] []; have a1 := Arm.mk [3, 0, 1, 2] c1; refine goK ?_; (try clear k9); (try clear a1))
          (have k9 := And.intro @hi (And.intro @hm (And.intro @he (And.intro @hs (And.intro @e1 (And.intro @e2 (And.intro @e3 (And.intro @e4 (And.intro (show decide (3 < 6) = true from rfl) (And.intro @Bool.true_and (And.intro @Bool.false_and (k0))))))))))); refine Back.tk 6 [0, 1, 2, 3, 4, 5] ?_)
          omega
    · cases hh : hasF x.kind 6 with
      | false =>
        rw [hh] at mk6
        have hs : bareS x.kind x (6 + 1) = bareS x.kind x 6 := by rw [hS, if_neg (by simp [hh])]
        clear hS hrow
        generalize bareS x.kind x 6 = y at *
        simp only [Nat.reduceAdd] at hs
        simp only [show decide (3 < 6) = true from rfl, Bool.true_and]
        generalize hasF x.kind 3 = g at *
        have c1 := bare7_any y g a b c
        simp only [OB, WbL, e1, e2, e3, e4] at c1
        cases g
        all_goals
          (try simp (maxSteps := 9999999) (disch := omega) only [go_sem])
          (have k9 := And.intro @hi (And.intro @hm (And.intro @he (And.intro @mk6 (And.intro @e1 (And.intro @e2 (And.intro @e3 (And.intro @e4 (k0)))))))); have x9 := Xs.mk [3] []; refine goK ?_; (try clear k9))
          (have k9 := And.intro @hi (And.intro @hm (And.intro @he (And.intro @hs (And.intro @e1 (And.intro @e2 (And.intro @e3 (And.intro @e4 (And.intro (show decide (3 < 7) = true from rfl) (And.intro @Bool.true_and (And.intro @Bool.false_and (k0))))))))))); refine Back.tk 7 [0, 1, 2, 3, 4, 5] ?_)
          omega
      | true =>
        rw [hh] at mk6
        have hs : bareS x.kind x (6 + 1) = { bareS x.kind x 6 with mark := noMk } := by rw [hS, if_pos ⟨hh, by decide⟩]; rfl
        clear hS hrow
        generalize bareS x.kind x 6 = y at *
        simp only [Nat.reduceAdd] at hs
        simp only [show decide (3 < 6) = true from rfl, Bool.true_and]
        generalize hasF x.kind 3 = g at *
        have c1 := bare7_any y g a b c
        simp only [OB, WbL, e1, e2, e3, e4] at c1
        cases g
        all_goals
          (try simp (maxSteps := 9999999) (disch := omega) only [go_sem])
          (have k9 := And.intro @hi (And.intro @hm (And.intro @he (And.intro @mk6 (And.intro @e1 (And.intro @e2 (And.intro @e3 (And.intro @e4 (k0)))))))); have x9 := Xs.mk [3] []; have a1 := Arm.mk [3, 0, 1, 2] c1; refine goK ?_; (try clear k9); (try clear a1))
          (have k9 := And.intro @hi (And.intro @hm (And.intro @he (And.intro @hs (And.intro @e1 (And.intro @e2 (And.intro @e3 (And.intro @e4 (And.intro (show decide (3 < 7) = true from rfl) (And.intro @Bool.true_and (And.intro @Bool.false_and (k0))))))))))); refine Back.tk 7 [0, 1, 2, 3, 4, 5] ?_)
          omega
  · obtain rfl : i = 7 := by omega
    generalize bareS x.kind x 7 = y at *
    simp only [show decide (3 < 7) = true from rfl, Bool.true_and]
    cases hasF x.kind 3
    all_goals
      (try simp (maxSteps := 9999999) (disch := omega) only [go_sem])
      (have k9 := And.intro @hi (And.intro @hm (And.intro @he (And.intro @e1 (And.intro @e2 (And.intro @e3 (And.intro @e4 (k0))))))); refine goK ?_; (try clear k9))
      (have k9 := And.intro @hi (And.intro @hm (And.intro @he (And.intro @e1 (And.intro @e2 (And.intro @e3 (And.intro @e4 (k0))))))); exact Ret.dk [0, 1, 2])
end
end Go.Proofs.YtopidfkmligljaaGreat
