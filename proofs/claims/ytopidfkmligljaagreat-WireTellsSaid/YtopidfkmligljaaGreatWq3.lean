/- Contracts: messages that are the same; a message without its fields. -/
import Derived.Test.YtopidfkmligljaaGreatWq2
namespace Go.Proofs.YtopidfkmligljaaGreat
noncomputable section
set_option linter.unusedSimpArgs false
set_option linter.unusedVariables false
set_option maxHeartbeats 4000000
open Go Go.Am Go.RowKit
set_option maxRecDepth 100000
set_option maxHeartbeats 8000000
abbrev WmL (x : Wm) (i a j b k c : Nat) : List AV := [I x.kind, I x.peer, I x.hops, Bo x.high, .sl i a x.peers.length 1 none, I x.num, U64 x.sum, I x.mark.act.c, I x.mark.act.s, Str x.mark.key, .sl j b x.marks.length 3 none, .sl k c x.ents.length 9 none]
abbrev WmA (x : Wm) (i a j b k c : Nat) : AV := .agg (WmL x i a j b k c)
def sameW (x y : Wm) : Bool := x.kind == y.kind && (x.peer == y.peer && (x.hops == y.hops && (x.high == y.high && (x.num == y.num && (x.sum == y.sum && (mkE x.mark y.mark && (decide (x.peers = y.peers) && (decide (x.marks = y.marks) && decide (x.ents = y.ents)))))))))
theorem sameW_iff (x y : Wm) : sameW x y = true ↔ x = y := by
  obtain ⟨x1, x2, x3, x4, x5, x6, x7, x8, x9, x10⟩ := x
  obtain ⟨y1, y2, y3, y4, y5, y6, y7, y8, y9, y10⟩ := y
  unfold sameW
  rw [mkE_dec]
  simp only [Bool.and_eq_true, beq_iff_eq, decide_eq_true_eq, Wm.mk.injEq]
  constructor
  · rintro ⟨h1, h2, h3, h4, h5, h6, h7, h8, h9, h10⟩; exact ⟨h1, h2, h3, h4, h8, h5, h6, h7, h9, h10⟩
  · rintro ⟨h1, h2, h3, h4, h8, h5, h6, h7, h9, h10⟩; exact ⟨h1, h2, h3, h4, h5, h6, h7, h8, h9, h10⟩
theorem sameW_self (x : Wm) : sameW x x = true := (sameW_iff x x).2 rfl
/- quidnunc/wire.Same -/
def c13_1 : ACode := .region false [⟨some 2, .box 0, [.t 0], none⟩,
  ⟨some 3, .box 0, [.t 1], none⟩,
  ⟨some 4, .move, [.c (.val (.bool false))], none⟩] [] [] [2, 3] true [] []
def c13_3 : ACode := .region false [⟨some 5, .addr 0, [.t 2], none⟩,
  ⟨some 6, .load false 1, [.t 5], none⟩,
  ⟨some 7, .addr 0, [.t 3], none⟩,
  ⟨some 8, .load false 1, [.t 7], none⟩,
  ⟨some 9, .bin .eql, [.t 6, .t 8], none⟩,
  ⟨some 10, .move, [.t 9], none⟩,
  ⟨some 11, .addr 1, [.t 2], some (some 10, true)⟩,
  ⟨some 12, .load false 1, [.t 11], some (some 10, true)⟩,
  ⟨some 13, .addr 1, [.t 3], some (some 10, true)⟩,
  ⟨some 14, .load false 1, [.t 13], some (some 10, true)⟩,
  ⟨some 15, .bin .eql, [.t 12, .t 14], some (some 10, true)⟩,
  ⟨some 16, .pick, [.t 10, .t 15, .c (.val (.bool false))], none⟩,
  ⟨some 17, .move, [.t 16], none⟩,
  ⟨some 18, .addr 2, [.t 2], some (some 17, true)⟩,
  ⟨some 19, .load false 1, [.t 18], some (some 17, true)⟩,
  ⟨some 20, .addr 2, [.t 3], some (some 17, true)⟩,
  ⟨some 21, .load false 1, [.t 20], some (some 17, true)⟩,
  ⟨some 22, .bin .eql, [.t 19, .t 21], some (some 17, true)⟩,
  ⟨some 23, .pick, [.t 17, .t 22, .c (.val (.bool false))], none⟩,
  ⟨some 24, .move, [.t 23], none⟩,
  ⟨some 25, .addr 3, [.t 2], some (some 24, true)⟩,
  ⟨some 26, .load false 1, [.t 25], some (some 24, true)⟩,
  ⟨some 27, .addr 3, [.t 3], some (some 24, true)⟩,
  ⟨some 28, .load false 1, [.t 27], some (some 24, true)⟩,
  ⟨some 29, .eqB false, [.t 26, .t 28], some (some 24, true)⟩,
  ⟨some 30, .pick, [.t 24, .t 29, .c (.val (.bool false))], none⟩,
  ⟨some 31, .move, [.t 30], none⟩,
  ⟨some 32, .addr 5, [.t 2], some (some 31, true)⟩,
  ⟨some 33, .load false 1, [.t 32], some (some 31, true)⟩,
  ⟨some 34, .addr 5, [.t 3], some (some 31, true)⟩,
  ⟨some 35, .load false 1, [.t 34], some (some 31, true)⟩,
  ⟨some 36, .bin .eql, [.t 33, .t 35], some (some 31, true)⟩,
  ⟨some 37, .pick, [.t 31, .t 36, .c (.val (.bool false))], none⟩,
  ⟨some 38, .move, [.t 37], none⟩,
  ⟨some 39, .addr 6, [.t 2], some (some 38, true)⟩,
  ⟨some 40, .load false 1, [.t 39], some (some 38, true)⟩,
  ⟨some 41, .addr 6, [.t 3], some (some 38, true)⟩,
  ⟨some 42, .load false 1, [.t 41], some (some 38, true)⟩,
  ⟨some 43, .bin .eql, [.t 40, .t 42], some (some 38, true)⟩,
  ⟨some 44, .pick, [.t 38, .t 43, .c (.val (.bool false))], none⟩,
  ⟨some 45, .move, [.t 44], none⟩,
  ⟨some 46, .addr 7, [.t 2], some (some 45, true)⟩,
  ⟨some 47, .load true 3, [.t 46], some (some 45, true)⟩,
  ⟨some 48, .addr 7, [.t 3], some (some 45, true)⟩,
  ⟨some 49, .load true 3, [.t 48], some (some 45, true)⟩,
  ⟨some 50, .eqA false [(0, 0), (1, 0), (2, 1)], [.t 47, .t 49], some (some 45, true)⟩,
  ⟨some 51, .pick, [.t 45, .t 50, .c (.val (.bool false))], none⟩,
  ⟨some 52, .move, [.t 51], none⟩,
  ⟨some 53, .addr 4, [.t 2], some (some 52, true)⟩,
  ⟨some 54, .load false 1, [.t 53], some (some 52, true)⟩,
  ⟨some 55, .addr 4, [.t 3], some (some 52, true)⟩,
  ⟨some 56, .load false 1, [.t 55], some (some 52, true)⟩,
  ⟨some 57, .call 39, [.t 54, .t 56], some (some 52, true)⟩,
  ⟨some 58, .pick, [.t 52, .t 57, .c (.val (.bool false))], none⟩,
  ⟨some 59, .move, [.t 58], none⟩,
  ⟨some 60, .addr 10, [.t 2], some (some 59, true)⟩,
  ⟨some 61, .load false 1, [.t 60], some (some 59, true)⟩,
  ⟨some 62, .addr 10, [.t 3], some (some 59, true)⟩,
  ⟨some 63, .load false 1, [.t 62], some (some 59, true)⟩,
  ⟨some 64, .call 40, [.t 61, .t 63], some (some 59, true)⟩,
  ⟨some 65, .pick, [.t 59, .t 64, .c (.val (.bool false))], none⟩,
  ⟨some 66, .move, [.t 65], none⟩,
  ⟨some 67, .addr 11, [.t 2], some (some 66, true)⟩,
  ⟨some 68, .load false 1, [.t 67], some (some 66, true)⟩,
  ⟨some 69, .addr 11, [.t 3], some (some 66, true)⟩,
  ⟨some 70, .load false 1, [.t 69], some (some 66, true)⟩,
  ⟨some 71, .call 41, [.t 68, .t 70], some (some 66, true)⟩,
  ⟨some 72, .pick, [.t 66, .t 71, .c (.val (.bool false))], none⟩,
  ⟨some 4, .move, [.t 72], none⟩] [] [] [4] true [] []
def c13_2 : ACode := .seq c13_3 .ret
def c13_0 : ACode := .seq c13_1 c13_2
def code13 : Code := (Tryz.f13.body).getD .skip
theorem c13_ok : compC Tryz.prog 73 code13 = some (strip c13_0) := by kernel_rfl
theorem res13_ok : Tryz.f13.results.toList.mapM (resC Tryz.prog) = some [(4, none)] := by kernel_rfl
/- quidnunc/quidnuncref16.Same -/
def c10_1 : ACode := .region false [⟨some 2, .box 0, [.t 0], none⟩,
  ⟨some 3, .box 0, [.t 1], none⟩,
  ⟨some 4, .move, [.c (.val (.bool false))], none⟩] [] [] [2, 3] true [] []
def c10_4 : ACode := .region false [⟨some 5, .addr 0, [.t 2], none⟩,
  ⟨some 6, .load false 1, [.t 5], none⟩,
  ⟨some 7, .addr 0, [.t 3], none⟩,
  ⟨some 8, .load false 1, [.t 7], none⟩,
  ⟨some 9, .bin .neq, [.t 6, .t 8], none⟩,
  ⟨some 10, .move, [.t 9], none⟩,
  ⟨some 11, .addr 1, [.t 2], some (some 10, false)⟩,
  ⟨some 12, .load false 1, [.t 11], some (some 10, false)⟩,
  ⟨some 13, .addr 1, [.t 3], some (some 10, false)⟩,
  ⟨some 14, .load false 1, [.t 13], some (some 10, false)⟩,
  ⟨some 15, .bin .neq, [.t 12, .t 14], some (some 10, false)⟩,
  ⟨some 16, .pick, [.t 10, .c (.val (.bool true)), .t 15], none⟩,
  ⟨some 17, .move, [.t 16], none⟩,
  ⟨some 18, .addr 2, [.t 2], some (some 17, false)⟩,
  ⟨some 19, .load false 1, [.t 18], some (some 17, false)⟩,
  ⟨some 20, .addr 2, [.t 3], some (some 17, false)⟩,
  ⟨some 21, .load false 1, [.t 20], some (some 17, false)⟩,
  ⟨some 22, .bin .neq, [.t 19, .t 21], some (some 17, false)⟩,
  ⟨some 23, .pick, [.t 17, .c (.val (.bool true)), .t 22], none⟩,
  ⟨some 24, .move, [.t 23], none⟩,
  ⟨some 25, .addr 3, [.t 2], some (some 24, false)⟩,
  ⟨some 26, .load false 1, [.t 25], some (some 24, false)⟩,
  ⟨some 27, .addr 3, [.t 3], some (some 24, false)⟩,
  ⟨some 28, .load false 1, [.t 27], some (some 24, false)⟩,
  ⟨some 29, .eqB true, [.t 26, .t 28], some (some 24, false)⟩,
  ⟨some 30, .pick, [.t 24, .c (.val (.bool true)), .t 29], none⟩,
  ⟨some 31, .move, [.t 30], none⟩,
  ⟨some 32, .addr 5, [.t 2], some (some 31, false)⟩,
  ⟨some 33, .load false 1, [.t 32], some (some 31, false)⟩,
  ⟨some 34, .addr 5, [.t 3], some (some 31, false)⟩,
  ⟨some 35, .load false 1, [.t 34], some (some 31, false)⟩,
  ⟨some 36, .bin .neq, [.t 33, .t 35], some (some 31, false)⟩,
  ⟨some 37, .pick, [.t 31, .c (.val (.bool true)), .t 36], none⟩,
  ⟨some 38, .move, [.t 37], none⟩,
  ⟨some 39, .addr 6, [.t 2], some (some 38, false)⟩,
  ⟨some 40, .load false 1, [.t 39], some (some 38, false)⟩,
  ⟨some 41, .addr 6, [.t 3], some (some 38, false)⟩,
  ⟨some 42, .load false 1, [.t 41], some (some 38, false)⟩,
  ⟨some 43, .bin .neq, [.t 40, .t 42], some (some 38, false)⟩,
  ⟨some 44, .pick, [.t 38, .c (.val (.bool true)), .t 43], none⟩,
  ⟨some 45, .move, [.t 44], none⟩,
  ⟨some 46, .addr 7, [.t 2], some (some 45, false)⟩,
  ⟨some 47, .load true 3, [.t 46], some (some 45, false)⟩,
  ⟨some 48, .addr 7, [.t 3], some (some 45, false)⟩,
  ⟨some 49, .load true 3, [.t 48], some (some 45, false)⟩,
  ⟨some 50, .eqA true [(0, 0), (1, 0), (2, 1)], [.t 47, .t 49], some (some 45, false)⟩,
  ⟨some 51, .pick, [.t 45, .c (.val (.bool true)), .t 50], none⟩] [] [] [2, 3, 51] false [] []
def c10_7 : ACode := .region false [⟨some 4, .move, [.c (.val (.bool false))], none⟩] [] [] [4] false [] []
def c10_6 : ACode := .seq c10_7 .ret
def c10_5 : ACode := .cond (.t 51) c10_6 .skip
def c10_3 : ACode := .seq c10_4 c10_5
def c10_9 : ACode := .region false [⟨some 52, .addr 4, [.t 2], none⟩,
  ⟨some 53, .load false 1, [.t 52], none⟩,
  ⟨some 54, .addr 4, [.t 3], none⟩,
  ⟨some 55, .load false 1, [.t 54], none⟩,
  ⟨some 56, .call 31, [.t 53, .t 55], none⟩,
  ⟨some 57, .move, [.t 56], none⟩,
  ⟨some 58, .addr 10, [.t 2], some (some 57, true)⟩,
  ⟨some 59, .load false 1, [.t 58], some (some 57, true)⟩,
  ⟨some 60, .addr 10, [.t 3], some (some 57, true)⟩,
  ⟨some 61, .load false 1, [.t 60], some (some 57, true)⟩,
  ⟨some 62, .call 32, [.t 59, .t 61], some (some 57, true)⟩,
  ⟨some 63, .pick, [.t 57, .t 62, .c (.val (.bool false))], none⟩,
  ⟨some 64, .move, [.t 63], none⟩,
  ⟨some 65, .addr 11, [.t 2], some (some 64, true)⟩,
  ⟨some 66, .load false 1, [.t 65], some (some 64, true)⟩,
  ⟨some 67, .addr 11, [.t 3], some (some 64, true)⟩,
  ⟨some 68, .load false 1, [.t 67], some (some 64, true)⟩,
  ⟨some 69, .call 33, [.t 66, .t 68], some (some 64, true)⟩,
  ⟨some 70, .pick, [.t 64, .t 69, .c (.val (.bool false))], none⟩,
  ⟨some 4, .move, [.t 70], none⟩] [] [] [4] true [] []
def c10_8 : ACode := .seq c10_9 .ret
def c10_2 : ACode := .seq c10_3 c10_8
def c10_0 : ACode := .seq c10_1 c10_2
def code10 : Code := (Tryz.f10.body).getD .skip
theorem c10_ok : compC Tryz.prog 71 code10 = some (strip c10_0) := by kernel_rfl
theorem res10_ok : Tryz.f10.results.toList.mapM (resC Tryz.prog) = some [(4, none)] := by kernel_rfl
theorem wsame_any (x y : Wm) (a b c d e f : Nat) (hx : x.peers.length ≤ 1099511627776 ∧ x.marks.length ≤ 1099511627776 ∧ x.ents.length ≤ 1099511627776) (hy : y.peers.length ≤ 1099511627776 ∧ y.marks.length ≤ 1099511627776 ∧ y.ents.length ≤ 1099511627776) :
    ACall Tryz.prog 13 [WmA x 0 a 1 b 2 c, WmA y 3 d 4 e 5 f] [.cells true (Ri a x.peers), .cells true (Rm b x.marks), .cells true (Re c x.ents), .cells true (Ri d y.peers), .cells true (Rm e y.marks), .cells true (Re f y.ents)]
      (Det (Bo (sameW x y)) [.cells true (Ri a x.peers), .cells true (Rm b x.marks), .cells true (Re c x.ents), .cells true (Ri d y.peers), .cells true (Rm e y.marks), .cells true (Re f y.ents)]) := by
  have hi := ri_ren
  have hm := rm_ren
  have he := re_ren
  have c1 := eqli_any a d x.peers y.peers hx.1 hy.1
  have c2 := eqlm_any b e x.marks y.marks hx.2.1 hy.2.1
  have c3 := eqle_any c f x.ents y.ents hx.2.2 hy.2.2
  obtain ⟨x1, x2, x3, x4, x5, x6, x7, ⟨⟨x8, x9⟩, x10⟩, x11, x12⟩ := x
  obtain ⟨y1, y2, y3, y4, y5, y6, y7, ⟨⟨y8, y9⟩, y10⟩, y11, y12⟩ := y
  unfold sameW
  simp only at c1 c2 c3 ⊢
  clear hx hy
  generalize decide (x5 = y5) = b1 at *
  generalize decide (x11 = y11) = b2 at *
  generalize decide (x12 = y12) = b3 at *
  refine ACall.startA c13_ok Tryz.func13 rfl Tryz.ntmps13 (by kernel_rfl) res13_ok rfl rfl rfl ?_; simp (maxSteps := 9999999) (disch := omega) only [go_sem]
  (have k9 := And.intro @hi (And.intro @hm (And.intro @he (k0))); (repeat' (first | refine AWpA.seq ?_ | refine AWpA.block ?_ | (with_reducible refine CondP.tt ?_) | (with_reducible refine CondP.ff ?_) | refine AWpA.cg ?_ | ((first | refine AWpA.rg ?_ | refine AWpA.dg [] [] follows ?_ | refine TailK.tg ?_ | refine AWpA.skip ?_ | refine AWpA.exit ?_ | refine AWpA.ret ?_ | (with_reducible refine ARoundsA.succ ?_) | ((first | refine Runs.gkt (fun h9 => ?_) | refine Runs.gkf (fun h9 => ?_) | refine Runs.gnt (fun h9 => ?_) | refine Runs.gnf (fun h9 => ?_) | refine CondP.gt (fun h9 => ?_) | refine CondP.gf (fun h9 => ?_) | refine CondP.gnt (fun h9 => ?_) | refine CondP.gnf (fun h9 => ?_)); (try simp only [h9]); clear h9) | refine CallG.pg [0, 3] (c1) ?_ | refine CallG.pg [1, 4] (c2) ?_ | refine CallG.pg [2, 5] (c3) ?_ | refine CallG.dg [0, 3] (c1) ?_ | refine CallG.dg [1, 4] (c2) ?_ | refine CallG.dg [2, 5] (c3) ?_); (try simp (maxSteps := 9999999) (disch := omega) only [go_sem, k9]); (try refine cnd ?_)) | ((first | refine CondP.split (fun hif => ?_) (fun hif => ?_) | refine Runs.part (fun hif => ?_) (fun hif => ?_)) <;> ((try simp only [hif]); (try simp only [BL] at hif); (try (have h9 : _ = true := hif; simp only [h9])); (try (have h9 : _ = false := hif; simp only [h9])); (try simp (maxSteps := 9999999) (disch := omega) only [go_sem, k9]); (try refine cnd ?_); (try (exfalso; omega; done)))))); (all_goals (try clear k9)))
  all_goals (apply Ret.det [0, 1, 2, 3, 4, 5]; (focus (first | exact .inl rfl | exact .inr rfl)); (focus (simp (maxSteps := 9999999) (disch := omega) only [go_sem, hi, hm, he]; rfl)); (simp (maxSteps := 9999999) (disch := omega) only [go_sem, hi, hm, he]; (try (repeat' (first | done | trivial | rfl | exact leAs_rfl _ | decide | (refine And.intro ?_ ?_) | (simp; done) | omega | (simp; decide))))))
end
end Go.Proofs.YtopidfkmligljaaGreat
