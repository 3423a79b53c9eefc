/- The walk of WireCuts. -/
import Derived.Test.YtopidfkmligljaaGreatWr2
import Derived.Test.YtopidfkmligljaaGreatWq5
import Derived.Test.YtopidfkmligljaaGreatWq3
import Derived.Test.YtopidfkmligljaaGreatEg5
import Derived.Test.YtopidfkmligljaaGreatWu1
import Derived.Test.YtopidfkmligljaaGreatWs3
import Derived.Test.YtopidfkmligljaaGreatWu4
/- Contract: a message's bytes, or that it may not be. -/
namespace Go.Proofs.YtopidfkmligljaaGreat
noncomputable section
set_option linter.unusedSimpArgs false
set_option linter.unusedVariables false
set_option maxHeartbeats 4000000
open Go Go.Am Go.RowKit
set_option maxRecDepth 100000
set_option maxHeartbeats 8000000
/- quidnunc/wire.Encode -/
def c12_1 : ACode := .region false [⟨some 1, .box 0, [.t 0], none⟩,
  ⟨some 2, .move, [.c (.val (.slice none 0 0))], none⟩,
  ⟨some 3, .move, [.c (.val (.int .i64 0))], none⟩] [] [] [1] true [] []
def c12_4 : ACode := .region false [⟨some 8, .load true 12, [.t 1], none⟩,
  ⟨some 9, .call 17, [.t 8], none⟩,
  ⟨some 4, .move, [.t 9], none⟩] [] [] [1, 4] true [] []
def c12_6 : ACode := .region false [⟨some 10, .move, [.t 4], none⟩,
  ⟨some 11, .bin .neq, [.t 10, .c (.val (.int .i64 0))], none⟩] [] [] [1, 4, 11] false [] []
def c12_9 : ACode := .region false [⟨some 12, .move, [.t 4], none⟩,
  ⟨some 2, .move, [.c (.val (.slice none 0 0))], none⟩,
  ⟨some 3, .move, [.t 12], none⟩] [] [] [2, 3] false [] []
def c12_8 : ACode := .seq c12_9 .ret
def c12_7 : ACode := .cond (.t 11) c12_8 .skip
def c12_5 : ACode := .seq c12_6 c12_7
def c12_3 : ACode := .seq c12_4 c12_5
def c12_11 : ACode := .region false [⟨some 14, .addr 0, [.t 1], none⟩,
  ⟨some 15, .load false 1, [.t 14], none⟩,
  ⟨some 16, .call 21, [.t 15], none⟩,
  ⟨some 13, .move, [.t 16], none⟩,
  ⟨some 17, .ext 0, [.t 13], none⟩,
  ⟨some 18, .ext 1, [.t 13], none⟩,
  ⟨some 5, .alloc [(.string ⟨#[]⟩), (.int .i64 0), (.int .i64 0), (.int .i64 0), (.int .i64 0), (.int .i64 0)], [], none⟩,
  ⟨none, .store 6, [.t 5, .t 17], none⟩,
  ⟨some 6, .move, [.t 18], none⟩] [] [] [1, 5] true [] []
def c12_13 : ACode := .region false [⟨some 7, .alloc [(.slice none 0 0), (.int .i64 0)], [], none⟩] [] [] [1, 5, 7] true [] []
def c12_15 : ACode := .region true [⟨some 19, .addr 1, [.t 5], none⟩,
  ⟨some 20, .load false 1, [.t 19], none⟩,
  ⟨some 21, .load true 12, [.t 1], none⟩,
  ⟨some 22, .call 36, [.t 7, .t 21], none⟩,
  ⟨some 23, .call 23, [.t 20, .t 22], none⟩] [] [] [7] true [] []
def c12_17 : ACode := .region false [⟨some 24, .call 37, [.t 7], none⟩,
  ⟨some 25, .call 38, [.t 7], none⟩,
  ⟨some 2, .move, [.t 24], none⟩,
  ⟨some 3, .move, [.t 25], none⟩] [] [] [2, 3] true [] []
def c12_16 : ACode := .seq c12_17 .ret
def c12_14 : ACode := .seq c12_15 c12_16
def c12_12 : ACode := .seq c12_13 c12_14
def c12_10 : ACode := .seq c12_11 c12_12
def c12_2 : ACode := .seq c12_3 c12_10
def c12_0 : ACode := .seq c12_1 c12_2
def code12 : Code := (Tryz.f12.body).getD .skip
theorem c12_ok : compC Tryz.prog 26 code12 = some (strip c12_0) := by kernel_rfl
theorem res12_ok : Tryz.f12.results.toList.mapM (resC Tryz.prog) = some [(2, none), (3, none)] := by kernel_rfl
def encW (m : Wm) : List Int := cond (goodW m == 0) (wB m) []
theorem wencode_any (m : Wm) (a b c : Nat) (hl : m.peers.length ≤ 1099511627776 ∧ m.marks.length ≤ 1099511627776 ∧ m.ents.length ≤ 1099511627776) (hs : sumR m) : ACall Tryz.prog 12 [WmA m 0 a 1 b 2 c] [.cells true (Ri a m.peers), .cells true (Rm b m.marks), .cells true (Re c m.ents)] (Det (.tup [.sl 3 0 (encW m).length 1 none, I (goodW m)]) [.cells true (Ri a m.peers), .cells true (Rm b m.marks), .cells true (Re c m.ents), .cells false (bA (encW m))]) := by
  have hi := ri_ren
  have hm := rm_ren
  have he := re_ren
  have g1 := wgood_any m a b c hl
  by_cases h : goodW m = 0
  · have e1 : encW m = wB m := by simp [encW, h]
    have hw := good_w h
    have hk : kindB m.kind = true := by
      have := hw.kind
      unfold kindB
      rw [decide_eq_true (p := 1 ≤ m.kind) (by omega), decide_eq_true (p := m.kind ≤ 19) (by omega)]
      rfl
    have f1 := formof_any m.kind
    unfold formV at f1
    rw [hk] at f1
    simp only [cond_true] at f1
    have l1 := lays_any m a b c []
    have c1 := eachL_any m a b c hk (good_f hw hs) [] (by simp)
    have hB : wBn m.kind m 9 = wB m := rfl
    simp only [List.nil_append, List.length_nil, bA_nil] at c1 l1
    rw [hB] at c1
    have hln := wB_len hw hs
    have c2 := bytes_any (wB m) 0 (by omega)
    have c3 := werr_any 0
    rw [e1, h]
    rw [h] at g1
    clear e1 h hw hk hB hln hs hl
    generalize wB m = B at *
    refine ACall.startA c12_ok Tryz.func12 rfl Tryz.ntmps12 (by kernel_rfl) res12_ok rfl rfl rfl ?_; simp (maxSteps := 9999999) (disch := omega) only [go_sem]
    refine AWpA.dummy ?_
    (have k9 := And.intro @hi (And.intro @hm (And.intro @he (And.intro @bA_ren (And.intro @hi (And.intro @hm (And.intro @he (And.intro @bA_ren (k0)))))))); have x9 := Xs.mk [276, 3] []; have a1 := Arm.mk [0, 1, 2] g1; have a2 := Arm.mk [] f1; have a3 := Arm.mk [276, 0, 1, 2, 3] l1; have a4 := Arm.mk [340, 341, 276, 3, 0, 1, 2] c1; have a5 := Arm.mk [276, 356] c2; have a6 := Arm.mk [276] c3; have e9 := Ends.mk [0, 1, 2, 372]; exact goE)
  · have e1 : encW m = [] := by
      unfold encW
      rw [show (goodW m == 0) = false by simpa using h]
      rfl
    rw [e1]
    generalize goodW m = k at *
    clear e1 hl hs
    have h2 : (k == 0) = false := by simpa using h
    refine ACall.startA c12_ok Tryz.func12 rfl Tryz.ntmps12 (by kernel_rfl) res12_ok rfl rfl rfl ?_; simp (maxSteps := 9999999) (disch := omega) only [go_sem]
    refine AWpA.dummy ?_
    (have k9 := And.intro @hi (And.intro @hm (And.intro @he (And.intro @h (And.intro @h2 (And.intro @hi (And.intro @hm (And.intro @he (And.intro @h (And.intro @bA_nil (k0)))))))))); have a1 := Arm.mk [0, 1, 2] g1; have e9 := Ends.mk [0, 1, 2, 3]; exact goE)
end
end Go.Proofs.YtopidfkmligljaaGreat
/- Contract: the law's example. -/
namespace Go.Proofs.YtopidfkmligljaaGreat
noncomputable section
set_option linter.unusedSimpArgs false
set_option linter.unusedVariables false
set_option maxHeartbeats 4000000
open Go Go.Am Go.RowKit
set_option maxRecDepth 100000
set_option maxHeartbeats 8000000
/- quidnunc/quidnunclaw16.speaks -/
def c7_1 : ACode := .region false [⟨some 0, .move, [.c (.val (.bool false))], none⟩] [] [] [] false [] []
def c7_3 : ACode := .region false [⟨some 4, .buildSl 1 2 [(.int .i64 0)] [(0, 1), (1, 1)], [.c (.val (.int .i64 3)), .c (.val (.int .i64 7))], none⟩,
  ⟨some 5, .build [(.int .i64 0), (.int .i64 0), (.int .i64 0), (.bool false), (.slice none 0 0), (.int .i64 0), (.int .u64 0), (.int .i64 0), (.int .i64 0), (.string ⟨#[]⟩), (.slice none 0 0), (.slice none 0 0)] [(0, 1), (4, 1)], [.c (.val (.int .i64 8)), .t 4], none⟩,
  ⟨some 6, .call 12, [.t 5], none⟩,
  ⟨some 3, .move, [.t 6], none⟩,
  ⟨some 7, .ext 0, [.t 3], none⟩,
  ⟨some 8, .ext 1, [.t 3], none⟩,
  ⟨some 1, .move, [.t 7], none⟩,
  ⟨some 2, .move, [.t 8], none⟩] [] [] [1, 2] true [] []
def c7_5 : ACode := .region false [⟨some 9, .move, [.t 2], none⟩,
  ⟨some 10, .bin .eql, [.t 9, .c (.val (.int .i64 0))], none⟩,
  ⟨some 11, .move, [.t 10], none⟩,
  ⟨some 12, .move, [.t 1], some (some 11, true)⟩,
  ⟨some 13, .toStr, [.t 12], some (some 11, true)⟩,
  ⟨some 14, .bin .eql, [.t 13, .c (.val (.string ⟨#[2, 3, 7]⟩))], some (some 11, true)⟩,
  ⟨some 15, .pick, [.t 11, .t 14, .c (.val (.bool false))], none⟩,
  ⟨some 0, .move, [.t 15], none⟩] [] [] [0] false [] []
def c7_4 : ACode := .seq c7_5 .ret
def c7_2 : ACode := .seq c7_3 c7_4
def c7_0 : ACode := .seq c7_1 c7_2
def code7 : Code := (Tryz.f7.body).getD .skip
theorem c7_ok : compC Tryz.prog 16 code7 = some (strip c7_0) := by kernel_rfl
theorem res7_ok : Tryz.f7.results.toList.mapM (resC Tryz.prog) = some [(0, none)] := by kernel_rfl
def spM : Wm := ⟨8, 0, 0, false, [3, 7], 0, 0, noMk, [], []⟩
theorem spM_good : goodW spM = 0 := by decide +kernel
theorem spM_enc : encW spM = [2, 3, 7] := by decide +kernel
theorem speaks16 : ACall Tryz.prog 7 [] [] (Det (Bo true) []) := by
  have c := wencode_any spM 0 0 0 (by decide) ⟨by decide, by decide⟩
  rw [spM_good, spM_enc] at c
  have h1 : Ri 0 spM.peers = [I 3, I 7] := rfl
  have h2 : Rm 0 spM.marks = [] := rfl
  have h3 : Re 0 spM.ents = [] := rfl
  have h4 : bA [2, 3, 7] = [U8 2, U8 3, U8 7] := rfl
  rw [h1, h2, h3, h4] at c
  simp only [spM, List.length_cons, List.length_nil, Nat.reduceAdd] at c
  have h5 : ((⟨(toB [2, 3, 7]).toArray⟩ : ByteArray) == ⟨#[2, 3, 7]⟩) = true := by decide +kernel
  refine ACall.startA c7_ok Tryz.func7 rfl Tryz.ntmps7 (by kernel_rfl) res7_ok rfl rfl rfl ?_; simp (maxSteps := 9999999) (disch := omega) only [go_sem]
  refine AWpA.dummy ?_
  refine AWpA.dummy ?_
  (have k9 := And.intro @h5 (k0); (repeat' (first | refine AWpA.seq ?_ | refine AWpA.block ?_ | (with_reducible refine CondP.tt ?_) | (with_reducible refine CondP.ff ?_) | refine AWpA.cg ?_ | ((first | refine AWpA.rg ?_ | refine AWpA.dg [] [] follows ?_ | refine TailK.tg ?_ | refine AWpA.skip ?_ | refine AWpA.exit ?_ | refine AWpA.ret ?_ | (with_reducible refine ARoundsA.succ ?_) | ((first | refine Runs.gkt (fun h9 => ?_) | refine Runs.gkf (fun h9 => ?_) | refine Runs.gnt (fun h9 => ?_) | refine Runs.gnf (fun h9 => ?_) | refine CondP.gt (fun h9 => ?_) | refine CondP.gf (fun h9 => ?_) | refine CondP.gnt (fun h9 => ?_) | refine CondP.gnf (fun h9 => ?_)); (try simp only [h9]); clear h9) | refine CallG.pg [18, 0, 1] (c) ?_ | refine CallG.dg [18, 0, 1] (c) ?_); (try simp (maxSteps := 9999999) (disch := omega) only [go_sem, k9]); (try refine cnd ?_)) | ((first | refine CondP.split (fun hif => ?_) (fun hif => ?_) | refine Runs.part (fun hif => ?_) (fun hif => ?_)) <;> ((try simp only [hif]); (try simp only [BL] at hif); (try (have h9 : _ = true := hif; simp only [h9])); (try (have h9 : _ = false := hif; simp only [h9])); (try simp (maxSteps := 9999999) (disch := omega) only [go_sem, k9]); (try refine cnd ?_); (try (exfalso; omega; done)))))); (all_goals (try clear k9)))
  all_goals (apply Ret.det []; (focus (first | exact .inl rfl | exact .inr rfl)); (focus (simp (maxSteps := 9999999) (disch := omega) only [go_sem]; rfl)); (simp (maxSteps := 9999999) (disch := omega) only [go_sem]; (try (repeat' (first | done | trivial | rfl | exact leAs_rfl _ | decide | (refine And.intro ?_ ?_) | (simp; done) | omega | (simp; decide))))))
end
end Go.Proofs.YtopidfkmligljaaGreat
/- Contract: messages that are the same, as the document says. -/
namespace Go.Proofs.YtopidfkmligljaaGreat
noncomputable section
set_option linter.unusedSimpArgs false
set_option linter.unusedVariables false
set_option maxHeartbeats 4000000
open Go Go.Am Go.RowKit
set_option maxRecDepth 100000
set_option maxHeartbeats 8000000

theorem rsame16_any (x y : Wm) (a b c d e f : Nat) (hx : x.peers.length ≤ 1099511627776 ∧ x.marks.length ≤ 1099511627776 ∧ x.ents.length ≤ 1099511627776) (hy : y.peers.length ≤ 1099511627776 ∧ y.marks.length ≤ 1099511627776 ∧ y.ents.length ≤ 1099511627776) :
    ACall Tryz.prog 10 [WmA x 0 a 1 b 2 c, WmA y 3 d 4 e 5 f] [.cells true (Ri a x.peers), .cells true (Rm b x.marks), .cells true (Re c x.ents), .cells true (Ri d y.peers), .cells true (Rm e y.marks), .cells true (Re f y.ents)]
      (Det (Bo (sameW x y)) [.cells true (Ri a x.peers), .cells true (Rm b x.marks), .cells true (Re c x.ents), .cells true (Ri d y.peers), .cells true (Rm e y.marks), .cells true (Re f y.ents)]) := by
  have hi := ri_ren
  have hm := rm_ren
  have he := re_ren
  have c1 := rpeers_any a d x.peers y.peers hx.1 hy.1
  have c2 := same10_any b e x.marks y.marks hx.2.1 hy.2.1
  have c3 := rents_any c f x.ents y.ents hx.2.2 hy.2.2
  obtain ⟨x1, x2, x3, x4, x5, x6, x7, ⟨⟨x8, x9⟩, x10⟩, x11, x12⟩ := x
  obtain ⟨y1, y2, y3, y4, y5, y6, y7, ⟨⟨y8, y9⟩, y10⟩, y11, y12⟩ := y
  unfold sameW
  simp only at c1 c2 c3 ⊢
  clear hx hy
  generalize decide (x5 = y5) = b1 at *
  generalize decide (x11 = y11) = b2 at *
  generalize decide (x12 = y12) = b3 at *
  refine ACall.startA c10_ok Tryz.func10 rfl Tryz.ntmps10 (by kernel_rfl) res10_ok rfl rfl rfl ?_; simp (maxSteps := 9999999) (disch := omega) only [go_sem]
  (have k9 := And.intro @hi (And.intro @hm (And.intro @he (k0))); (repeat' (first | refine AWpA.seq ?_ | refine AWpA.block ?_ | (with_reducible refine CondP.tt ?_) | (with_reducible refine CondP.ff ?_) | refine AWpA.cg ?_ | ((first | refine AWpA.rg ?_ | refine AWpA.dg [] [] follows ?_ | refine TailK.tg ?_ | refine AWpA.skip ?_ | refine AWpA.exit ?_ | refine AWpA.ret ?_ | (with_reducible refine ARoundsA.succ ?_) | ((first | refine Runs.gkt (fun h9 => ?_) | refine Runs.gkf (fun h9 => ?_) | refine Runs.gnt (fun h9 => ?_) | refine Runs.gnf (fun h9 => ?_) | refine CondP.gt (fun h9 => ?_) | refine CondP.gf (fun h9 => ?_) | refine CondP.gnt (fun h9 => ?_) | refine CondP.gnf (fun h9 => ?_)); (try simp only [h9]); clear h9) | refine CallG.pg [0, 3] (c1) ?_ | refine CallG.pg [1, 4] (c2) ?_ | refine CallG.pg [2, 5] (c3) ?_ | refine CallG.dg [0, 3] (c1) ?_ | refine CallG.dg [1, 4] (c2) ?_ | refine CallG.dg [2, 5] (c3) ?_); (try simp (maxSteps := 9999999) (disch := omega) only [go_sem, k9]); (try refine cnd ?_)) | ((first | refine CondP.split (fun hif => ?_) (fun hif => ?_) | refine Runs.part (fun hif => ?_) (fun hif => ?_)) <;> ((try simp only [hif]); (try simp only [BL] at hif); (try (have h9 : _ = true := hif; simp only [h9])); (try (have h9 : _ = false := hif; simp only [h9])); (try simp (maxSteps := 9999999) (disch := omega) only [go_sem, k9]); (try refine cnd ?_); (try (exfalso; omega; done)))))); (all_goals (try clear k9)))
  all_goals (apply Ret.det [0, 1, 2, 3, 4, 5]; (focus (first | exact .inl rfl | exact .inr rfl)); (focus (simp (maxSteps := 9999999) (disch := omega) only [go_sem, hi, hm, he]; rfl)); (simp (maxSteps := 9999999) (disch := omega) only [go_sem, hi, hm, he]; (try (repeat' (first | done | trivial | rfl | exact leAs_rfl _ | decide | (refine And.intro ?_ ?_) | (simp; done) | omega | (simp; decide))))))
  all_goals (simp [*])
end
end Go.Proofs.YtopidfkmligljaaGreat
namespace Go.Proofs.YtopidfkmligljaaGreat
noncomputable section
set_option linter.unusedSimpArgs false
set_option linter.unusedVariables false
set_option maxHeartbeats 4000000
open Go Go.Am Go.RowKit Go.ChangeShapes Go.WideShapes Go.ChangeAt
set_option maxRecDepth 100000
set_option maxHeartbeats 8000000
def St.rep (a : St) : List Value := (fun n : Int => [.int .i64 n]) a.c ++ (fun n : Int => [.int .i64 n]) a.s
structure St.ok (W : World) (a : St) : Prop where
  c : (fun n : Int => IntKind.i64.min ≤ n ∧ n ≤ IntKind.i64.max) a.c
  s : (fun n : Int => IntKind.i64.min ≤ n ∧ n ≤ IntKind.i64.max) a.s
set_option maxRecDepth 100000 in
theorem rd_St {H : Type} {enc : TypeId × Value → H} {W : World} {base : Nat} {held : Bool} : Am.Rd enc Tryz.prog W base held 37 St.rep (St.ok W) := fun n cs x h => by
  obtain ⟨xs, n1, _, _, hlen, hx, hf⟩ := DataW.trod_struct Tryz.underlying37 h
  rw [show Tryz.prog.cellsOf 37 = 2 by kernel_rfl] at hlen
  have f0 : DataW.trod enc Tryz.prog W base (fun _ => true) held n1 3 ((cs.drop 0).take (Tryz.prog.cellsOf 3)) = xs[0]? := hf 0 _ rfl
  rw [show Tryz.prog.cellsOf 3 = 1 by kernel_rfl] at f0
  obtain ⟨y0, h0⟩ := at_some2 hx (by decide) f0
  obtain ⟨g0, a0, e0, w0⟩ := (rd_int Tryz.underlying3 : Am.Rd _ _ _ _ _ _ (fun n : Int => [.int .i64 n]) (fun n : Int => IntKind.i64.min ≤ n ∧ n ≤ IntKind.i64.max)) _ _ _ h0
  have f1 : DataW.trod enc Tryz.prog W base (fun _ => true) held n1 3 ((cs.drop 1).take (Tryz.prog.cellsOf 3)) = xs[1]? := hf 1 _ rfl
  rw [show Tryz.prog.cellsOf 3 = 1 by kernel_rfl] at f1
  obtain ⟨y1, h1⟩ := at_some2 hx (by decide) f1
  obtain ⟨g1, a1, e1, w1⟩ := (rd_int Tryz.underlying3 : Am.Rd _ _ _ _ _ _ (fun n : Int => [.int .i64 n]) (fun n : Int => IntKind.i64.min ≤ n ∧ n ≤ IntKind.i64.max)) _ _ _ h1
  match cs, hlen with
  | [c0, c1], _ =>
    simp [Sl.rep, St.rep] at e0 g0
    simp [Sl.rep, St.rep] at e1 g1
    exact ⟨by simp [*, Value.oneCell'], ⟨a0, a1⟩, by simp [Sl.rep, St.rep, *], ⟨w0, w1⟩⟩
def Mk.rep (a : Mk) : List Value := (St.rep) a.act ++ (fun s : ByteArray => [.string s]) a.key
structure Mk.ok (W : World) (a : Mk) : Prop where
  act : (St.ok W) a.act
  key : (fun s : ByteArray => s.size ≤ maxLen) a.key
set_option maxRecDepth 100000 in
theorem rd_Mk {H : Type} {enc : TypeId × Value → H} {W : World} {base : Nat} {held : Bool} : Am.Rd enc Tryz.prog W base held 39 Mk.rep (Mk.ok W) := fun n cs x h => by
  obtain ⟨xs, n1, _, _, hlen, hx, hf⟩ := DataW.trod_struct Tryz.underlying39 h
  rw [show Tryz.prog.cellsOf 39 = 3 by kernel_rfl] at hlen
  have f0 : DataW.trod enc Tryz.prog W base (fun _ => true) held n1 37 ((cs.drop 0).take (Tryz.prog.cellsOf 37)) = xs[0]? := hf 0 _ rfl
  rw [show Tryz.prog.cellsOf 37 = 2 by kernel_rfl] at f0
  obtain ⟨y0, h0⟩ := at_some2 hx (by decide) f0
  obtain ⟨g0, a0, e0, w0⟩ := (rd_St : Am.Rd _ _ _ _ _ _ (St.rep) (St.ok W)) _ _ _ h0
  have f1 : DataW.trod enc Tryz.prog W base (fun _ => true) held n1 9 ((cs.drop 2).take (Tryz.prog.cellsOf 9)) = xs[1]? := hf 1 _ rfl
  rw [show Tryz.prog.cellsOf 9 = 1 by kernel_rfl] at f1
  obtain ⟨y1, h1⟩ := at_some2 hx (by decide) f1
  obtain ⟨g1, a1, e1, w1⟩ := (rd_string Tryz.underlying9 : Am.Rd _ _ _ _ _ _ (fun s : ByteArray => [.string s]) (fun s : ByteArray => s.size ≤ maxLen)) _ _ _ h1
  match cs, hlen with
  | [c0, c1, c2], _ =>
    simp [Sl.rep, St.rep, Mk.rep] at e0 g0
    simp [Sl.rep, St.rep, Mk.rep] at e1 g1
    exact ⟨by simp [*, Value.oneCell'], ⟨a0, a1⟩, by simp [Sl.rep, St.rep, Mk.rep, *], ⟨w0, w1⟩⟩
def En.rep (a : En) : List Value := (fun s : ByteArray => [.string s]) a.key ++ (fun s : ByteArray => [.string s]) a.val ++ (fun b : Bool => [.bool b]) a.dead ++ (St.rep) a.st ++ (St.rep) a.act ++ (fun n : Int => [.int .i64 n]) a.keep ++ (fun n : Int => [.int .i64 n]) a.age
structure En.ok (W : World) (a : En) : Prop where
  key : (fun s : ByteArray => s.size ≤ maxLen) a.key
  val : (fun s : ByteArray => s.size ≤ maxLen) a.val
  dead : (fun _ : Bool => True) a.dead
  st : (St.ok W) a.st
  act : (St.ok W) a.act
  keep : (fun n : Int => IntKind.i64.min ≤ n ∧ n ≤ IntKind.i64.max) a.keep
  age : (fun n : Int => IntKind.i64.min ≤ n ∧ n ≤ IntKind.i64.max) a.age
set_option maxRecDepth 100000 in
theorem rd_En {H : Type} {enc : TypeId × Value → H} {W : World} {base : Nat} {held : Bool} : Am.Rd enc Tryz.prog W base held 91 En.rep (En.ok W) := fun n cs x h => by
  obtain ⟨xs, n1, _, _, hlen, hx, hf⟩ := DataW.trod_struct Tryz.underlying91 h
  rw [show Tryz.prog.cellsOf 91 = 9 by kernel_rfl] at hlen
  have f0 : DataW.trod enc Tryz.prog W base (fun _ => true) held n1 9 ((cs.drop 0).take (Tryz.prog.cellsOf 9)) = xs[0]? := hf 0 _ rfl
  rw [show Tryz.prog.cellsOf 9 = 1 by kernel_rfl] at f0
  obtain ⟨y0, h0⟩ := at_some2 hx (by decide) f0
  obtain ⟨g0, a0, e0, w0⟩ := (rd_string Tryz.underlying9 : Am.Rd _ _ _ _ _ _ (fun s : ByteArray => [.string s]) (fun s : ByteArray => s.size ≤ maxLen)) _ _ _ h0
  have f1 : DataW.trod enc Tryz.prog W base (fun _ => true) held n1 9 ((cs.drop 1).take (Tryz.prog.cellsOf 9)) = xs[1]? := hf 1 _ rfl
  rw [show Tryz.prog.cellsOf 9 = 1 by kernel_rfl] at f1
  obtain ⟨y1, h1⟩ := at_some2 hx (by decide) f1
  obtain ⟨g1, a1, e1, w1⟩ := (rd_string Tryz.underlying9 : Am.Rd _ _ _ _ _ _ (fun s : ByteArray => [.string s]) (fun s : ByteArray => s.size ≤ maxLen)) _ _ _ h1
  have f2 : DataW.trod enc Tryz.prog W base (fun _ => true) held n1 4 ((cs.drop 2).take (Tryz.prog.cellsOf 4)) = xs[2]? := hf 2 _ rfl
  rw [show Tryz.prog.cellsOf 4 = 1 by kernel_rfl] at f2
  obtain ⟨y2, h2⟩ := at_some2 hx (by decide) f2
  obtain ⟨g2, a2, e2, w2⟩ := (rd_bool Tryz.underlying4 : Am.Rd _ _ _ _ _ _ (fun b : Bool => [.bool b]) (fun _ : Bool => True)) _ _ _ h2
  have f3 : DataW.trod enc Tryz.prog W base (fun _ => true) held n1 37 ((cs.drop 3).take (Tryz.prog.cellsOf 37)) = xs[3]? := hf 3 _ rfl
  rw [show Tryz.prog.cellsOf 37 = 2 by kernel_rfl] at f3
  obtain ⟨y3, h3⟩ := at_some2 hx (by decide) f3
  obtain ⟨g3, a3, e3, w3⟩ := (rd_St : Am.Rd _ _ _ _ _ _ (St.rep) (St.ok W)) _ _ _ h3
  have f4 : DataW.trod enc Tryz.prog W base (fun _ => true) held n1 37 ((cs.drop 5).take (Tryz.prog.cellsOf 37)) = xs[4]? := hf 4 _ rfl
  rw [show Tryz.prog.cellsOf 37 = 2 by kernel_rfl] at f4
  obtain ⟨y4, h4⟩ := at_some2 hx (by decide) f4
  obtain ⟨g4, a4, e4, w4⟩ := (rd_St : Am.Rd _ _ _ _ _ _ (St.rep) (St.ok W)) _ _ _ h4
  have f5 : DataW.trod enc Tryz.prog W base (fun _ => true) held n1 3 ((cs.drop 7).take (Tryz.prog.cellsOf 3)) = xs[5]? := hf 5 _ rfl
  rw [show Tryz.prog.cellsOf 3 = 1 by kernel_rfl] at f5
  obtain ⟨y5, h5⟩ := at_some2 hx (by decide) f5
  obtain ⟨g5, a5, e5, w5⟩ := (rd_int Tryz.underlying3 : Am.Rd _ _ _ _ _ _ (fun n : Int => [.int .i64 n]) (fun n : Int => IntKind.i64.min ≤ n ∧ n ≤ IntKind.i64.max)) _ _ _ h5
  have f6 : DataW.trod enc Tryz.prog W base (fun _ => true) held n1 3 ((cs.drop 8).take (Tryz.prog.cellsOf 3)) = xs[6]? := hf 6 _ rfl
  rw [show Tryz.prog.cellsOf 3 = 1 by kernel_rfl] at f6
  obtain ⟨y6, h6⟩ := at_some2 hx (by decide) f6
  obtain ⟨g6, a6, e6, w6⟩ := (rd_int Tryz.underlying3 : Am.Rd _ _ _ _ _ _ (fun n : Int => [.int .i64 n]) (fun n : Int => IntKind.i64.min ≤ n ∧ n ≤ IntKind.i64.max)) _ _ _ h6
  match cs, hlen with
  | [c0, c1, c2, c3, c4, c5, c6, c7, c8], _ =>
    simp [Sl.rep, St.rep, Mk.rep, En.rep] at e0 g0
    simp [Sl.rep, St.rep, Mk.rep, En.rep] at e1 g1
    simp [Sl.rep, St.rep, Mk.rep, En.rep] at e2 g2
    simp [Sl.rep, St.rep, Mk.rep, En.rep] at e3 g3
    simp [Sl.rep, St.rep, Mk.rep, En.rep] at e4 g4
    simp [Sl.rep, St.rep, Mk.rep, En.rep] at e5 g5
    simp [Sl.rep, St.rep, Mk.rep, En.rep] at e6 g6
    exact ⟨by simp [*, Value.oneCell'], ⟨a0, a1, a2, a3, a4, a5, a6⟩, by simp [Sl.rep, St.rep, Mk.rep, En.rep, *], ⟨w0, w1, w2, w3, w4, w5, w6⟩⟩
structure WmS where
  kind : Int
  peer : Int
  hops : Int
  high : Bool
  peers : Sl (Int)
  num : Int
  sum : Int
  mark : Mk
  marks : Sl (Mk)
  ents : Sl (En)
def WmS.rep (a : WmS) : List Value := (fun n : Int => [.int .i64 n]) a.kind ++ (fun n : Int => [.int .i64 n]) a.peer ++ (fun n : Int => [.int .i64 n]) a.hops ++ (fun b : Bool => [.bool b]) a.high ++ (fun s : Sl (Int) => s.rep) a.peers ++ (fun n : Int => [.int .i64 n]) a.num ++ (fun n : Int => [.int .u64 n]) a.sum ++ (Mk.rep) a.mark ++ (fun s : Sl (Mk) => s.rep) a.marks ++ (fun s : Sl (En) => s.rep) a.ents
structure WmS.ok (W : World) (a : WmS) : Prop where
  kind : (fun n : Int => IntKind.i64.min ≤ n ∧ n ≤ IntKind.i64.max) a.kind
  peer : (fun n : Int => IntKind.i64.min ≤ n ∧ n ≤ IntKind.i64.max) a.peer
  hops : (fun n : Int => IntKind.i64.min ≤ n ∧ n ≤ IntKind.i64.max) a.hops
  high : (fun _ : Bool => True) a.high
  peers : (Sl.ok W 1 (fun n : Int => [.int .i64 n]) (fun n : Int => IntKind.i64.min ≤ n ∧ n ≤ IntKind.i64.max)) a.peers
  num : (fun n : Int => IntKind.i64.min ≤ n ∧ n ≤ IntKind.i64.max) a.num
  sum : (fun n : Int => IntKind.u64.min ≤ n ∧ n ≤ IntKind.u64.max) a.sum
  mark : (Mk.ok W) a.mark
  marks : (Sl.ok W 3 (Mk.rep) (Mk.ok W)) a.marks
  ents : (Sl.ok W 9 (En.rep) (En.ok W)) a.ents
set_option maxRecDepth 100000 in
theorem rd_WmS {H : Type} {enc : TypeId × Value → H} {W : World} {base : Nat} {held : Bool} : Am.Rd enc Tryz.prog W base held 43 WmS.rep (WmS.ok W) := fun n cs x h => by
  obtain ⟨xs, n1, _, _, hlen, hx, hf⟩ := DataW.trod_struct Tryz.underlying43 h
  rw [show Tryz.prog.cellsOf 43 = 12 by kernel_rfl] at hlen
  have f0 : DataW.trod enc Tryz.prog W base (fun _ => true) held n1 3 ((cs.drop 0).take (Tryz.prog.cellsOf 3)) = xs[0]? := hf 0 _ rfl
  rw [show Tryz.prog.cellsOf 3 = 1 by kernel_rfl] at f0
  obtain ⟨y0, h0⟩ := at_some2 hx (by decide) f0
  obtain ⟨g0, a0, e0, w0⟩ := (rd_int Tryz.underlying3 : Am.Rd _ _ _ _ _ _ (fun n : Int => [.int .i64 n]) (fun n : Int => IntKind.i64.min ≤ n ∧ n ≤ IntKind.i64.max)) _ _ _ h0
  have f1 : DataW.trod enc Tryz.prog W base (fun _ => true) held n1 3 ((cs.drop 1).take (Tryz.prog.cellsOf 3)) = xs[1]? := hf 1 _ rfl
  rw [show Tryz.prog.cellsOf 3 = 1 by kernel_rfl] at f1
  obtain ⟨y1, h1⟩ := at_some2 hx (by decide) f1
  obtain ⟨g1, a1, e1, w1⟩ := (rd_int Tryz.underlying3 : Am.Rd _ _ _ _ _ _ (fun n : Int => [.int .i64 n]) (fun n : Int => IntKind.i64.min ≤ n ∧ n ≤ IntKind.i64.max)) _ _ _ h1
  have f2 : DataW.trod enc Tryz.prog W base (fun _ => true) held n1 3 ((cs.drop 2).take (Tryz.prog.cellsOf 3)) = xs[2]? := hf 2 _ rfl
  rw [show Tryz.prog.cellsOf 3 = 1 by kernel_rfl] at f2
  obtain ⟨y2, h2⟩ := at_some2 hx (by decide) f2
  obtain ⟨g2, a2, e2, w2⟩ := (rd_int Tryz.underlying3 : Am.Rd _ _ _ _ _ _ (fun n : Int => [.int .i64 n]) (fun n : Int => IntKind.i64.min ≤ n ∧ n ≤ IntKind.i64.max)) _ _ _ h2
  have f3 : DataW.trod enc Tryz.prog W base (fun _ => true) held n1 4 ((cs.drop 3).take (Tryz.prog.cellsOf 4)) = xs[3]? := hf 3 _ rfl
  rw [show Tryz.prog.cellsOf 4 = 1 by kernel_rfl] at f3
  obtain ⟨y3, h3⟩ := at_some2 hx (by decide) f3
  obtain ⟨g3, a3, e3, w3⟩ := (rd_bool Tryz.underlying4 : Am.Rd _ _ _ _ _ _ (fun b : Bool => [.bool b]) (fun _ : Bool => True)) _ _ _ h3
  have f4 : DataW.trod enc Tryz.prog W base (fun _ => true) held n1 24 ((cs.drop 4).take (Tryz.prog.cellsOf 24)) = xs[4]? := hf 4 _ rfl
  rw [show Tryz.prog.cellsOf 24 = 1 by kernel_rfl] at f4
  obtain ⟨y4, h4⟩ := at_some2 hx (by decide) f4
  obtain ⟨g4, a4, e4, w4⟩ := (rd_slice Tryz.underlying24 (show Tryz.prog.cellsOf 3 = 1 by kernel_rfl) (by decide) (rd_int Tryz.underlying3) : Am.Rd _ _ _ _ _ _ (fun s : Sl (Int) => s.rep) (Sl.ok W 1 (fun n : Int => [.int .i64 n]) (fun n : Int => IntKind.i64.min ≤ n ∧ n ≤ IntKind.i64.max))) _ _ _ h4
  have f5 : DataW.trod enc Tryz.prog W base (fun _ => true) held n1 3 ((cs.drop 5).take (Tryz.prog.cellsOf 3)) = xs[5]? := hf 5 _ rfl
  rw [show Tryz.prog.cellsOf 3 = 1 by kernel_rfl] at f5
  obtain ⟨y5, h5⟩ := at_some2 hx (by decide) f5
  obtain ⟨g5, a5, e5, w5⟩ := (rd_int Tryz.underlying3 : Am.Rd _ _ _ _ _ _ (fun n : Int => [.int .i64 n]) (fun n : Int => IntKind.i64.min ≤ n ∧ n ≤ IntKind.i64.max)) _ _ _ h5
  have f6 : DataW.trod enc Tryz.prog W base (fun _ => true) held n1 25 ((cs.drop 6).take (Tryz.prog.cellsOf 25)) = xs[6]? := hf 6 _ rfl
  rw [show Tryz.prog.cellsOf 25 = 1 by kernel_rfl] at f6
  obtain ⟨y6, h6⟩ := at_some2 hx (by decide) f6
  obtain ⟨g6, a6, e6, w6⟩ := (rd_int Tryz.underlying25 : Am.Rd _ _ _ _ _ _ (fun n : Int => [.int .u64 n]) (fun n : Int => IntKind.u64.min ≤ n ∧ n ≤ IntKind.u64.max)) _ _ _ h6
  have f7 : DataW.trod enc Tryz.prog W base (fun _ => true) held n1 39 ((cs.drop 7).take (Tryz.prog.cellsOf 39)) = xs[7]? := hf 7 _ rfl
  rw [show Tryz.prog.cellsOf 39 = 3 by kernel_rfl] at f7
  obtain ⟨y7, h7⟩ := at_some2 hx (by decide) f7
  obtain ⟨g7, a7, e7, w7⟩ := (rd_Mk : Am.Rd _ _ _ _ _ _ (Mk.rep) (Mk.ok W)) _ _ _ h7
  have f8 : DataW.trod enc Tryz.prog W base (fun _ => true) held n1 40 ((cs.drop 10).take (Tryz.prog.cellsOf 40)) = xs[8]? := hf 8 _ rfl
  rw [show Tryz.prog.cellsOf 40 = 1 by kernel_rfl] at f8
  obtain ⟨y8, h8⟩ := at_some2 hx (by decide) f8
  obtain ⟨g8, a8, e8, w8⟩ := (rd_slice Tryz.underlying40 (show Tryz.prog.cellsOf 39 = 3 by kernel_rfl) (by decide) (rd_Mk) : Am.Rd _ _ _ _ _ _ (fun s : Sl (Mk) => s.rep) (Sl.ok W 3 (Mk.rep) (Mk.ok W))) _ _ _ h8
  have f9 : DataW.trod enc Tryz.prog W base (fun _ => true) held n1 41 ((cs.drop 11).take (Tryz.prog.cellsOf 41)) = xs[9]? := hf 9 _ rfl
  rw [show Tryz.prog.cellsOf 41 = 1 by kernel_rfl] at f9
  obtain ⟨y9, h9⟩ := at_some2 hx (by decide) f9
  obtain ⟨g9, a9, e9, w9⟩ := (rd_slice Tryz.underlying41 (show Tryz.prog.cellsOf 91 = 9 by kernel_rfl) (by decide) (rd_En) : Am.Rd _ _ _ _ _ _ (fun s : Sl (En) => s.rep) (Sl.ok W 9 (En.rep) (En.ok W))) _ _ _ h9
  match cs, hlen with
  | [c0, c1, c2, c3, c4, c5, c6, c7, c8, c9, c10, c11], _ =>
    simp [Sl.rep, St.rep, Mk.rep, En.rep, WmS.rep] at e0 g0
    simp [Sl.rep, St.rep, Mk.rep, En.rep, WmS.rep] at e1 g1
    simp [Sl.rep, St.rep, Mk.rep, En.rep, WmS.rep] at e2 g2
    simp [Sl.rep, St.rep, Mk.rep, En.rep, WmS.rep] at e3 g3
    simp [Sl.rep, St.rep, Mk.rep, En.rep, WmS.rep] at e4 g4
    simp [Sl.rep, St.rep, Mk.rep, En.rep, WmS.rep] at e5 g5
    simp [Sl.rep, St.rep, Mk.rep, En.rep, WmS.rep] at e6 g6
    simp [Sl.rep, St.rep, Mk.rep, En.rep, WmS.rep] at e7 g7
    simp [Sl.rep, St.rep, Mk.rep, En.rep, WmS.rep] at e8 g8
    simp [Sl.rep, St.rep, Mk.rep, En.rep, WmS.rep] at e9 g9
    exact ⟨by simp [*, Value.oneCell'], ⟨a0, a1, a2, a3, a4, a5, a6, a7, a8, a9⟩, by simp [Sl.rep, St.rep, Mk.rep, En.rep, WmS.rep, *], ⟨w0, w1, w2, w3, w4, w5, w6, w7, w8, w9⟩⟩
def WmS.m (x : WmS) : Wm := ⟨x.kind, x.peer, x.hops, x.high, x.peers.l, x.num, x.sum, x.mark, x.marks.l, x.ents.l⟩
/- quidnunc/quidnunclaw16.WireCuts -/
end
end Go.Proofs.YtopidfkmligljaaGreat
