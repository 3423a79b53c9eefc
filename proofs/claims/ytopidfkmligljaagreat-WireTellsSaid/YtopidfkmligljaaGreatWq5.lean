/- Contract: which messages may be. -/
import Derived.Test.YtopidfkmligljaaGreatWq4
namespace Go.Proofs.YtopidfkmligljaaGreat
noncomputable section
set_option linter.unusedSimpArgs false
set_option linter.unusedVariables false
set_option maxHeartbeats 4000000
open Go Go.Am Go.RowKit
set_option maxRecDepth 100000
set_option maxHeartbeats 8000000
/-- A message without its fields. -/
def bareM (x : Wm) : Wm := { bareS x.kind x 7 with peers := cond (hasF x.kind 3) [] x.peers, marks := [], ents := [], kind := x.kind }
theorem bareS_at (x : Wm) : (bareS x.kind x 7).peer = cond (hasF x.kind 0) 0 x.peer ∧ (bareS x.kind x 7).hops = cond (hasF x.kind 1) 0 x.hops ∧ (bareS x.kind x 7).high = cond (hasF x.kind 2) false x.high ∧ (bareS x.kind x 7).num = cond (hasF x.kind 4) 0 x.num ∧ (bareS x.kind x 7).sum = cond (hasF x.kind 5) 0 x.sum ∧ (bareS x.kind x 7).mark = cond (hasF x.kind 6) noMk x.mark := by
  generalize x.kind = k
  have s1 : bareS k x 1 = { x with peer := cond (hasF k 0) 0 x.peer } := by
    rw [bareS]; cases hasF k 0 <;> rfl
  have s2 : bareS k x 2 = { x with peer := cond (hasF k 0) 0 x.peer, hops := cond (hasF k 1) 0 x.hops } := by
    rw [bareS, s1]; cases hasF k 1 <;> rfl
  have s3 : bareS k x 3 = { x with peer := cond (hasF k 0) 0 x.peer, hops := cond (hasF k 1) 0 x.hops, high := cond (hasF k 2) false x.high } := by
    rw [bareS, s2]; cases hasF k 2 <;> rfl
  have s4 : bareS k x 4 = { x with peer := cond (hasF k 0) 0 x.peer, hops := cond (hasF k 1) 0 x.hops, high := cond (hasF k 2) false x.high } := by
    rw [bareS, s3, if_neg (by simp)]
  have s5 : bareS k x 5 = { x with peer := cond (hasF k 0) 0 x.peer, hops := cond (hasF k 1) 0 x.hops, high := cond (hasF k 2) false x.high, num := cond (hasF k 4) 0 x.num } := by
    rw [bareS, s4]; cases hasF k 4 <;> rfl
  have s6 : bareS k x 6 = { x with peer := cond (hasF k 0) 0 x.peer, hops := cond (hasF k 1) 0 x.hops, high := cond (hasF k 2) false x.high, num := cond (hasF k 4) 0 x.num, sum := cond (hasF k 5) 0 x.sum } := by
    rw [bareS, s5]; cases hasF k 5 <;> rfl
  have s7 : bareS k x 7 = { x with peer := cond (hasF k 0) 0 x.peer, hops := cond (hasF k 1) 0 x.hops, high := cond (hasF k 2) false x.high, num := cond (hasF k 4) 0 x.num, sum := cond (hasF k 5) 0 x.sum, mark := cond (hasF k 6) noMk x.mark } := by
    rw [bareS, s6]; cases hasF k 6 <;> rfl
  rw [s7]
  exact ⟨rfl, rfl, rfl, rfl, rfl, rfl⟩
theorem bareM_eq (x : Wm) : sameW (bareM x) { noW with kind := x.kind } = bareW x := by
  obtain ⟨h0, h1, h2, h4, h5, h6⟩ := bareS_at x
  unfold sameW bareM bareW
  simp only [h0, h1, h2, h4, h5, h6]
  rw [mkE_dec, show hasF x.kind 1 = hasF x.kind 0 from rfl]
  have e0 : ∀ (g : Bool) (n : Int), (cond g 0 n == 0) = (g || n == 0) := fun g n => by cases g <;> rfl
  have e2 : ∀ (g h : Bool), (cond g false h == false) = (g || !h) := fun g h => by cases g <;> cases h <;> rfl
  have e3 : ∀ (g : Bool) (l : List Int), decide (cond g [] l = []) = (g || decide (l.length = 0)) := fun g l => by cases g <;> cases l <;> simp
  have e6 : ∀ (g : Bool) (m : Mk), decide (cond g noMk m = noMk) = (g || decide (m = noMk)) := fun g m => by cases g <;> simp
  rw [e0, e0, e2, e0, e0, e3, e6]
  generalize hasF x.kind 0 = g0
  generalize hasF x.kind 2 = g2
  generalize hasF x.kind 3 = g3
  generalize hasF x.kind 4 = g4
  generalize hasF x.kind 5 = g5
  generalize hasF x.kind 6 = g6
  generalize (x.peer == 0) = b0
  generalize (x.hops == 0) = b1
  generalize (!x.high) = b2
  generalize decide (x.peers.length = 0) = b3
  generalize (x.num == 0) = b4
  generalize (x.sum == 0) = b5
  generalize decide (x.mark = noMk) = b6
  simp only [beq_self_eq_true, decide_true, Bool.true_and, Bool.and_true]
  cases g0 <;> cases g2 <;> cases g3 <;> cases b0 <;> cases b1 <;> cases b2 <;> cases b3 <;> simp
/-- What may be, in the program's order. -/
def goodP (m : Wm) : Bool := bareW m && (nodeB m.peer && (decide (0 ≤ m.hops) && (decide (m.hops ≤ 8) && (decide (0 ≤ m.num) && (decide (m.num ≤ 4294967295) && ((mkE m.mark noMk || goodMk m.mark) && ((decide ((0 : Int) ≤ (m.peers.length : Int)) && (decide ((m.peers.length : Int) ≤ 8) && m.peers.all nodeB)) && ((decide ((manyLo m.kind 7 : Int) ≤ (m.marks.length : Int)) && (decide ((m.marks.length : Int) ≤ (manyHi m.kind 7 : Int)) && m.marks.all goodMk)) && (decide ((manyLo m.kind 8 : Int) ≤ (m.ents.length : Int)) && (decide ((m.ents.length : Int) ≤ (manyHi m.kind 8 : Int)) && m.ents.all fun e => checkI e == 0))))))))))
theorem goodP_eq (m : Wm) : goodP m = (bareW m && (cntW m && (numsW m && partsW m))) := by
  unfold goodP cntW numsW partsW
  rw [mkE_dec]
  have c1 : ∀ a b : Nat, decide ((a : Int) ≤ (b : Int)) = decide (a ≤ b) := fun a b => by simp
  have c2 : decide ((m.peers.length : Int) ≤ 8) = decide (m.peers.length ≤ 8) := c1 m.peers.length 8
  rw [c1, c1, c1, c1, c2, decide_eq_true (p := (0 : Int) ≤ (m.peers.length : Int)) (by omega)]
  generalize bareW m = b1
  generalize nodeB m.peer = b2
  generalize decide (0 ≤ m.hops) = b3
  generalize decide (m.hops ≤ 8) = b4
  generalize decide (0 ≤ m.num) = b5
  generalize decide (m.num ≤ 4294967295) = b6
  generalize (decide (m.mark = noMk) || goodMk m.mark) = b7
  generalize decide (m.peers.length ≤ 8) = b8
  generalize m.peers.all nodeB = b9
  generalize decide (manyLo m.kind 7 ≤ m.marks.length) = b10
  generalize decide (m.marks.length ≤ manyHi m.kind 7) = b11
  generalize m.marks.all goodMk = b12
  generalize decide (manyLo m.kind 8 ≤ m.ents.length) = b13
  generalize decide (m.ents.length ≤ manyHi m.kind 8) = b14
  generalize (m.ents.all fun e => checkI e == 0) = b15
  cases b1 <;> cases b2 <;> cases b8 <;> cases b9 <;> simp only [Bool.false_and, Bool.and_false, Bool.true_and, Bool.and_true]
  ac_rfl
theorem goodW_no {m : Wm} (h : kindB m.kind = false) : goodW m = 1 := by
  unfold goodW
  rw [if_pos]
  simp only [kindB, Bool.and_eq_false_iff, decide_eq_false_iff_not] at h
  omega
theorem goodW_yes {m : Wm} (h : kindB m.kind = true) : goodW m = if goodP m = true then 0 else 4 := by
  unfold goodW
  rw [if_neg, goodP_eq]
  simp only [kindB, Bool.and_eq_true, decide_eq_true_eq] at h
  omega
/- quidnunc/wire.Good -/
def c17_1 : ACode := .region false [⟨some 1, .box 0, [.t 0], none⟩,
  ⟨some 2, .move, [.c (.val (.int .i64 0))], none⟩] [] [] [1] true [] []
def c17_3 : ACode := .region false [⟨some 6, .addr 0, [.t 1], none⟩,
  ⟨some 7, .load false 1, [.t 6], none⟩,
  ⟨some 8, .call 21, [.t 7], none⟩,
  ⟨some 5, .move, [.t 8], none⟩,
  ⟨some 9, .ext 0, [.t 5], none⟩,
  ⟨some 10, .ext 1, [.t 5], none⟩,
  ⟨some 3, .alloc [(.string ⟨#[]⟩), (.int .i64 0), (.int .i64 0), (.int .i64 0), (.int .i64 0), (.int .i64 0)], [], none⟩,
  ⟨none, .store 6, [.t 3, .t 9], none⟩,
  ⟨some 4, .move, [.t 10], none⟩] [] [] [1, 3, 4] true [] []
def c17_6 : ACode := .region false [⟨some 11, .move, [.t 4], none⟩,
  ⟨some 12, .un .not, [.t 11], none⟩] [] [] [1, 3, 12] false [] []
def c17_9 : ACode := .region false [⟨some 2, .move, [.c (.val (.int .i64 1))], none⟩] [] [] [2] false [] []
def c17_8 : ACode := .seq c17_9 .ret
def c17_7 : ACode := .cond (.t 12) c17_8 .skip
def c17_5 : ACode := .seq c17_6 c17_7
def c17_11 : ACode := .region true [⟨some 13, .load true 12, [.t 1], none⟩,
  ⟨some 14, .addr 1, [.t 3], none⟩,
  ⟨some 15, .load false 1, [.t 14], none⟩,
  ⟨some 16, .call 50, [.t 13, .t 15], none⟩,
  ⟨some 17, .addr 0, [.t 1], none⟩,
  ⟨some 18, .load false 1, [.t 17], none⟩,
  ⟨some 19, .build [(.int .i64 0), (.int .i64 0), (.int .i64 0), (.bool false), (.slice none 0 0), (.int .i64 0), (.int .u64 0), (.int .i64 0), (.int .i64 0), (.string ⟨#[]⟩), (.slice none 0 0), (.slice none 0 0)] [(0, 1)], [.t 18], none⟩,
  ⟨some 20, .call 13, [.t 16, .t 19], none⟩,
  ⟨some 21, .move, [.t 20], none⟩,
  ⟨some 22, .addr 1, [.t 1], some (some 21, true)⟩,
  ⟨some 23, .load false 1, [.t 22], some (some 21, true)⟩,
  ⟨some 24, .call 51, [.t 23], some (some 21, true)⟩,
  ⟨some 25, .pick, [.t 21, .t 24, .c (.val (.bool false))], none⟩,
  ⟨some 26, .move, [.t 25], none⟩,
  ⟨some 27, .addr 2, [.t 1], some (some 26, true)⟩,
  ⟨some 28, .load false 1, [.t 27], some (some 26, true)⟩,
  ⟨some 29, .bin .geq, [.t 28, .c (.val (.int .i64 0))], some (some 26, true)⟩,
  ⟨some 30, .pick, [.t 26, .t 29, .c (.val (.bool false))], none⟩,
  ⟨some 31, .move, [.t 30], none⟩,
  ⟨some 32, .addr 2, [.t 1], some (some 31, true)⟩,
  ⟨some 33, .load false 1, [.t 32], some (some 31, true)⟩,
  ⟨some 34, .bin .leq, [.t 33, .c (.val (.int .i64 8))], some (some 31, true)⟩,
  ⟨some 35, .pick, [.t 31, .t 34, .c (.val (.bool false))], none⟩,
  ⟨some 36, .move, [.t 35], none⟩,
  ⟨some 37, .addr 5, [.t 1], some (some 36, true)⟩,
  ⟨some 38, .load false 1, [.t 37], some (some 36, true)⟩,
  ⟨some 39, .bin .geq, [.t 38, .c (.val (.int .i64 0))], some (some 36, true)⟩,
  ⟨some 40, .pick, [.t 36, .t 39, .c (.val (.bool false))], none⟩,
  ⟨some 41, .move, [.t 40], none⟩,
  ⟨some 42, .addr 5, [.t 1], some (some 41, true)⟩,
  ⟨some 43, .load false 1, [.t 42], some (some 41, true)⟩,
  ⟨some 44, .bin .leq, [.t 43, .c (.val (.int .i64 4294967295))], some (some 41, true)⟩,
  ⟨some 45, .pick, [.t 41, .t 44, .c (.val (.bool false))], none⟩,
  ⟨some 46, .move, [.t 45], none⟩,
  ⟨some 47, .addr 7, [.t 1], some (some 46, true)⟩,
  ⟨some 48, .load true 3, [.t 47], some (some 46, true)⟩,
  ⟨some 49, .build [(.int .i64 0), (.int .i64 0), (.string ⟨#[]⟩)] [], [], some (some 46, true)⟩,
  ⟨some 50, .eqA false [(0, 0), (1, 0), (2, 1)], [.t 48, .t 49], some (some 46, true)⟩,
  ⟨some 51, .move, [.t 50], some (some 46, true)⟩,
  ⟨some 52, .addr 7, [.t 1], some (some 51, false)⟩,
  ⟨some 53, .load true 3, [.t 52], some (some 51, false)⟩,
  ⟨some 54, .call 52, [.t 53], some (some 51, false)⟩,
  ⟨some 55, .pick, [.t 51, .c (.val (.bool true)), .t 54], some (some 46, true)⟩,
  ⟨some 56, .pick, [.t 46, .t 55, .c (.val (.bool false))], none⟩,
  ⟨some 57, .move, [.t 56], none⟩,
  ⟨some 58, .addr 4, [.t 1], some (some 57, true)⟩,
  ⟨some 59, .load false 1, [.t 58], some (some 57, true)⟩,
  ⟨some 60, .build [(.int .i64 0), (.int .i64 0)] [(0, 1), (1, 1)], [.c (.val (.int .i64 0)), .c (.val (.int .i64 8))], some (some 57, true)⟩,
  ⟨some 61, .call 53, [.t 59, .t 60, .c (.fn 51 [] [])], some (some 57, true)⟩,
  ⟨some 62, .pick, [.t 57, .t 61, .c (.val (.bool false))], none⟩,
  ⟨some 63, .move, [.t 62], none⟩,
  ⟨some 64, .addr 10, [.t 1], some (some 63, true)⟩,
  ⟨some 65, .load false 1, [.t 64], some (some 63, true)⟩,
  ⟨some 66, .addr 2, [.t 3], some (some 63, true)⟩,
  ⟨some 67, .load true 2, [.t 66], some (some 63, true)⟩,
  ⟨some 68, .call 54, [.t 65, .t 67, .c (.fn 52 [] [])], some (some 63, true)⟩,
  ⟨some 69, .pick, [.t 63, .t 68, .c (.val (.bool false))], none⟩,
  ⟨some 70, .move, [.t 69], none⟩,
  ⟨some 71, .addr 11, [.t 1], some (some 70, true)⟩,
  ⟨some 72, .load false 1, [.t 71], some (some 70, true)⟩,
  ⟨some 73, .addr 4, [.t 3], some (some 70, true)⟩,
  ⟨some 74, .load true 2, [.t 73], some (some 70, true)⟩,
  ⟨some 75, .call 55, [.t 72, .t 74, .c (.fn 56 [] [])], some (some 70, true)⟩,
  ⟨some 76, .pick, [.t 70, .t 75, .c (.val (.bool false))], none⟩,
  ⟨some 4, .move, [.t 76], none⟩] [] [] [4] true [] []
def c17_14 : ACode := .region false [⟨some 77, .move, [.t 4], none⟩,
  ⟨some 78, .un .not, [.t 77], none⟩] [] [] [78] false [] []
def c17_17 : ACode := .region false [⟨some 2, .move, [.c (.val (.int .i64 4))], none⟩] [] [] [2] false [] []
def c17_16 : ACode := .seq c17_17 .ret
def c17_15 : ACode := .cond (.t 78) c17_16 .skip
def c17_13 : ACode := .seq c17_14 c17_15
def c17_19 : ACode := .region false [⟨some 2, .move, [.c (.val (.int .i64 0))], none⟩] [] [] [2] false [] []
def c17_18 : ACode := .seq c17_19 .ret
def c17_12 : ACode := .seq c17_13 c17_18
def c17_10 : ACode := .seq c17_11 c17_12
def c17_4 : ACode := .seq c17_5 c17_10
def c17_2 : ACode := .seq c17_3 c17_4
def c17_0 : ACode := .seq c17_1 c17_2
def code17 : Code := (Tryz.f17.body).getD .skip
theorem c17_ok : compC Tryz.prog 79 code17 = some (strip c17_0) := by kernel_rfl
theorem res17_ok : Tryz.f17.results.toList.mapM (resC Tryz.prog) = some [(2, none)] := by kernel_rfl
theorem wgood_any (m : Wm) (a b c : Nat) (hl : m.peers.length ≤ 1099511627776 ∧ m.marks.length ≤ 1099511627776 ∧ m.ents.length ≤ 1099511627776) : ACall Tryz.prog 17 [WmA m 0 a 1 b 2 c] [.cells true (Ri a m.peers), .cells true (Rm b m.marks), .cells true (Re c m.ents)] (Det (I (goodW m)) [.cells true (Ri a m.peers), .cells true (Rm b m.marks), .cells true (Re c m.ents)]) := by
  have hi := ri_ren
  have hm := rm_ren
  have he := re_ren
  have f1 := formof_any m.kind
  unfold formV at f1
  cases hk : kindB m.kind with
  | false =>
    rw [hk] at f1
    simp only [cond_false] at f1
    rw [goodW_no hk]
    refine ACall.startA c17_ok Tryz.func17 rfl Tryz.ntmps17 (by kernel_rfl) res17_ok rfl rfl rfl ?_; simp (maxSteps := 9999999) (disch := omega) only [go_sem]
    (have k9 := And.intro @hi (And.intro @hm (And.intro @he (k0))); (repeat' (first | refine AWpA.seq ?_ | refine AWpA.block ?_ | (with_reducible refine CondP.tt ?_) | (with_reducible refine CondP.ff ?_) | refine AWpA.cg ?_ | ((first | refine AWpA.rg ?_ | refine AWpA.dg [] [] follows ?_ | refine TailK.tg ?_ | refine AWpA.skip ?_ | refine AWpA.exit ?_ | refine AWpA.ret ?_ | (with_reducible refine ARoundsA.succ ?_) | ((first | refine Runs.gkt (fun h9 => ?_) | refine Runs.gkf (fun h9 => ?_) | refine Runs.gnt (fun h9 => ?_) | refine Runs.gnf (fun h9 => ?_) | refine CondP.gt (fun h9 => ?_) | refine CondP.gf (fun h9 => ?_) | refine CondP.gnt (fun h9 => ?_) | refine CondP.gnf (fun h9 => ?_)); (try simp only [h9]); clear h9) | refine CallG.pg [] (f1) ?_ | refine CallG.dg [] (f1) ?_); (try simp (maxSteps := 9999999) (disch := omega) only [go_sem, k9]); (try refine cnd ?_)) | ((first | refine CondP.split (fun hif => ?_) (fun hif => ?_) | refine Runs.part (fun hif => ?_) (fun hif => ?_)) <;> ((try simp only [hif]); (try simp only [BL] at hif); (try (have h9 : _ = true := hif; simp only [h9])); (try (have h9 : _ = false := hif; simp only [h9])); (try simp (maxSteps := 9999999) (disch := omega) only [go_sem, k9]); (try refine cnd ?_); (try (exfalso; omega; done)))))); (all_goals (try clear k9)))
    (apply Ret.det [0, 1, 2]; (focus (first | exact .inl rfl | exact .inr rfl)); (focus (simp (maxSteps := 9999999) (disch := omega) only [go_sem, hi, hm, he]; rfl)); (simp (maxSteps := 9999999) (disch := omega) only [go_sem, hi, hm, he]; (try (repeat' (first | done | trivial | rfl | exact leAs_rfl _ | decide | (refine And.intro ?_ ?_) | (simp; done) | omega | (simp; decide))))))
  | true =>
    rw [hk] at f1
    simp only [cond_true] at f1
    rw [goodW_yes hk]
    have b1 := wbare_any m a b c hk
    have n1 := node_any m.peer
    have g1 := goodmk_any m.mark
    have a1 := alli_any a m.peers hl.1 (p := nodeB) (fun x _ => node_any x) 0 8
    have a2 := allm_any b m.marks hl.2.1 (p := goodMk) (fun x _ => goodmk_any x) (manyLo m.kind 7) (manyHi m.kind 7)
    have a3 := alle_any c m.ents hl.2.2 (p := fun e => checkI e == 0) (fun x _ => goodent_any x) (manyLo m.kind 8) (manyHi m.kind 8)
    have s1 := wsame_any (bareM m) { noW with kind := m.kind } (cond (hasF m.kind 3) 0 a) 0 0 0 0 0 (by unfold bareM; cases hasF m.kind 3 <;> simp; exact hl.1) (by simp)
    rw [bareM_eq] at s1
    unfold bareM at s1
    unfold goodP
    simp only [List.length_nil] at s1
    generalize bareS m.kind m 7 = y at *
    generalize bareW m = q1 at *
    generalize nodeB m.peer = q2 at *
    generalize goodMk m.mark = q3 at *
    generalize (decide ((0 : Int) ≤ (m.peers.length : Int)) && (decide ((m.peers.length : Int) ≤ 8) && m.peers.all nodeB)) = q4 at *
    generalize (decide ((manyLo m.kind 7 : Int) ≤ (m.marks.length : Int)) && (decide ((m.marks.length : Int) ≤ (manyHi m.kind 7 : Int)) && m.marks.all goodMk)) = q5 at *
    generalize (decide ((manyLo m.kind 8 : Int) ≤ (m.ents.length : Int)) && (decide ((m.ents.length : Int) ≤ (manyHi m.kind 8 : Int)) && m.ents.all fun e => checkI e == 0)) = q6 at *
    have hkk : ((m.kind.toNat : Nat) : Int) = m.kind := by simp only [kindB, Bool.and_eq_true, decide_eq_true_eq] at hk; omega
    clear hl hk
    generalize hasF m.kind 3 = g at *
    cases g
    all_goals
      simp only [cond_true, cond_false] at s1 b1
      refine ACall.startA c17_ok Tryz.func17 rfl Tryz.ntmps17 (by kernel_rfl) res17_ok rfl rfl rfl ?_; simp (maxSteps := 9999999) (disch := omega) only [go_sem]
      refine AWpA.dummy ?_
    · (have k9 := And.intro @hi (And.intro @hm (And.intro @he (And.intro @hkk (k0)))); (repeat' (first | refine AWpA.seq ?_ | refine AWpA.block ?_ | (with_reducible refine CondP.tt ?_) | (with_reducible refine CondP.ff ?_) | refine AWpA.cg ?_ | ((first | refine AWpA.rg ?_ | refine AWpA.dg [] [] follows ?_ | refine TailK.tg ?_ | refine AWpA.skip ?_ | refine AWpA.exit ?_ | refine AWpA.ret ?_ | (with_reducible refine ARoundsA.succ ?_) | ((first | refine Runs.gkt (fun h9 => ?_) | refine Runs.gkf (fun h9 => ?_) | refine Runs.gnt (fun h9 => ?_) | refine Runs.gnf (fun h9 => ?_) | refine CondP.gt (fun h9 => ?_) | refine CondP.gf (fun h9 => ?_) | refine CondP.gnt (fun h9 => ?_) | refine CondP.gnf (fun h9 => ?_)); (try simp only [h9]); clear h9) | refine CallG.pg [] (f1) ?_ | refine CallG.pg [0, 1, 2] (b1) ?_ | refine CallG.pg [0, 3, 3, 3, 3, 3] (s1) ?_ | refine CallG.pg [] (n1) ?_ | refine CallG.pg [] (g1) ?_ | refine CallG.pg [0] (a1) ?_ | refine CallG.pg [1] (a2) ?_ | refine CallG.pg [2] (a3) ?_ | refine CallG.dg [] (f1) ?_ | refine CallG.dg [0, 1, 2] (b1) ?_ | refine CallG.dg [0, 3, 3, 3, 3, 3] (s1) ?_ | refine CallG.dg [] (n1) ?_ | refine CallG.dg [] (g1) ?_ | refine CallG.dg [0] (a1) ?_ | refine CallG.dg [1] (a2) ?_ | refine CallG.dg [2] (a3) ?_); (try simp (maxSteps := 9999999) (disch := omega) only [go_sem, k9]); (try refine cnd ?_)) | ((first | refine CondP.split (fun hif => ?_) (fun hif => ?_) | refine Runs.part (fun hif => ?_) (fun hif => ?_)) <;> ((try simp only [hif]); (try simp only [BL] at hif); (try (have h9 : _ = true := hif; simp only [h9])); (try (have h9 : _ = false := hif; simp only [h9])); (try simp (maxSteps := 9999999) (disch := omega) only [go_sem, k9]); (try refine cnd ?_); (try (exfalso; omega; done)))))); (all_goals (try clear k9)))
      all_goals (apply Ret.det [0, 1, 2]; (focus (first | exact .inl rfl | exact .inr rfl)); (focus (simp (maxSteps := 9999999) (disch := omega) only [go_sem, hi, hm, he]; rfl)); (simp (maxSteps := 9999999) (disch := omega) only [go_sem, hi, hm, he]; (try (repeat' (first | done | trivial | rfl | exact leAs_rfl _ | decide | (refine And.intro ?_ ?_) | (simp; done) | omega | (simp; decide))))))
    · (have k9 := And.intro @hi (And.intro @hm (And.intro @he (And.intro @hkk (k0)))); (repeat' (first | refine AWpA.seq ?_ | refine AWpA.block ?_ | (with_reducible refine CondP.tt ?_) | (with_reducible refine CondP.ff ?_) | refine AWpA.cg ?_ | ((first | refine AWpA.rg ?_ | refine AWpA.dg [] [] follows ?_ | refine TailK.tg ?_ | refine AWpA.skip ?_ | refine AWpA.exit ?_ | refine AWpA.ret ?_ | (with_reducible refine ARoundsA.succ ?_) | ((first | refine Runs.gkt (fun h9 => ?_) | refine Runs.gkf (fun h9 => ?_) | refine Runs.gnt (fun h9 => ?_) | refine Runs.gnf (fun h9 => ?_) | refine CondP.gt (fun h9 => ?_) | refine CondP.gf (fun h9 => ?_) | refine CondP.gnt (fun h9 => ?_) | refine CondP.gnf (fun h9 => ?_)); (try simp only [h9]); clear h9) | refine CallG.pg [] (f1) ?_ | refine CallG.pg [0, 1, 2] (b1) ?_ | refine CallG.pg [3, 3, 3, 3, 3, 3] (s1) ?_ | refine CallG.pg [] (n1) ?_ | refine CallG.pg [] (g1) ?_ | refine CallG.pg [0] (a1) ?_ | refine CallG.pg [1] (a2) ?_ | refine CallG.pg [2] (a3) ?_ | refine CallG.dg [] (f1) ?_ | refine CallG.dg [0, 1, 2] (b1) ?_ | refine CallG.dg [3, 3, 3, 3, 3, 3] (s1) ?_ | refine CallG.dg [] (n1) ?_ | refine CallG.dg [] (g1) ?_ | refine CallG.dg [0] (a1) ?_ | refine CallG.dg [1] (a2) ?_ | refine CallG.dg [2] (a3) ?_); (try simp (maxSteps := 9999999) (disch := omega) only [go_sem, k9]); (try refine cnd ?_)) | ((first | refine CondP.split (fun hif => ?_) (fun hif => ?_) | refine Runs.part (fun hif => ?_) (fun hif => ?_)) <;> ((try simp only [hif]); (try simp only [BL] at hif); (try (have h9 : _ = true := hif; simp only [h9])); (try (have h9 : _ = false := hif; simp only [h9])); (try simp (maxSteps := 9999999) (disch := omega) only [go_sem, k9]); (try refine cnd ?_); (try (exfalso; omega; done)))))); (all_goals (try clear k9)))
      all_goals (apply Ret.det [0, 1, 2]; (focus (first | exact .inl rfl | exact .inr rfl)); (focus (simp (maxSteps := 9999999) (disch := omega) only [go_sem, hi, hm, he]; rfl)); (simp (maxSteps := 9999999) (disch := omega) only [go_sem, hi, hm, he]; (try (repeat' (first | done | trivial | rfl | exact leAs_rfl _ | decide | (refine And.intro ?_ ?_) | (simp; done) | omega | (simp; decide))))))
end
end Go.Proofs.YtopidfkmligljaaGreat
