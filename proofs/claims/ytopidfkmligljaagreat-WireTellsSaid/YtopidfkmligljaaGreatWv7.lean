/- The walk of WireTells. -/
import Derived.Test.YtopidfkmligljaaGreatEg5
import Derived.Test.YtopidfkmligljaaGreatWv5
import Derived.Test.YtopidfkmligljaaGreatWt7
namespace Go.Proofs.YtopidfkmligljaaGreat
noncomputable section
set_option linter.unusedSimpArgs false
set_option linter.unusedVariables false
set_option maxHeartbeats 4000000
open Go Go.Am Go.RowKit Go.ChangeShapes Go.WideShapes Go.ChangeAt
set_option maxRecDepth 100000
set_option maxHeartbeats 8000000
/- quidnunc/quidnunclaw16.WireTells -/
def c6_1 : ACode := .region false [⟨some 2, .box 0, [.t 0], none⟩,
  ⟨some 3, .box 0, [.t 1], none⟩,
  ⟨some 4, .move, [.c (.val (.bool false))], none⟩] [] [] [2, 3] true [] []
def c6_4 : ACode := .region false [⟨some 10, .call 7, [], none⟩,
  ⟨some 11, .un .not, [.t 10], none⟩,
  ⟨some 12, .move, [.t 11], none⟩,
  ⟨some 13, .load true 12, [.t 2], some (some 12, false)⟩,
  ⟨some 14, .call 14, [.t 13], some (some 12, false)⟩,
  ⟨some 15, .un .not, [.t 14], some (some 12, false)⟩,
  ⟨some 16, .pick, [.t 12, .c (.val (.bool true)), .t 15], none⟩,
  ⟨some 17, .move, [.t 16], none⟩,
  ⟨some 18, .load true 12, [.t 3], some (some 17, false)⟩,
  ⟨some 19, .call 14, [.t 18], some (some 17, false)⟩,
  ⟨some 20, .un .not, [.t 19], some (some 17, false)⟩,
  ⟨some 21, .pick, [.t 17, .c (.val (.bool true)), .t 20], none⟩] [] [] [2, 3, 21] true [] []
def c6_7 : ACode := .region false [⟨some 22, .call 7, [], none⟩,
  ⟨some 4, .move, [.t 22], none⟩] [] [] [4] true [] []
def c6_6 : ACode := .seq c6_7 .ret
def c6_5 : ACode := .cond (.t 21) c6_6 .skip
def c6_3 : ACode := .seq c6_4 c6_5
def c6_9 : ACode := .region false [⟨some 23, .load true 12, [.t 2], none⟩,
  ⟨some 24, .call 15, [.t 23], none⟩,
  ⟨some 5, .move, [.t 24], none⟩] [] [] [2, 3, 5] true [] []
def c6_11 : ACode := .region false [⟨some 26, .load true 12, [.t 2], none⟩,
  ⟨some 27, .call 16, [.t 26], none⟩,
  ⟨some 28, .call 12, [.t 27], none⟩,
  ⟨some 25, .move, [.t 28], none⟩,
  ⟨some 29, .ext 0, [.t 25], none⟩,
  ⟨some 30, .ext 1, [.t 25], none⟩,
  ⟨some 6, .move, [.t 29], none⟩,
  ⟨some 7, .move, [.t 30], none⟩] [] [] [2, 3, 5, 6, 7] true [] []
def c6_14 : ACode := .region true [⟨some 31, .load true 12, [.t 2], none⟩,
  ⟨some 32, .call 16, [.t 31], none⟩,
  ⟨some 33, .call 17, [.t 32], none⟩,
  ⟨some 34, .move, [.t 5], none⟩,
  ⟨some 35, .bin .neq, [.t 33, .t 34], none⟩,
  ⟨some 36, .move, [.t 35], none⟩,
  ⟨some 37, .move, [.t 7], some (some 36, false)⟩,
  ⟨some 38, .move, [.t 5], some (some 36, false)⟩,
  ⟨some 39, .bin .neq, [.t 37, .t 38], some (some 36, false)⟩,
  ⟨some 40, .pick, [.t 36, .c (.val (.bool true)), .t 39], none⟩,
  ⟨some 41, .move, [.t 40], none⟩,
  ⟨some 42, .load true 12, [.t 2], some (some 41, false)⟩,
  ⟨some 43, .call 16, [.t 42], some (some 41, false)⟩,
  ⟨some 44, .load true 12, [.t 3], some (some 41, false)⟩,
  ⟨some 45, .call 16, [.t 44], some (some 41, false)⟩,
  ⟨some 46, .call 13, [.t 43, .t 45], some (some 41, false)⟩,
  ⟨some 47, .load true 12, [.t 2], some (some 41, false)⟩,
  ⟨some 48, .load true 12, [.t 3], some (some 41, false)⟩,
  ⟨some 49, .call 10, [.t 47, .t 48], some (some 41, false)⟩,
  ⟨some 50, .eqB true, [.t 46, .t 49], some (some 41, false)⟩,
  ⟨some 51, .pick, [.t 41, .c (.val (.bool true)), .t 50], none⟩,
  ⟨some 52, .move, [.t 51], none⟩,
  ⟨some 53, .addr 0, [.t 2], some (some 52, false)⟩,
  ⟨some 54, .load false 1, [.t 53], some (some 52, false)⟩,
  ⟨some 55, .call 18, [.t 54], some (some 52, false)⟩,
  ⟨some 56, .addr 0, [.t 2], some (some 52, false)⟩,
  ⟨some 57, .load false 1, [.t 56], some (some 52, false)⟩,
  ⟨some 58, .call 19, [.t 57], some (some 52, false)⟩,
  ⟨some 59, .bin .neq, [.t 55, .t 58], some (some 52, false)⟩,
  ⟨some 60, .pick, [.t 52, .c (.val (.bool true)), .t 59], none⟩] [] [] [2, 5, 6, 60] true [] []
def c6_17 : ACode := .region false [⟨some 4, .move, [.c (.val (.bool false))], none⟩] [] [] [4] false [] []
def c6_16 : ACode := .seq c6_17 .ret
def c6_15 : ACode := .cond (.t 60) c6_16 .skip
def c6_13 : ACode := .seq c6_14 c6_15
def c6_20 : ACode := .region false [⟨some 61, .move, [.t 5], none⟩,
  ⟨some 62, .bin .neq, [.t 61, .c (.val (.int .i64 0))], none⟩] [] [] [2, 6, 62] false [] []
def c6_23 : ACode := .region false [⟨some 63, .move, [.t 6], none⟩,
  ⟨some 64, .len, [.t 63], none⟩,
  ⟨some 65, .bin .eql, [.t 64, .c (.val (.int .i64 0))], none⟩,
  ⟨some 4, .move, [.t 65], none⟩] [] [] [4] false [] []
def c6_22 : ACode := .seq c6_23 .ret
def c6_21 : ACode := .cond (.t 62) c6_22 .skip
def c6_19 : ACode := .seq c6_20 c6_21
def c6_25 : ACode := .region false [⟨some 67, .addr 0, [.t 2], none⟩,
  ⟨some 68, .load false 1, [.t 67], none⟩,
  ⟨some 69, .move, [.t 6], none⟩,
  ⟨some 70, .call 8, [.t 68, .t 69], none⟩,
  ⟨some 66, .move, [.t 70], none⟩,
  ⟨some 71, .ext 0, [.t 66], none⟩,
  ⟨some 72, .ext 1, [.t 66], none⟩,
  ⟨some 8, .alloc [(.int .i64 0), (.int .i64 0), (.int .i64 0), (.bool false), (.slice none 0 0), (.int .i64 0), (.int .u64 0), (.int .i64 0), (.int .i64 0), (.string ⟨#[]⟩), (.slice none 0 0), (.slice none 0 0)], [], none⟩,
  ⟨none, .store 12, [.t 8, .t 71], none⟩,
  ⟨some 9, .move, [.t 72], none⟩] [] [] [2, 6, 8, 9] true [] []
def c6_27 : ACode := .region true [⟨some 73, .move, [.t 6], none⟩,
  ⟨some 74, .toStr, [.t 73], none⟩,
  ⟨some 75, .load true 12, [.t 2], none⟩,
  ⟨some 76, .call 20, [.t 75], none⟩,
  ⟨some 77, .toStr, [.t 76], none⟩,
  ⟨some 78, .bin .eql, [.t 74, .t 77], none⟩,
  ⟨some 79, .move, [.t 78], none⟩,
  ⟨some 80, .move, [.t 6], some (some 79, true)⟩,
  ⟨some 81, .len, [.t 80], some (some 79, true)⟩,
  ⟨some 82, .bin .leq, [.t 81, .c (.val (.int .i64 720))], some (some 79, true)⟩,
  ⟨some 83, .pick, [.t 79, .t 82, .c (.val (.bool false))], none⟩,
  ⟨some 84, .move, [.t 83], none⟩,
  ⟨some 85, .move, [.t 9], some (some 84, true)⟩,
  ⟨some 86, .bin .eql, [.t 85, .c (.val (.int .i64 0))], some (some 84, true)⟩,
  ⟨some 87, .pick, [.t 84, .t 86, .c (.val (.bool false))], none⟩,
  ⟨some 88, .move, [.t 87], none⟩,
  ⟨some 89, .load true 12, [.t 8], some (some 88, true)⟩,
  ⟨some 90, .call 11, [.t 89], some (some 88, true)⟩,
  ⟨some 91, .load true 12, [.t 2], some (some 88, true)⟩,
  ⟨some 92, .call 10, [.t 90, .t 91], some (some 88, true)⟩,
  ⟨some 93, .pick, [.t 88, .t 92, .c (.val (.bool false))], none⟩,
  ⟨some 4, .move, [.t 93], none⟩] [4] [] [4] true [] []
def c6_26 : ACode := .seq c6_27 .ret
def c6_24 : ACode := .seq c6_25 c6_26
def c6_18 : ACode := .seq c6_19 c6_24
def c6_12 : ACode := .seq c6_13 c6_18
def c6_10 : ACode := .seq c6_11 c6_12
def c6_8 : ACode := .seq c6_9 c6_10
def c6_2 : ACode := .seq c6_3 c6_8
def c6_0 : ACode := .seq c6_1 c6_2
def code6 : Code := (Tryz.f6.body).getD .skip
theorem c6_ok : compC Tryz.prog 94 code6 = some (strip c6_0) := by kernel_rfl
theorem res6_ok : Tryz.f6.results.toList.mapM (resC Tryz.prog) = some [(4, none)] := by kernel_rfl
theorem wtells_main (W : World) (m n : Wm) (ad1 ad2 ad3 bd1 bd2 bd3 : Option Addr) (of1 ca1 of2 ca2 of3 ca3 pf1 da1 pf2 da2 pf3 da3 : Nat) (hsum : sumR m)
    (hl : m.peers.length ≤ 9223372036854775807 ∧ m.marks.length ≤ 9223372036854775807 ∧ m.ents.length ≤ 9223372036854775807)
    (hl' : n.peers.length ≤ 9223372036854775807 ∧ n.marks.length ≤ 9223372036854775807 ∧ n.ents.length ≤ 9223372036854775807)
    (hz1 : Fz W ad1 m.peers.length ca1 1 of1 (m.peers.flatMap fun n : Int => [.int .i64 n])) (hz2 : Fz W ad2 m.marks.length ca2 3 of2 (m.marks.flatMap Mk.rep)) (hz3 : Fz W ad3 m.ents.length ca3 9 of3 (m.ents.flatMap En.rep))
    (hy1 : Fz W bd1 n.peers.length da1 1 pf1 (n.peers.flatMap fun n : Int => [.int .i64 n])) (hy2 : Fz W bd2 n.marks.length da2 3 pf2 (n.marks.flatMap Mk.rep)) (hy3 : Fz W bd3 n.ents.length da3 9 pf3 (n.ents.flatMap En.rep)) :
    Calls Tryz.prog 6 #[.agg #[.int .i64 m.kind, .int .i64 m.peer, .int .i64 m.hops, .bool m.high, .slice ad1 m.peers.length ca1, .int .i64 m.num, .int .u64 m.sum, .int .i64 m.mark.act.c, .int .i64 m.mark.act.s, .string m.mark.key, .slice ad2 m.marks.length ca2, .slice ad3 m.ents.length ca3], .agg #[.int .i64 n.kind, .int .i64 n.peer, .int .i64 n.hops, .bool n.high, .slice bd1 n.peers.length da1, .int .i64 n.num, .int .u64 n.sum, .int .i64 n.mark.act.c, .int .i64 n.mark.act.s, .string n.mark.key, .slice bd2 n.marks.length da2, .slice bd3 n.ents.length da3]] W fun e W' => e = .returned (.bool true) ∧ Below W.heap.size W W' := by
  have sp := speaks16
  have hi := ri_ren
  have hm := rm_ren
  have he := re_ren
  have f1 := few16_any m of1 of2 of3 hl
  have f2 := few16_any n pf1 pf2 pf3 hl'
  refine top_call c6_ok Tryz.func6 rfl Tryz.ntmps6 res6_ok [ .agg [I m.kind, I m.peer, I m.hops, Bo m.high, .val (.slice ad1 m.peers.length ca1), I m.num, U64 m.sum, I m.mark.act.c, I m.mark.act.s, Str m.mark.key, .val (.slice ad2 m.marks.length ca2), .val (.slice ad3 m.ents.length ca3)], .agg [I n.kind, I n.peer, I n.hops, Bo n.high, .val (.slice bd1 n.peers.length da1), I n.num, U64 n.sum, I n.mark.act.c, I n.mark.act.s, Str n.mark.key, .val (.slice bd2 n.marks.length da2), .val (.slice bd3 n.ents.length da3)]] (by simp) (by (repeat' (first | exact VRs_nil' _ | exact VR_val' _ _ | (refine VRs_cons' ?_ ?_) | (refine VR_agg' (by first | rfl | assumption) ?_; first | assumption | simp [Value.oneCell', St.rep, Mk.rep, En.rep, WmS.rep])))) ?_; try simp (maxSteps := 9999999) (disch := omega) only [go_sem]
  refine AWpA.thawA 0 4 (fun n : Int => [I n]) hz1 (fun _ => rfl) rfl rfl ?_
  simp only [List.set]
  refine AWpA.thawA 0 10 MkL hz2 (fun _ => rfl) rfl rfl ?_
  simp only [List.set]
  refine AWpA.thawA 0 11 EnL hz3 (fun _ => rfl) rfl rfl ?_
  simp only [List.set]
  refine AWpA.thawA 1 4 (fun n : Int => [I n]) hy1 (fun _ => rfl) rfl rfl ?_
  simp only [List.set]
  refine AWpA.thawA 1 10 MkL hy2 (fun _ => rfl) rfl rfl ?_
  simp only [List.set]
  refine AWpA.thawA 1 11 EnL hy3 (fun _ => rfl) rfl rfl ?_
  simp only [List.set]
  clear hz1 hz2 hz3 hy1 hy2 hy3
  cases hf : fewB m with
  | false =>
    rw [hf] at f1
    (try simp (maxSteps := 9999999) (disch := omega) only [go_sem])
    (have k9 := And.intro @hi (And.intro @hm (And.intro @he (k0))); have a1 := Arm.mk [] sp; have a2 := Arm.mk [0, 1, 2] f1; (repeat' (first | refine goM ?_ | ((first | refine CondP.split (fun hif => ?_) (fun hif => ?_) | refine Runs.part (fun hif => ?_) (fun hif => ?_)) <;> ((try simp only [BL] at hif); first | (exfalso; omega; done) | refine goI ?_)))); (all_goals (try clear k9)); (all_goals (try clear a1)); (all_goals (try clear a2)))
    all_goals (refine TopPost.of (by first | exact .inl rfl | exact .inr rfl) (by (try simp (maxSteps := 9999999) (disch := omega) only [go_sem]); rfl) ?_; (try simp (maxSteps := 9999999) (disch := omega) only [go_sem]); (try (first | trivial | decide | (simp; done))))
  | true =>
    rw [hf] at f1
    obtain ⟨l1, l2, l3⟩ := fewB_len hf
    cases hf' : fewB n with
    | false =>
      rw [hf'] at f2
      (try simp (maxSteps := 9999999) (disch := omega) only [go_sem])
      (have k9 := And.intro @hi (And.intro @hm (And.intro @he (k0))); have a1 := Arm.mk [] sp; have a2 := Arm.mk [0, 1, 2] f1; have a3 := Arm.mk [3, 4, 5] f2; (repeat' (first | refine goM ?_ | ((first | refine CondP.split (fun hif => ?_) (fun hif => ?_) | refine Runs.part (fun hif => ?_) (fun hif => ?_)) <;> ((try simp only [BL] at hif); first | (exfalso; omega; done) | refine goI ?_)))); (all_goals (try clear k9)); (all_goals (try clear a1)); (all_goals (try clear a2)); (all_goals (try clear a3)))
      all_goals (refine TopPost.of (by first | exact .inl rfl | exact .inr rfl) (by (try simp (maxSteps := 9999999) (disch := omega) only [go_sem]); rfl) ?_; (try simp (maxSteps := 9999999) (disch := omega) only [go_sem]); (try (first | trivial | decide | (simp; done))))
    | true =>
      rw [hf'] at f2
      obtain ⟨l4, l5, l6⟩ := fewB_len hf'
      have g1 := rgood16_any m of1 of2 of3 (by omega)
      have g2 := wgood_any m of1 0 0 (by omega)
      have t1 := of16_any m of1 of2 of3 (by omega)
      have t2 := of16_any n pf1 pf2 pf3 (by omega)
      have e1 := wencode_any m of1 0 0 (by omega) hsum
      have s1 := wsame_any m n of1 0 0 pf1 0 0 (by omega) (by omega)
      have s2 := rsame16_any m n of1 of2 of3 pf1 pf2 pf3 (by omega) (by omega)
      have n1 := wname_any m.kind
      have n2 := rname_any m.kind
      have hbn : ∀ x : ByteArray, (x != x) = false := fun x => by simp [bne, ba_dec]
      have hqn : ∀ x : Bool, (x != x) = false := fun x => by cases x <;> rfl
      generalize nameW m.kind = nm at *
      generalize sameW m n = sm at *
      by_cases hg : goodW m = 0
      case neg =>
        have k1 : (goodW m != 0) = true := by simpa using hg
        have hn : (goodW m != goodW m) = false := by simp [bne]
        have hL : encW m = [] := by
          unfold encW
          rw [show (goodW m == 0) = false by simpa using hg]
          rfl
        rw [hL] at e1
        generalize goodW m = q at *
        (try simp (maxSteps := 9999999) (disch := omega) only [go_sem])
        (have k9 := And.intro @hi (And.intro @hm (And.intro @he (And.intro @k1 (And.intro @hn (And.intro @hbn (And.intro @hqn (And.intro @bA_ren (k0)))))))); have a1 := Arm.mk [] sp; have a2 := Arm.mk [0, 1, 2] f1; have a3 := Arm.mk [3, 4, 5] f2; have a4 := Arm.mk [0, 1, 2] g1; have a5 := Arm.mk [0, 1, 2] t1; have a6 := Arm.mk [3, 4, 5] t2; have a7 := Arm.mk [0, 310, 311] e1; have a8 := Arm.mk [0, 438, 439] g2; have a9 := Arm.mk [0, 614, 615, 3, 646, 647] s1; (repeat' (first | refine goM ?_ | ((first | refine CallG.pg [0, 1, 2, 3, 4, 5] (s2) ?_ | refine CallG.pg [] (n1) ?_ | refine CallG.pg [] (n2) ?_ | refine CallG.dg [0, 1, 2, 3, 4, 5] (s2) ?_ | refine CallG.dg [] (n1) ?_ | refine CallG.dg [] (n2) ?_); refine goJ ?_) | ((first | refine CondP.split (fun hif => ?_) (fun hif => ?_) | refine Runs.part (fun hif => ?_) (fun hif => ?_)) <;> ((try simp only [BL] at hif); first | (exfalso; omega; done) | refine goI ?_)))); (all_goals (try clear k9)); (all_goals (try clear a1)); (all_goals (try clear a2)); (all_goals (try clear a3)); (all_goals (try clear a4)); (all_goals (try clear a5)); (all_goals (try clear a6)); (all_goals (try clear a7)); (all_goals (try clear a8)); (all_goals (try clear a9)))
        all_goals (refine TopPost.of (by first | exact .inl rfl | exact .inr rfl) (by (try simp (maxSteps := 9999999) (disch := omega) only [go_sem]); rfl) ?_; (try simp (maxSteps := 9999999) (disch := omega) only [go_sem]); (try (first | trivial | decide | (simp; done))))
      have hL : encW m = wB m := by unfold encW; rw [hg]; rfl
      rw [hL, hg] at e1
      rw [hg] at g1 g2
      have hbL := wB_bytes (good_w hg) hsum
      have hlL := wB_len (good_w hg) hsum
      have w0 := fin_wB hg hsum
      have b1 := rbytes16_any m of1 of2 of3 (good_f (good_w hg) hsum)
      generalize wB m = L at *
      have sL := Seg.all L (by omega)
      have c1 := wdecode_any sL hbL m.kind
      rw [w0.1, w0.2] at c1
      have u1 := to16_any m 0 0 0 (by omega)
      have r1 := rsame16_any m m 0 0 0 of1 of2 of3 (by omega) (by omega)
      rw [sameW_self] at r1
      have hbe : ∀ x : ByteArray, (x == x) = true := fun x => by simp [ba_dec]
      have k720 : ((L.length : Int) ≤ 720) = True := eq_true (by omega)
      clear w0 hg hL hbL
      (try simp (maxSteps := 9999999) (disch := omega) only [go_sem])
      (have k9 := And.intro @hi (And.intro @hm (And.intro @he (And.intro @hbn (And.intro @hqn (And.intro @hbe (And.intro @k720 (And.intro @bA_ren (k0)))))))); have a1 := Arm.mk [] sp; have a2 := Arm.mk [0, 1, 2] f1; have a3 := Arm.mk [3, 4, 5] f2; have a4 := Arm.mk [0, 1, 2] g1; have a5 := Arm.mk [0, 1, 2] t1; have a6 := Arm.mk [3, 4, 5] t2; have a7 := Arm.mk [0, 310, 311] e1; have a8 := Arm.mk [0, 438, 439] g2; have a9 := Arm.mk [0, 614, 615, 3, 646, 647] s1; (repeat' (first | refine goM ?_ | ((first | refine CallG.pg [0, 1, 2, 3, 4, 5] (s2) ?_ | refine CallG.pg [] (n1) ?_ | refine CallG.pg [] (n2) ?_ | refine CallG.pg [326] (c1) ?_ | refine CallG.pg [0, 1, 2] (b1) ?_ | refine CallG.pg [982, 983, 984] (u1) ?_ | refine CallG.pg [982, 1366, 1367, 0, 1, 2] (r1) ?_ | refine CallG.dg [0, 1, 2, 3, 4, 5] (s2) ?_ | refine CallG.dg [] (n1) ?_ | refine CallG.dg [] (n2) ?_ | refine CallG.dg [326] (c1) ?_ | refine CallG.dg [0, 1, 2] (b1) ?_ | refine CallG.dg [982, 983, 984] (u1) ?_ | refine CallG.dg [982, 1366, 1367, 0, 1, 2] (r1) ?_); refine goJ ?_) | ((first | refine CondP.split (fun hif => ?_) (fun hif => ?_) | refine Runs.part (fun hif => ?_) (fun hif => ?_)) <;> ((try simp only [BL] at hif); first | (exfalso; omega; done) | refine goI ?_)))); (all_goals (try clear k9)); (all_goals (try clear a1)); (all_goals (try clear a2)); (all_goals (try clear a3)); (all_goals (try clear a4)); (all_goals (try clear a5)); (all_goals (try clear a6)); (all_goals (try clear a7)); (all_goals (try clear a8)); (all_goals (try clear a9)))
      all_goals (refine TopPost.of (by first | exact .inl rfl | exact .inr rfl) (by (try simp (maxSteps := 9999999) (disch := omega) only [go_sem]); rfl) ?_; (try simp (maxSteps := 9999999) (disch := omega) only [go_sem]); (try (first | trivial | decide | (simp; done))))
theorem wtells_walk (W : World) (x y : WmS) (hx : x.ok W) (hy : y.ok W) :
    Calls Tryz.prog 6 #[.agg (x.rep).toArray, .agg (y.rep).toArray] W fun e W' => e = .returned (.bool true) ∧ Below W.heap.size W W' := by
  obtain ⟨kind, peer, hops, high, ⟨ad1, of1, ca1, peers⟩, num, sum, mark, ⟨ad2, of2, ca2, marks⟩, ⟨ad3, of3, ca3, ents⟩⟩ := x
  obtain ⟨kind', peer', hops', high', ⟨bd1, pf1, da1, peers'⟩, num', sum', mark', ⟨bd2, pf2, da2, marks'⟩, ⟨bd3, pf3, da3, ents'⟩⟩ := y
  obtain ⟨x1, x2, x3, -, x5, x6, x7, x8, x9, x10⟩ := hx
  obtain ⟨y1, y2, y3, -, y5, y6, y7, y8, y9, y10⟩ := hy
  have l1 := x5.len
  have l2 := x9.len
  have l3 := x10.len
  have l4 := y5.len
  have l5 := y9.len
  have l6 := y10.len
  have hs1 := x7.1
  have hs2 := x7.2
  simp only [show IntKind.u64.min = 0 from rfl, show IntKind.u64.max = 18446744073709551615 from rfl] at hs1 hs2
  simp only [maxLen] at l1 l2 l3 l4 l5 l6
  exact wtells_main W ⟨kind, peer, hops, high, peers, num, sum, mark, marks, ents⟩ ⟨kind', peer', hops', high', peers', num', sum', mark', marks', ents'⟩ ad1 ad2 ad3 bd1 bd2 bd3 of1 ca1 of2 ca2 of3 ca3 pf1 da1 pf2 da2 pf3 da3 ⟨hs1, Int.lt_add_one_of_le hs2⟩ ⟨by omega, by omega, by omega⟩ ⟨by omega, by omega, by omega⟩ x5.fz x9.fz x10.fz y5.fz y9.fz y10.fz
end
end Go.Proofs.YtopidfkmligljaaGreat
