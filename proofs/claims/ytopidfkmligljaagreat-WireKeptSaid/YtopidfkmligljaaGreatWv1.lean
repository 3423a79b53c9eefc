/- The walk of WireKept. -/
import Derived.Test.YtopidfkmligljaaGreatWu1
import Derived.Test.YtopidfkmligljaaGreatWu2
import Derived.Test.YtopidfkmligljaaGreatWu3
import Derived.Test.YtopidfkmligljaaGreatWs3
import Derived.Test.YtopidfkmligljaaGreatAb
namespace Go.Proofs.YtopidfkmligljaaGreat
set_option linter.unusedSimpArgs false
set_option linter.unusedVariables false
set_option maxHeartbeats 4000000
open Go Go.Am Go.RowKit Go.ChangeShapes Go.WideShapes Go.ChangeAt
set_option maxRecDepth 100000
set_option maxHeartbeats 8000000
/- quidnunc/quidnunclaw16.WireKept -/
noncomputable def c4_1 : ACode := .region false [⟨some 4, .move, [.c (.val (.bool false))], none⟩] [] [] [0, 1] false [] []
noncomputable def c4_4 : ACode := .region false [⟨some 11, .call 7, [], none⟩,
  ⟨some 12, .un .not, [.t 11], none⟩,
  ⟨some 13, .move, [.t 12], none⟩,
  ⟨some 14, .move, [.t 1], some (some 13, false)⟩,
  ⟨some 15, .len, [.t 14], some (some 13, false)⟩,
  ⟨some 16, .bin .gtr, [.t 15, .c (.val (.int .i64 700))], some (some 13, false)⟩,
  ⟨some 17, .pick, [.t 13, .c (.val (.bool true)), .t 16], none⟩] [] [] [0, 1, 17] true [] []
noncomputable def c4_7 : ACode := .region false [⟨some 18, .call 7, [], none⟩,
  ⟨some 4, .move, [.t 18], none⟩] [] [] [4] true [] []
noncomputable def c4_6 : ACode := .seq c4_7 .ret
noncomputable def c4_5 : ACode := .cond (.t 17) c4_6 .skip
noncomputable def c4_3 : ACode := .seq c4_4 c4_5
noncomputable def c4_9 : ACode := .region false [⟨some 19, .buildSl 1 0 [(.int .u8 0)] [], [], none⟩,
  ⟨some 20, .move, [.t 1], none⟩,
  ⟨some 21, .append 1 1 false, [.t 19, .t 20], none⟩,
  ⟨some 5, .move, [.t 21], none⟩] [] [] [0, 1, 5] true [] []
noncomputable def c4_11 : ACode := .region false [⟨some 23, .move, [.t 0], none⟩,
  ⟨some 24, .move, [.t 5], none⟩,
  ⟨some 25, .call 8, [.t 23, .t 24], none⟩,
  ⟨some 22, .move, [.t 25], none⟩,
  ⟨some 26, .ext 0, [.t 22], none⟩,
  ⟨some 27, .ext 1, [.t 22], none⟩,
  ⟨some 6, .alloc [(.int .i64 0), (.int .i64 0), (.int .i64 0), (.bool false), (.slice none 0 0), (.int .i64 0), (.int .u64 0), (.int .i64 0), (.int .i64 0), (.string ⟨#[]⟩), (.slice none 0 0), (.slice none 0 0)], [], none⟩,
  ⟨none, .store 12, [.t 6, .t 26], none⟩,
  ⟨some 7, .move, [.t 27], none⟩] [] [] [0, 1, 5, 6, 7] true [] []
noncomputable def c4_14 : ACode := .region false [⟨some 28, .move, [.t 5], none⟩,
  ⟨some 29, .len, [.t 28], none⟩,
  ⟨some 30, .move, [.c (.val (.int .i64 0))], none⟩] [] [] [0, 1, 5, 6, 7, 29, 30] false [] []
noncomputable def c4_18 : ACode := .region false [⟨some 31, .bin .lss, [.t 30, .t 29], none⟩] [] [] [0, 1, 5, 6, 7, 29, 30, 31] false [] []
noncomputable def c4_20 : ACode := .cond (.t 31) .skip (.exit 0)
noncomputable def c4_24 : ACode := .region false [⟨some 32, .move, [.t 30], none⟩,
  ⟨some 8, .move, [.t 32], none⟩] [] [] [0, 1, 5, 6, 7, 8, 29, 30] false [] []
noncomputable def c4_25 : ACode := .region false [⟨some 33, .move, [.t 5], none⟩,
  ⟨some 34, .move, [.t 8], none⟩,
  ⟨some 35, .ixS 1, [.t 33, .t 34], none⟩,
  ⟨some 36, .load false 1, [.t 35], none⟩,
  ⟨some 37, .bin .xor, [.t 36, .c (.val (.int .u8 255))], none⟩,
  ⟨some 38, .ixS 1, [.t 33, .t 34], none⟩,
  ⟨none, .store 1, [.t 38, .t 37], none⟩] [] [] [0, 1, 5, 6, 7, 29, 30] true [] []
noncomputable def c4_23 : ACode := .seq c4_24 c4_25
noncomputable def c4_22 : ACode := .block 1 c4_23
noncomputable def c4_26 : ACode := .region false [⟨some 39, .bin .add, [.t 30, .c (.val (.int .i64 1))], none⟩,
  ⟨some 30, .move, [.t 39], none⟩] [] [] [0, 1, 5, 6, 7, 29, 30] false [] []
noncomputable def c4_21 : ACode := .seq c4_22 c4_26
noncomputable def c4_19 : ACode := .seq c4_20 c4_21
noncomputable def c4_17 : ACode := .seq c4_18 c4_19
noncomputable def c4_16 : ACode := .loop c4_17
noncomputable def c4_15 : ACode := .block 0 c4_16
noncomputable def c4_13 : ACode := .seq c4_14 c4_15
noncomputable def c4_28 : ACode := .region false [⟨some 41, .move, [.t 0], none⟩,
  ⟨some 42, .move, [.t 1], none⟩,
  ⟨some 43, .call 8, [.t 41, .t 42], none⟩,
  ⟨some 40, .move, [.t 43], none⟩,
  ⟨some 44, .ext 0, [.t 40], none⟩,
  ⟨some 45, .ext 1, [.t 40], none⟩,
  ⟨some 9, .alloc [(.int .i64 0), (.int .i64 0), (.int .i64 0), (.bool false), (.slice none 0 0), (.int .i64 0), (.int .u64 0), (.int .i64 0), (.int .i64 0), (.string ⟨#[]⟩), (.slice none 0 0), (.slice none 0 0)], [], none⟩,
  ⟨none, .store 12, [.t 9, .t 44], none⟩,
  ⟨some 10, .move, [.t 45], none⟩] [] [] [6, 7, 9, 10] true [] []
noncomputable def c4_30 : ACode := .region true [⟨some 46, .move, [.t 7], none⟩,
  ⟨some 47, .move, [.t 10], none⟩,
  ⟨some 48, .bin .eql, [.t 46, .t 47], none⟩,
  ⟨some 49, .move, [.t 48], none⟩,
  ⟨some 50, .load true 12, [.t 6], some (some 49, true)⟩,
  ⟨some 51, .call 11, [.t 50], some (some 49, true)⟩,
  ⟨some 52, .load true 12, [.t 9], some (some 49, true)⟩,
  ⟨some 53, .call 11, [.t 52], some (some 49, true)⟩,
  ⟨some 54, .call 10, [.t 51, .t 53], some (some 49, true)⟩,
  ⟨some 55, .pick, [.t 49, .t 54, .c (.val (.bool false))], none⟩,
  ⟨some 56, .move, [.t 55], none⟩,
  ⟨some 57, .load true 12, [.t 6], some (some 56, true)⟩,
  ⟨some 58, .load true 12, [.t 9], some (some 56, true)⟩,
  ⟨some 59, .call 13, [.t 57, .t 58], some (some 56, true)⟩,
  ⟨some 60, .pick, [.t 56, .t 59, .c (.val (.bool false))], none⟩,
  ⟨some 4, .move, [.t 60], none⟩] [] [] [4] true [] []
noncomputable def c4_29 : ACode := .seq c4_30 .ret
noncomputable def c4_27 : ACode := .seq c4_28 c4_29
noncomputable def c4_12 : ACode := .seq c4_13 c4_27
noncomputable def c4_10 : ACode := .seq c4_11 c4_12
noncomputable def c4_8 : ACode := .seq c4_9 c4_10
noncomputable def c4_2 : ACode := .seq c4_3 c4_8
noncomputable def c4_0 : ACode := .seq c4_1 c4_2
noncomputable def code4 : Code := (Tryz.f4.body).getD .skip
theorem c4_ok : compC Tryz.prog 61 code4 = some (strip c4_0) := by kernel_rfl
theorem res4_ok : Tryz.f4.results.toList.mapM (resC Tryz.prog) = some [(4, none)] := by kernel_rfl
theorem bA_set (X : List Int) (i : Nat) (v : Int) : (bA X).set i (.val (.int .u8 v)) = bA (X.set i v) := by
  unfold bA
  rw [List.map_set]
theorem fin_len {L : List Int} {k : Int} (hb : bytesB L) : (finW L k).peers.length ≤ 255 ∧ (finW L k).marks.length ≤ 255 ∧ (finW L k).ents.length ≤ 255 := by
  unfold finW
  split
  · exact st_len hb 9 (Nat.le_refl _)
  · exact ⟨Nat.zero_le _, Nat.zero_le _, Nat.zero_le _⟩
theorem wkept_loop (W : World) (k E : Int) (off : Nat) (L : List Int) (P : List AV) (y : Wm) (hL : L.length ≤ 700) (hPr : ∀ ρ, renL ρ P = P)
    (d2 : ACall Tryz.prog 8 [I k, .sl 0 off L.length 1 none] [.cells true P] (Det (.tup [WmA y 1 0 2 0 3 0, I E]) [.cells true P, .cells false (Ri 0 y.peers), .cells false (Rm 0 y.marks), .cells false (Re 0 y.ents)]))
    (hfl : y.peers.length ≤ 255 ∧ y.marks.length ≤ 255 ∧ y.ents.length ≤ 255) :
    AWpA Tryz.prog 61 (topN W) c4_16 (ABlock 0 (AThen (fun x => AWpA Tryz.prog 61 (topN W) c4_27 (TopPost [(4, none)]) x) (TopPost [(4, none)])))
      (Am.mk [(0, I k), (1, .sl 0 off L.length 1 none), (5, .sl 1 0 L.length 1 none), (6, .ptr 2 0), (7, I E), (29, I L.length), (30, I 0)] none0 (zipI 0 [.cells true P, .cells false (bA L), .cells false (WmL y 3 0 4 0 5 0), .cells false (Ri 0 y.peers), .cells false (Rm 0 y.marks), .cells false (Re 0 y.ents)]) gone0 [AObj.cells true P, .cells false (bA L), .cells false (WmL y 3 0 4 0 5 0), .cells false (Ri 0 y.peers), .cells false (Rm 0 y.marks), .cells false (Re 0 y.ents)].length) := by
  have hi := ri_ren
  have hm := rm_ren
  have he := re_ren
  have t1 := to16_any y 0 0 0 (by omega)
  have r1 := rsame16_any y y 0 0 0 0 0 0 (by omega) (by omega)
  have w1 := wsame_any y y 0 0 0 0 0 0 (by omega) (by omega)
  rw [sameW_self] at r1 w1
  (try simp (maxSteps := 9999999) (disch := omega) only [go_sem])
  (apply AWpA.loopL (fun p : Nat × List Int => [(0, I k), (1, .sl 0 off L.length 1 none), (5, .sl 1 0 L.length 1 none), (6, .ptr 2 0), (7, I E), (29, I L.length), (30, I p.1)]) (fun p => [.cells true P, .cells false (bA p.2), .cells false (WmL y 3 0 4 0 5 0), .cells false (Ri 0 y.peers), .cells false (Rm 0 y.marks), .cells false (Re 0 y.ents)]) (fun p => L.length - p.1) (fun p => p.1 ≤ L.length ∧ p.2.length = L.length) ((0, L)) [0, 1, 2, 3, 4, 5]; rotate_left; (focus (simp (maxSteps := 9999999) (disch := omega) only [go_sem, hi, hm, he, hPr, bA_ren]; (try (repeat' (first | done | trivial | rfl | exact leAs_rfl _ | decide | (refine And.intro ?_ ?_) | (simp; done) | omega | (simp; decide)))))); rotate_right)
  · exact ⟨Nat.zero_le _, rfl⟩
  rintro ⟨i, X⟩ ⟨hil, hX⟩
  (try simp only at hil hX)
  by_cases hin : i < L.length
  · have g1 : ((i : Int) < (L.length : Int)) = True := eq_true (by omega)
    have hget : (bA X).getD i .bad = U8 X[i] := by
      unfold bA
      rw [List.getD_eq_getElem?_getD, List.getElem?_map, List.getElem?_eq_getElem (by omega)]
      rfl
    have hset := bA_set X i
    have hlen : (bA X).length = L.length := by rw [bA_len, hX]
    generalize X[i] = n at *
    (try simp (maxSteps := 9999999) (disch := omega) only [go_sem])
    (have k9 := And.intro @hi (And.intro @hm (And.intro @he (And.intro @hPr (And.intro @g1 (And.intro @hget (And.intro @hset (And.intro @hlen (And.intro @bA_ren (k0))))))))); (repeat' (first | refine AWpA.seq ?_ | refine AWpA.block ?_ | (with_reducible refine CondP.tt ?_) | (with_reducible refine CondP.ff ?_) | refine AWpA.cg ?_ | ((first | refine AWpA.rg ?_ | refine AWpA.dg [] [] follows ?_ | refine TailK.tg ?_ | refine AWpA.skip ?_ | refine AWpA.exit ?_ | refine AWpA.ret ?_ | (with_reducible refine ARoundsA.succ ?_) | ((first | refine Runs.gkt (fun h9 => ?_) | refine Runs.gkf (fun h9 => ?_) | refine Runs.gnt (fun h9 => ?_) | refine Runs.gnf (fun h9 => ?_) | refine CondP.gt (fun h9 => ?_) | refine CondP.gf (fun h9 => ?_) | refine CondP.gnt (fun h9 => ?_) | refine CondP.gnf (fun h9 => ?_)); (try simp only [h9]); clear h9)); (try simp (maxSteps := 9999999) (disch := omega) only [go_sem, k9]); (try refine cnd ?_)) | ((first | refine CondP.split (fun hif => ?_) (fun hif => ?_) | refine Runs.part (fun hif => ?_) (fun hif => ?_)) <;> ((try simp only [hif]); (try simp only [BL] at hif); (try (have h9 : _ = true := hif; simp only [h9])); (try (have h9 : _ = false := hif; simp only [h9])); (try simp (maxSteps := 9999999) (disch := omega) only [go_sem, k9]); (try refine cnd ?_); (try (exfalso; omega; done)))))); (all_goals (try clear k9)))
    (apply Back.to (i + 1, X.take i ++ [bits .xor .u8 n 255] ++ X.drop (i + 1)) [0, 1, 2, 3, 4, 5]; (focus ((try simp (maxSteps := 9999999) (disch := omega) only [go_sem, hi, hm, he, hPr, bA_ren]); first | done | omega)); rotate_left; (focus (simp (maxSteps := 9999999) (disch := omega) only [go_sem, hi, hm, he, hPr, bA_ren]; (try (repeat' (first | done | trivial | rfl | exact leAs_rfl _ | decide | (refine And.intro ?_ ?_) | (simp; done) | omega | (simp; decide)))))))
    refine ⟨by simp only; omega, ?_⟩
    simp only [List.length_append, List.length_take, List.length_drop, List.length_cons, List.length_nil]
    omega
  · obtain rfl : i = L.length := by omega
    have g1 : ((L.length : Int) < (L.length : Int)) = False := eq_false (by omega)
    have g2 : (E == E) = true := beq_self_eq_true E
    (try simp (maxSteps := 9999999) (disch := omega) only [go_sem])
    (have k9 := And.intro @hi (And.intro @hm (And.intro @he (And.intro @hPr (And.intro @g1 (And.intro @g2 (And.intro @bA_ren (k0))))))); (repeat' (first | refine AWpA.seq ?_ | refine AWpA.block ?_ | (with_reducible refine CondP.tt ?_) | (with_reducible refine CondP.ff ?_) | refine AWpA.cg ?_ | ((first | refine AWpA.rg ?_ | refine AWpA.dg [] [] follows ?_ | refine TailK.tg ?_ | refine AWpA.skip ?_ | refine AWpA.exit ?_ | refine AWpA.ret ?_ | (with_reducible refine ARoundsA.succ ?_) | ((first | refine Runs.gkt (fun h9 => ?_) | refine Runs.gkf (fun h9 => ?_) | refine Runs.gnt (fun h9 => ?_) | refine Runs.gnf (fun h9 => ?_) | refine CondP.gt (fun h9 => ?_) | refine CondP.gf (fun h9 => ?_) | refine CondP.gnt (fun h9 => ?_) | refine CondP.gnf (fun h9 => ?_)); (try simp only [h9]); clear h9) | refine CallG.pg [0] (d2) ?_ | refine CallG.pg [3, 4, 5] (t1) ?_ | refine CallG.pg [54, 55, 56] (t1) ?_ | refine CallG.pg [3, 246, 247, 54, 278, 279] (r1) ?_ | refine CallG.pg [3, 4, 5, 54, 55, 56] (w1) ?_ | refine CallG.dg [0] (d2) ?_ | refine CallG.dg [3, 4, 5] (t1) ?_ | refine CallG.dg [54, 55, 56] (t1) ?_ | refine CallG.dg [3, 246, 247, 54, 278, 279] (r1) ?_ | refine CallG.dg [3, 4, 5, 54, 55, 56] (w1) ?_); (try simp (maxSteps := 9999999) (disch := omega) only [go_sem, k9]); (try refine cnd ?_)) | ((first | refine CondP.split (fun hif => ?_) (fun hif => ?_) | refine Runs.part (fun hif => ?_) (fun hif => ?_)) <;> ((try simp only [hif]); (try simp only [BL] at hif); (try (have h9 : _ = true := hif; simp only [h9])); (try (have h9 : _ = false := hif; simp only [h9])); (try simp (maxSteps := 9999999) (disch := omega) only [go_sem, k9]); (try refine cnd ?_); (try (exfalso; omega; done)))))); (all_goals (try clear k9)))
    all_goals (refine TopPost.of (by first | exact .inl rfl | exact .inr rfl) (by (try simp (maxSteps := 9999999) (disch := omega) only [go_sem]); rfl) ?_; (try simp (maxSteps := 9999999) (disch := omega) only [go_sem]); (try (first | trivial | decide | (simp; done))))
theorem wkept_walk (W : World) (k : Int) (b : Sl Int) (hb0 : b.ok W 1 (fun n : Int => [.int .u8 n]) (fun n : Int => IntKind.u8.min ≤ n ∧ n ≤ IntKind.u8.max)) :
    Calls Tryz.prog 4 #[.int .i64 k, .slice b.ad b.l.length b.cap] W fun e W' => e = .returned (.bool true) ∧ Below W.heap.size W W' := by
  obtain ⟨ad, off, cap, L⟩ := b
  have hz := hb0.fz
  have hb : bytesB L := hb0.all
  simp only at hz hb
  have sp := speaks16
  by_cases h700 : 700 < L.length
  · have h1 : ((700 : Int) < (L.length : Int)) = True := eq_true (by omega)
    refine top_call c4_ok Tryz.func4 rfl Tryz.ntmps4 res4_ok [ .val (.int .i64 k), .val (.slice ad L.length cap)] (by simp) (by (repeat' (first | exact VRs_nil' _ | exact VR_val' _ _ | (refine VRs_cons' ?_ ?_) | (refine VR_agg' (by first | rfl | assumption) ?_; first | assumption | simp [Value.oneCell'])))) ?_; try simp (maxSteps := 9999999) (disch := omega) only [go_sem]
    (have k9 := And.intro @h1 (k0); (repeat' (first | refine AWpA.seq ?_ | refine AWpA.block ?_ | (with_reducible refine CondP.tt ?_) | (with_reducible refine CondP.ff ?_) | refine AWpA.cg ?_ | ((first | refine AWpA.rg ?_ | refine AWpA.dg [] [] follows ?_ | refine TailK.tg ?_ | refine AWpA.skip ?_ | refine AWpA.exit ?_ | refine AWpA.ret ?_ | (with_reducible refine ARoundsA.succ ?_) | ((first | refine Runs.gkt (fun h9 => ?_) | refine Runs.gkf (fun h9 => ?_) | refine Runs.gnt (fun h9 => ?_) | refine Runs.gnf (fun h9 => ?_) | refine CondP.gt (fun h9 => ?_) | refine CondP.gf (fun h9 => ?_) | refine CondP.gnt (fun h9 => ?_) | refine CondP.gnf (fun h9 => ?_)); (try simp only [h9]); clear h9) | refine CallG.pg [] (sp) ?_ | refine CallG.dg [] (sp) ?_); (try simp (maxSteps := 9999999) (disch := omega) only [go_sem, k9]); (try refine cnd ?_)) | ((first | refine CondP.split (fun hif => ?_) (fun hif => ?_) | refine Runs.part (fun hif => ?_) (fun hif => ?_)) <;> ((try simp only [hif]); (try simp only [BL] at hif); (try (have h9 : _ = true := hif; simp only [h9])); (try (have h9 : _ = false := hif; simp only [h9])); (try simp (maxSteps := 9999999) (disch := omega) only [go_sem, k9]); (try refine cnd ?_); (try (exfalso; omega; done)))))); (all_goals (try clear k9)))
    (refine TopPost.of (by first | exact .inl rfl | exact .inr rfl) (by (try simp (maxSteps := 9999999) (disch := omega) only [go_sem]); rfl) ?_; (try simp (maxSteps := 9999999) (disch := omega) only [go_sem]); (try (first | trivial | decide | (simp; done))))
  have h1 : ((700 : Int) < (L.length : Int)) = False := eq_false (by omega)
  have s := Seg.rows (off := off) (l := L) (by omega)
  have s0 := Seg.all L (by omega)
  have d1 := wdecode_any s0 hb k
  have d2 := wdecode_any s hb k
  have hfl := fin_len (k := k) hb
  have t1 := to16_any (finW L k) 0 0 0 (by omega)
  have r1 := rsame16_any (finW L k) (finW L k) 0 0 0 0 0 0 (by omega) (by omega)
  have w1 := wsame_any (finW L k) (finW L k) 0 0 0 0 0 0 (by omega) (by omega)
  rw [sameW_self] at r1 w1
  generalize finW L k = y at *
  generalize finE L k = E at *
  have hi := ri_ren
  have hm := rm_ren
  have he := re_ren
  refine top_call c4_ok Tryz.func4 rfl Tryz.ntmps4 res4_ok [ .val (.int .i64 k), .val (.slice ad L.length cap)] (by simp) (by (repeat' (first | exact VRs_nil' _ | exact VR_val' _ _ | (refine VRs_cons' ?_ ?_) | (refine VR_agg' (by first | rfl | assumption) ?_; first | assumption | simp [Value.oneCell'])))) ?_; try simp (maxSteps := 9999999) (disch := omega) only [go_sem]
  refine AWpA.thawT 1 (fun n : Int => [.val (.int .u8 n)]) hz (fun _ => rfl) rfl ?_
  generalize hP : rowsC off (fun n : Int => [.val (.int .u8 n)]) L = P at *
  have hPr := s.ren
  have hPs := s.seg
  have hPl := s.le
  have hL7 : L.length ≤ 700 := by omega
  have lp := wkept_loop W k E off L P y hL7 hPr d2 hfl
  clear hb0 hz hP h700 s s0 t1 r1 w1
  rcases (show L.length = 0 ∨ 0 < L.length by omega) with h0 | h0
  · have h0 := List.length_eq_zero_iff.1 h0
    subst h0
    (try simp (maxSteps := 9999999) (disch := omega) only [go_sem])
    (have k9 := And.intro @hi (And.intro @hm (And.intro @he (And.intro @hPr (And.intro @hPs (And.intro @bA_ren (And.intro @bA_nil (k0))))))); (repeat' (first | refine AWpA.seq ?_ | refine AWpA.block ?_ | (with_reducible refine CondP.tt ?_) | (with_reducible refine CondP.ff ?_) | refine AWpA.cg ?_ | ((first | refine AWpA.rg ?_ | refine AWpA.dg [] [] follows ?_ | refine TailK.tg ?_ | refine AWpA.skip ?_ | refine AWpA.exit ?_ | refine AWpA.ret ?_ | (with_reducible refine ARoundsA.succ ?_) | ((first | refine Runs.gkt (fun h9 => ?_) | refine Runs.gkf (fun h9 => ?_) | refine Runs.gnt (fun h9 => ?_) | refine Runs.gnf (fun h9 => ?_) | refine CondP.gt (fun h9 => ?_) | refine CondP.gf (fun h9 => ?_) | refine CondP.gnt (fun h9 => ?_) | refine CondP.gnf (fun h9 => ?_)); (try simp only [h9]); clear h9) | refine CallG.pg [] (sp) ?_ | refine CallG.pg [129] (d1) ?_ | refine CallG.dg [] (sp) ?_ | refine CallG.dg [129] (d1) ?_); (try simp (maxSteps := 9999999) (disch := omega) only [go_sem, k9]); (try refine cnd ?_)) | ((first | refine CondP.split (fun hif => ?_) (fun hif => ?_) | refine Runs.part (fun hif => ?_) (fun hif => ?_)) <;> ((try simp only [hif]); (try simp only [BL] at hif); (try (have h9 : _ = true := hif; simp only [h9])); (try (have h9 : _ = false := hif; simp only [h9])); (try simp (maxSteps := 9999999) (disch := omega) only [go_sem, k9]); (try refine cnd ?_); (try (exfalso; omega; done)))))); (all_goals (try clear k9)))
    all_goals (refine AWpA.to [0, 129, 289, 225, 226, 227] (lp) ?_; (focus (simp (maxSteps := 9999999) (disch := omega) only [go_sem, hi, hm, he, hPr, bA_ren, bA_nil]; (try (repeat' (first | done | trivial | rfl | exact leAs_rfl _ | decide | (refine And.intro ?_ ?_) | (simp; done) | omega | (simp; decide)))))))
  · have g0 : (L.length ≤ 0) = False := eq_false (by omega)
    (try simp (maxSteps := 9999999) (disch := omega) only [go_sem])
    (have k9 := And.intro @hi (And.intro @hm (And.intro @he (And.intro @hPr (And.intro @hPs (And.intro @hPl (And.intro @h1 (And.intro @g0 (And.intro @bA_ren (k0))))))))); (repeat' (first | refine AWpA.seq ?_ | refine AWpA.block ?_ | (with_reducible refine CondP.tt ?_) | (with_reducible refine CondP.ff ?_) | refine AWpA.cg ?_ | ((first | refine AWpA.rg ?_ | refine AWpA.dg [] [] follows ?_ | refine TailK.tg ?_ | refine AWpA.skip ?_ | refine AWpA.exit ?_ | refine AWpA.ret ?_ | (with_reducible refine ARoundsA.succ ?_) | ((first | refine Runs.gkt (fun h9 => ?_) | refine Runs.gkf (fun h9 => ?_) | refine Runs.gnt (fun h9 => ?_) | refine Runs.gnf (fun h9 => ?_) | refine CondP.gt (fun h9 => ?_) | refine CondP.gf (fun h9 => ?_) | refine CondP.gnt (fun h9 => ?_) | refine CondP.gnf (fun h9 => ?_)); (try simp only [h9]); clear h9) | refine CallG.pg [] (sp) ?_ | refine CallG.pg [161] (d1) ?_ | refine CallG.dg [] (sp) ?_ | refine CallG.dg [161] (d1) ?_); (try simp (maxSteps := 9999999) (disch := omega) only [go_sem, k9]); (try refine cnd ?_)) | ((first | refine CondP.split (fun hif => ?_) (fun hif => ?_) | refine Runs.part (fun hif => ?_) (fun hif => ?_)) <;> ((try simp only [hif]); (try simp only [BL] at hif); (try (have h9 : _ = true := hif; simp only [h9])); (try (have h9 : _ = false := hif; simp only [h9])); (try simp (maxSteps := 9999999) (disch := omega) only [go_sem, k9]); (try refine cnd ?_); (try (exfalso; omega; done)))))); (all_goals (try clear k9)))
    all_goals (refine AWpA.to [0, 161, 289, 225, 226, 227] (lp) ?_; (focus (simp (maxSteps := 9999999) (disch := omega) only [go_sem, hi, hm, he, hPr, bA_ren]; (try (repeat' (first | done | trivial | rfl | exact leAs_rfl _ | decide | (refine And.intro ?_ ?_) | (simp; done) | omega | (simp; decide)))))))
end Go.Proofs.YtopidfkmligljaaGreat
