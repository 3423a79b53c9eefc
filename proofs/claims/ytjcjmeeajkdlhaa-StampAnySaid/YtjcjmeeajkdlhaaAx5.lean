/- The walk of StampAny. -/
import Derived.Test.YtjcjmeeajkdlhaaAx3
namespace Go.Proofs.Ytjcjmeeajkdlhaa
set_option linter.unusedSimpArgs false
set_option linter.unusedVariables false
set_option maxHeartbeats 4000000
open Go Go.Am Go.RowKit Go.ChangeShapes Go.WideShapes Go.ChangeAt
set_option maxRecDepth 100000
def mxL : List St → St
  | [] => ⟨0, 0⟩
  | m :: l => mxS m l
theorem mxL_mem : ∀ {l : List St}, l ≠ [] → mxL l ∈ l
  | [], h => absurd rfl h
  | m :: l, _ => mxS_mem l m
theorem mxL_max : ∀ {l : List St} {x : St}, x ∈ l → laterB x (mxL l) = false
  | [], _, h => by cases h
  | m :: l, x, h => mxS_max l m x h
/-- Lists of the same stamps have the same latest one. -/
theorem mxL_same {l m : List St} (hl : l ≠ []) (h : ∀ x, x ∈ l ↔ x ∈ m) : mxL l = mxL m := by
  have hm : m ≠ [] := fun e => by
    have := (h _).1 (mxL_mem hl)
    rw [e] at this; cases this
  exact later_eq (mxL_max ((h _).1 (mxL_mem hl))) (mxL_max ((h _).2 (mxL_mem hm)))
theorem mxL_rev {l : List St} (hl : l ≠ []) : mxL l.reverse = mxL l := mxL_same (by simpa using hl) (fun x => by simp)
theorem mxL_two {l m : List St} (hl : l ≠ []) (hm : m ≠ []) : mxL [mxL l, mxL m] = mxL (m ++ l) := by
  refine later_eq ?_ ?_
  · have h := mxL_mem (l := [mxL l, mxL m]) (by simp)
    refine mxL_max ?_
    rcases List.mem_cons.1 h with h | h
    · rw [h]; exact List.mem_append_right _ (mxL_mem hl)
    · rw [List.mem_singleton.1 h]; exact List.mem_append_left _ (mxL_mem hm)
  · have h := mxL_mem (l := m ++ l) (by simp [hl])
    rcases List.mem_append.1 h with h | h
    · exact later_neg (mxL_max h) (mxL_max (by simp))
    · exact later_neg (mxL_max h) (mxL_max (by simp))
theorem cmpS_neg (a b : St) : cmpS a b = - cmpS b a := by
  unfold cmpS cmpI orI
  grind
theorem latestL_any (off : Nat) (l : List St) (hn : l ≠ []) (hl : l.length ≤ 9223372036854775807) : ACall Try.prog 52 [.sl 0 off l.length 2 none] [.cells true (Rs off l)] (Det (StA (mxL l)) [.cells true (Rs off l)]) := by
  match l, hn, hl with
  | m :: t, _, hl => exact latest_any off m t hl
/-- As ahead, of a slice with a known capacity. -/
theorem rs_two (a b : St) : Rs 0 [a, b] = [I a.c, I a.s, I b.c, I b.s] := rfl
theorem rs_cons (a : St) (l : List St) : Rs 0 (a :: l) = I a.c :: I a.s :: Rs 0 l := rfl
theorem rs_app (l m : List St) : Rs 0 (l ++ m) = Rs 0 l ++ Rs 0 m := by simp [Rs, rowsC]
theorem rs_all (l : List St) (n : Nat) (h : n = l.length * 2) : (Rs 0 l).take n = Rs 0 l := List.take_of_length_le (by rw [rs_len]; omega)
/- quidnunc/quidnunclaw04.StampAny -/
noncomputable def c12_1 : ACode := .region false [⟨some 4, .move, [.c (.val (.bool false))], none⟩] [] [] [0, 1] false [] []
noncomputable def c12_4 : ACode := .region false [⟨some 14, .call 35, [], none⟩,
  ⟨some 15, .un .not, [.t 14], none⟩,
  ⟨some 16, .move, [.t 15], none⟩,
  ⟨some 17, .move, [.t 0], some (some 16, false)⟩,
  ⟨some 18, .len, [.t 17], some (some 16, false)⟩,
  ⟨some 19, .bin .gtr, [.t 18, .c (.val (.int .i64 40))], some (some 16, false)⟩,
  ⟨some 20, .pick, [.t 16, .c (.val (.bool true)), .t 19], none⟩,
  ⟨some 21, .move, [.t 20], none⟩,
  ⟨some 22, .move, [.t 1], some (some 21, false)⟩,
  ⟨some 23, .len, [.t 22], some (some 21, false)⟩,
  ⟨some 24, .bin .gtr, [.t 23, .c (.val (.int .i64 40))], some (some 21, false)⟩,
  ⟨some 25, .pick, [.t 21, .c (.val (.bool true)), .t 24], none⟩,
  ⟨some 26, .move, [.t 25], none⟩,
  ⟨some 27, .move, [.t 0], some (some 26, false)⟩,
  ⟨some 28, .len, [.t 27], some (some 26, false)⟩,
  ⟨some 29, .bin .eql, [.t 28, .c (.val (.int .i64 0))], some (some 26, false)⟩,
  ⟨some 30, .pick, [.t 26, .c (.val (.bool true)), .t 29], none⟩,
  ⟨some 31, .move, [.t 30], none⟩,
  ⟨some 32, .move, [.t 1], some (some 31, false)⟩,
  ⟨some 33, .len, [.t 32], some (some 31, false)⟩,
  ⟨some 34, .bin .eql, [.t 33, .c (.val (.int .i64 0))], some (some 31, false)⟩,
  ⟨some 35, .pick, [.t 31, .c (.val (.bool true)), .t 34], none⟩] [] [] [0, 1, 35] true [] []
noncomputable def c12_7 : ACode := .region false [⟨some 36, .call 35, [], none⟩,
  ⟨some 4, .move, [.t 36], none⟩] [] [] [4] true [] []
noncomputable def c12_6 : ACode := .seq c12_7 .ret
noncomputable def c12_5 : ACode := .cond (.t 35) c12_6 .skip
noncomputable def c12_3 : ACode := .seq c12_4 c12_5
noncomputable def c12_9 : ACode := .region false [⟨some 5, .move, [.c (.val (.slice none 0 0))], none⟩,
  ⟨some 6, .move, [.c (.val (.slice none 0 0))], none⟩,
  ⟨some 7, .move, [.c (.val (.slice none 0 0))], none⟩] [] [] [0, 1, 5, 6, 7] false [] []
noncomputable def c12_12 : ACode := .region false [⟨some 37, .move, [.t 0], none⟩,
  ⟨some 38, .len, [.t 37], none⟩,
  ⟨some 39, .move, [.c (.val (.int .i64 0))], none⟩] [] [] [1, 5, 6, 7, 37, 38, 39] false [] []
noncomputable def c12_16 : ACode := .region false [⟨some 40, .bin .lss, [.t 39, .t 38], none⟩] [] [] [1, 5, 6, 7, 37, 38, 39, 40] false [] []
noncomputable def c12_18 : ACode := .cond (.t 40) .skip (.exit 0)
noncomputable def c12_22 : ACode := .region false [⟨some 41, .ixS 2, [.t 37, .t 39], none⟩,
  ⟨some 42, .load true 2, [.t 41], none⟩,
  ⟨some 9, .alloc [(.int .i64 0), (.int .i64 0)], [], none⟩,
  ⟨none, .store 2, [.t 9, .t 42], none⟩] [] [] [1, 5, 6, 7, 9, 37, 38, 39] true [] []
noncomputable def c12_24 : ACode := .region false [⟨some 43, .move, [.t 5], none⟩,
  ⟨some 44, .load true 2, [.t 9], none⟩,
  ⟨some 45, .call 38, [.t 44], none⟩,
  ⟨some 46, .buildSl 2 1 [(.int .i64 0), (.int .i64 0)] [(0, 2)], [.t 45], none⟩,
  ⟨some 47, .append 2 16 false, [.t 43, .t 46], none⟩,
  ⟨some 5, .move, [.t 47], none⟩] [] [] [1, 5, 6, 7, 9, 37, 38, 39] true [] []
noncomputable def c12_25 : ACode := .region false [⟨some 48, .load true 2, [.t 9], none⟩,
  ⟨some 49, .call 38, [.t 48], none⟩,
  ⟨some 50, .buildSl 2 1 [(.int .i64 0), (.int .i64 0)] [(0, 2)], [.t 49], none⟩,
  ⟨some 51, .move, [.t 7], none⟩,
  ⟨some 52, .append 2 16 false, [.t 50, .t 51], none⟩,
  ⟨some 7, .move, [.t 52], none⟩] [] [] [1, 5, 6, 7, 37, 38, 39] true [] []
noncomputable def c12_23 : ACode := .seq c12_24 c12_25
noncomputable def c12_21 : ACode := .seq c12_22 c12_23
noncomputable def c12_20 : ACode := .block 1 c12_21
noncomputable def c12_26 : ACode := .region false [⟨some 53, .bin .add, [.t 39, .c (.val (.int .i64 1))], none⟩,
  ⟨some 39, .move, [.t 53], none⟩] [] [] [1, 5, 6, 7, 37, 38, 39] false [] []
noncomputable def c12_19 : ACode := .seq c12_20 c12_26
noncomputable def c12_17 : ACode := .seq c12_18 c12_19
noncomputable def c12_15 : ACode := .seq c12_16 c12_17
noncomputable def c12_14 : ACode := .loop c12_15
noncomputable def c12_13 : ACode := .block 0 c12_14
noncomputable def c12_11 : ACode := .seq c12_12 c12_13
noncomputable def c12_29 : ACode := .region false [⟨some 54, .move, [.t 1], none⟩,
  ⟨some 55, .len, [.t 54], none⟩,
  ⟨some 56, .move, [.c (.val (.int .i64 0))], none⟩] [] [] [5, 6, 7, 54, 55, 56] false [] []
noncomputable def c12_33 : ACode := .region false [⟨some 57, .bin .lss, [.t 56, .t 55], none⟩] [] [] [5, 6, 7, 54, 55, 56, 57] false [] []
noncomputable def c12_35 : ACode := .cond (.t 57) .skip (.exit 2)
noncomputable def c12_39 : ACode := .region false [⟨some 58, .ixS 2, [.t 54, .t 56], none⟩,
  ⟨some 59, .load true 2, [.t 58], none⟩,
  ⟨some 11, .alloc [(.int .i64 0), (.int .i64 0)], [], none⟩,
  ⟨none, .store 2, [.t 11, .t 59], none⟩] [] [] [5, 6, 7, 11, 54, 55, 56] true [] []
noncomputable def c12_40 : ACode := .region false [⟨some 60, .move, [.t 6], none⟩,
  ⟨some 61, .load true 2, [.t 11], none⟩,
  ⟨some 62, .call 38, [.t 61], none⟩,
  ⟨some 63, .buildSl 2 1 [(.int .i64 0), (.int .i64 0)] [(0, 2)], [.t 62], none⟩,
  ⟨some 64, .append 2 16 false, [.t 60, .t 63], none⟩,
  ⟨some 6, .move, [.t 64], none⟩] [] [] [5, 6, 7, 54, 55, 56] true [] []
noncomputable def c12_38 : ACode := .seq c12_39 c12_40
noncomputable def c12_37 : ACode := .block 3 c12_38
noncomputable def c12_41 : ACode := .region false [⟨some 65, .bin .add, [.t 56, .c (.val (.int .i64 1))], none⟩,
  ⟨some 56, .move, [.t 65], none⟩] [] [] [5, 6, 7, 54, 55, 56] false [] []
noncomputable def c12_36 : ACode := .seq c12_37 c12_41
noncomputable def c12_34 : ACode := .seq c12_35 c12_36
noncomputable def c12_32 : ACode := .seq c12_33 c12_34
noncomputable def c12_31 : ACode := .loop c12_32
noncomputable def c12_30 : ACode := .block 2 c12_31
noncomputable def c12_28 : ACode := .seq c12_29 c12_30
noncomputable def c12_43 : ACode := .region false [⟨some 66, .move, [.t 5], none⟩,
  ⟨some 67, .call 52, [.t 66], none⟩,
  ⟨some 68, .move, [.t 6], none⟩,
  ⟨some 69, .call 52, [.t 68], none⟩,
  ⟨some 12, .alloc [(.int .i64 0), (.int .i64 0)], [], none⟩,
  ⟨some 13, .alloc [(.int .i64 0), (.int .i64 0)], [], none⟩,
  ⟨none, .store 2, [.t 12, .t 67], none⟩,
  ⟨none, .store 2, [.t 13, .t 69], none⟩] [] [] [5, 6, 7, 12, 13] true [] []
noncomputable def c12_45 : ACode := .region true [⟨some 70, .move, [.t 7], none⟩,
  ⟨some 71, .call 52, [.t 70], none⟩,
  ⟨some 72, .load true 2, [.t 12], none⟩,
  ⟨some 73, .eqA false [(0, 0), (1, 0)], [.t 71, .t 72], none⟩,
  ⟨some 74, .move, [.t 73], none⟩,
  ⟨some 75, .load true 2, [.t 12], some (some 74, true)⟩,
  ⟨some 76, .load true 2, [.t 13], some (some 74, true)⟩,
  ⟨some 77, .buildSl 2 2 [(.int .i64 0), (.int .i64 0)] [(0, 2), (2, 2)], [.t 75, .t 76], some (some 74, true)⟩,
  ⟨some 78, .call 52, [.t 77], some (some 74, true)⟩,
  ⟨some 79, .buildSl 2 0 [(.int .i64 0), (.int .i64 0)] [], [], some (some 74, true)⟩,
  ⟨some 80, .move, [.t 6], some (some 74, true)⟩,
  ⟨some 81, .append 2 16 false, [.t 79, .t 80], some (some 74, true)⟩,
  ⟨some 82, .move, [.t 5], some (some 74, true)⟩,
  ⟨some 83, .append 2 16 false, [.t 81, .t 82], some (some 74, true)⟩,
  ⟨some 84, .call 52, [.t 83], some (some 74, true)⟩,
  ⟨some 85, .eqA false [(0, 0), (1, 0)], [.t 78, .t 84], some (some 74, true)⟩,
  ⟨some 86, .pick, [.t 74, .t 85, .c (.val (.bool false))], none⟩,
  ⟨some 87, .move, [.t 86], none⟩,
  ⟨some 88, .load true 2, [.t 12], some (some 87, true)⟩,
  ⟨some 89, .load true 2, [.t 13], some (some 87, true)⟩,
  ⟨some 90, .call 50, [.t 88, .t 89], some (some 87, true)⟩,
  ⟨some 91, .load true 2, [.t 13], some (some 87, true)⟩,
  ⟨some 92, .load true 2, [.t 12], some (some 87, true)⟩,
  ⟨some 93, .call 50, [.t 91, .t 92], some (some 87, true)⟩,
  ⟨some 94, .un .neg, [.t 93], some (some 87, true)⟩,
  ⟨some 95, .bin .eql, [.t 90, .t 94], some (some 87, true)⟩,
  ⟨some 96, .pick, [.t 87, .t 95, .c (.val (.bool false))], none⟩,
  ⟨some 4, .move, [.t 96], none⟩] [] [(8, 9)] [4] true [] []
noncomputable def c12_44 : ACode := .seq c12_45 .ret
noncomputable def c12_42 : ACode := .seq c12_43 c12_44
noncomputable def c12_27 : ACode := .seq c12_28 c12_42
noncomputable def c12_10 : ACode := .seq c12_11 c12_27
noncomputable def c12_8 : ACode := .seq c12_9 c12_10
noncomputable def c12_2 : ACode := .seq c12_3 c12_8
noncomputable def c12_0 : ACode := .seq c12_1 c12_2
noncomputable def code12 : Code := (Try.f12.body).getD .skip
theorem c12_ok : compC Try.prog 97 code12 = some (strip c12_0) := by kernel_rfl
theorem res12_ok : Try.f12.results.toList.mapM (resC Try.prog) = some [(4, none)] := by kernel_rfl
theorem stampAny_walk (W : World) (sl sm : Sl St) (hz : Sl.ok W 2 St.rep (St.ok W) sl) (hm : Sl.ok W 2 St.rep (St.ok W) sm) :
    Calls Try.prog 12 #[.slice sl.ad sl.l.length sl.cap, .slice sm.ad sm.l.length sm.cap] W fun e W' => e = .returned (.bool true) ∧ Below W.heap.size W W' := by
  obtain ⟨ad, off, cap, l⟩ := sl
  obtain ⟨ad2, off2, cap2, m⟩ := sm
  obtain ⟨hz, -, hl⟩ := hz
  obtain ⟨hm, -, hml⟩ := hm
  simp only at hz hm
  have hr := rs_ren off l
  have hlen := rs_len off l
  have hr3 := rs_ren off2 m
  have hlen3 := rs_len off2 m
  by_cases hbad : 40 < l.length ∨ 40 < m.length ∨ l.length = 0 ∨ m.length = 0
  · refine top_call c12_ok Try.func12 rfl Try.ntmps12 res12_ok [ .val (.slice ad l.length cap), .val (.slice ad2 m.length cap2)] (by simp) (by (repeat' (first | exact VRs_nil' _ | exact VR_val' _ _ | (refine VRs_cons' ?_ ?_) | (refine VR_agg' (by first | rfl | assumption) ?_; first | assumption | simp [Value.oneCell', St.rep, Ac.rep])))) ?_; try simp (maxSteps := 9999999) (disch := omega) only [go_sem]
    (repeat' (first | refine AWpA.seq ?_ | refine AWpA.block ?_ | (with_reducible refine CondP.tt ?_) | (with_reducible refine CondP.ff ?_) | refine AWpA.condv (by simp (maxSteps := 9999999) (disch := omega) only [go_sem]; rfl) ?_ | ((first | (apply AWpA.region; (focus (simp (maxSteps := 9999999) (disch := omega) only [go_sem]; rfl))) | (apply AWpA.draw [] [] follows; (focus (first | rfl | decide)); (focus (simp (maxSteps := 9999999) (disch := omega) only [go_sem]; rfl)); (focus (simp (maxSteps := 9999999) (disch := omega) only [go_sem]; first | done | trivial)); (focus (simp (maxSteps := 9999999) (disch := omega) only [go_sem]; rfl))) | (apply TailK.go; (focus (simp (maxSteps := 9999999) (disch := omega) only [go_sem]; rfl))) | refine AWpA.skip ?_ | refine AWpA.exit ?_ | refine AWpA.ret ?_ | (with_reducible refine ARoundsA.succ ?_) | ((first | refine Runs.kt (by assumption) (fun h9 => ?_) | refine Runs.kf (by assumption) (fun h9 => ?_) | refine Runs.nt (by assumption) (fun h9 => ?_) | refine Runs.nf (by assumption) (fun h9 => ?_) | refine CondP.ht (by assumption) (fun h9 => ?_) | refine CondP.hf (by assumption) (fun h9 => ?_) | refine CondP.nt (by assumption) (fun h9 => ?_) | refine CondP.nf (by assumption) (fun h9 => ?_)); (try simp only [h9]); clear h9) | ((first | (with_reducible apply CallG.plain1 [] (speaks04)) | (with_reducible apply CallG.draw1 [] (speaks04))); (focus ((try refine And.intro (leAs_of_eq rfl) ?_); (try refine And.intro (leOL_of_eq rfl) ?_); simp (maxSteps := 9999999) (disch := omega) only [go_sem]; first | done | (repeat' (first | rfl | (refine And.intro ?_ ?_))))); (focus (simp (maxSteps := 9999999) (disch := omega) only [go_sem]; rfl)))); (try simp (maxSteps := 9999999) (disch := omega) only [go_sem]); (try (refine And.intro ?_ ?_; (focus (first | omega | (simp only [go_sem]; done) | (simp; done) | (simp; omega) | assumption))))) | ((first | refine CondP.split (fun hif => ?_) (fun hif => ?_) | refine Runs.part (fun hif => ?_) (fun hif => ?_)) <;> ((try simp only [hif]); (try simp only [decide_eq_true_eq, decide_eq_false_iff_not, Bool.not_eq_true, Bool.not_eq_false, Bool.not_eq_true', Bool.not_eq_false', beq_iff_eq, bne_iff_ne, bne_eq_false_iff_eq, beq_eq_false_iff_ne, ne_eq, Bool.and_eq_true, Bool.or_eq_true, Bool.or_eq_false_iff] at hif); (try (have h9 : _ = true := hif; simp only [h9])); (try (have h9 : _ = false := hif; simp only [h9])); (try simp (maxSteps := 9999999) (disch := omega) only [go_sem]); (try (refine And.intro ?_ ?_; (focus (first | omega | (simp only [go_sem]; done) | (simp; done) | (simp; omega) | assumption)))); (try (exfalso; omega; done))))))
    all_goals (first | (exfalso; omega) | skip)
    all_goals (refine TopPost.of (by first | exact .inl rfl | exact .inr rfl) (by (try simp (maxSteps := 9999999) (disch := omega) only [go_sem]); rfl) ?_; (try simp (maxSteps := 9999999) (disch := omega) only [go_sem]); (try (first | trivial | decide | (simp; done))))
  obtain ⟨h40, h41, h42, h43⟩ : l.length ≤ 40 ∧ m.length ≤ 40 ∧ l.length ≠ 0 ∧ m.length ≠ 0 := by omega
  have g1 : ((40 : Int) < (l.length : Int)) = False := eq_false (by omega)
  have g2 : ((40 : Int) < (m.length : Int)) = False := eq_false (by omega)
  have g3 : ((l.length : Int) == 0) = false := by rw [beq_eq_false_iff_ne]; omega
  have g4 : ((m.length : Int) == 0) = false := by rw [beq_eq_false_iff_ne]; omega
  refine top_call c12_ok Try.func12 rfl Try.ntmps12 res12_ok [ .val (.slice ad l.length cap), .val (.slice ad2 m.length cap2)] (by simp) (by (repeat' (first | exact VRs_nil' _ | exact VR_val' _ _ | (refine VRs_cons' ?_ ?_) | (refine VR_agg' (by first | rfl | assumption) ?_; first | assumption | simp [Value.oneCell', St.rep, Ac.rep])))) ?_; try simp (maxSteps := 9999999) (disch := omega) only [go_sem]
  refine AWpA.thawT 0 (fun s : St => [I s.c, I s.s]) hz (fun x => by simp [St.rep]) rfl ?_
  refine AWpA.thawT 1 (fun s : St => [I s.c, I s.s]) hm (fun x => by simp [St.rep]) rfl ?_
  refine AWpA.dummy ?_
  refine AWpA.dummy ?_
  (repeat' (first | refine AWpA.seq ?_ | refine AWpA.block ?_ | (with_reducible refine CondP.tt ?_) | (with_reducible refine CondP.ff ?_) | refine AWpA.condv (by simp (maxSteps := 9999999) (disch := omega) only [go_sem, hr, hr3, g1, g2, g3, g4]; rfl) ?_ | ((first | (apply AWpA.region; (focus (simp (maxSteps := 9999999) (disch := omega) only [go_sem, hr, hr3, g1, g2, g3, g4]; rfl))) | (apply AWpA.draw [] [] follows; (focus (first | rfl | decide)); (focus (simp (maxSteps := 9999999) (disch := omega) only [go_sem, hr, hr3, g1, g2, g3, g4]; rfl)); (focus (simp (maxSteps := 9999999) (disch := omega) only [go_sem, hr, hr3, g1, g2, g3, g4]; first | done | trivial)); (focus (simp (maxSteps := 9999999) (disch := omega) only [go_sem, hr, hr3, g1, g2, g3, g4]; rfl))) | (apply TailK.go; (focus (simp (maxSteps := 9999999) (disch := omega) only [go_sem, hr, hr3, g1, g2, g3, g4]; rfl))) | refine AWpA.skip ?_ | refine AWpA.exit ?_ | refine AWpA.ret ?_ | (with_reducible refine ARoundsA.succ ?_) | ((first | refine Runs.kt (by assumption) (fun h9 => ?_) | refine Runs.kf (by assumption) (fun h9 => ?_) | refine Runs.nt (by assumption) (fun h9 => ?_) | refine Runs.nf (by assumption) (fun h9 => ?_) | refine CondP.ht (by assumption) (fun h9 => ?_) | refine CondP.hf (by assumption) (fun h9 => ?_) | refine CondP.nt (by assumption) (fun h9 => ?_) | refine CondP.nf (by assumption) (fun h9 => ?_)); (try simp only [h9]); clear h9) | ((first | (with_reducible apply CallG.plain1 [] (speaks04)) | (with_reducible apply CallG.draw1 [] (speaks04))); (focus ((try refine And.intro (leAs_of_eq rfl) ?_); (try refine And.intro (leOL_of_eq rfl) ?_); simp (maxSteps := 9999999) (disch := omega) only [go_sem, hr, hr3, g1, g2, g3, g4]; first | done | (repeat' (first | rfl | (refine And.intro ?_ ?_))))); (focus (simp (maxSteps := 9999999) (disch := omega) only [go_sem, hr, hr3, g1, g2, g3, g4]; rfl)))); (try simp (maxSteps := 9999999) (disch := omega) only [go_sem, hr, hr3, g1, g2, g3, g4]); (try (refine And.intro ?_ ?_; (focus (first | omega | (simp only [go_sem]; done) | (simp; done) | (simp; omega) | assumption))))) | ((first | refine CondP.split (fun hif => ?_) (fun hif => ?_) | refine Runs.part (fun hif => ?_) (fun hif => ?_)) <;> ((try simp only [hif]); (try simp only [decide_eq_true_eq, decide_eq_false_iff_not, Bool.not_eq_true, Bool.not_eq_false, Bool.not_eq_true', Bool.not_eq_false', beq_iff_eq, bne_iff_ne, bne_eq_false_iff_eq, beq_eq_false_iff_ne, ne_eq, Bool.and_eq_true, Bool.or_eq_true, Bool.or_eq_false_iff] at hif); (try (have h9 : _ = true := hif; simp only [h9])); (try (have h9 : _ = false := hif; simp only [h9])); (try simp (maxSteps := 9999999) (disch := omega) only [go_sem, hr, hr3, g1, g2, g3, g4]); (try (refine And.intro ?_ ?_; (focus (first | omega | (simp only [go_sem]; done) | (simp; done) | (simp; omega) | assumption)))); (try (exfalso; omega; done))))))
  (apply AWpA.loopL (fun i : Nat => [(1, .sl 1 off2 m.length 2 none), (5, .sl 2 0 i 2 none), (6, .val (.slice none 0 0)), (7, .sl 3 0 i 2 none), (37, .sl 0 off l.length 2 none), (38, I l.length), (39, I i)]) (fun i => [.cells true (Rs off l), .cells true (Rs off2 m), .cells false (Rs 0 (l.take i)), .cells false (Rs 0 (l.take i).reverse)]) (fun i => l.length - i) (fun i => i ≤ l.length) (0) [0, 1, 2, 3]; rotate_left; (focus (simp (maxSteps := 9999999) (disch := omega) only [go_sem, hr, hr3, rs_nil, List.reverse_nil]; (try (repeat' (first | done | trivial | rfl | exact leAs_rfl _ | decide | (refine And.intro ?_ ?_) | (simp; done) | omega | (simp; decide)))))); rotate_right)
  · exact Nat.zero_le _
  · rintro i hi
    (try simp only at hi)
    have hr2 := rs_ren 0 (l.take i)
    have hr4 := rs_ren 0 (l.take i).reverse
    by_cases hin : i < l.length
    · have k1 : ((i : Int) < (l.length : Int)) = True := eq_true (by omega)
      have hat := rs_at off l i hin
      have hp := rs_put l i hin
      have hfu := rs_full l i hi
      have hl2 := rs_len 0 (l.take i)
      rw [List.length_take, Nat.min_eq_left hi] at hl2
      have hl4 := rs_len 0 (l.take i).reverse
      rw [List.length_reverse, List.length_take, Nat.min_eq_left hi] at hl4
      have hfr := rs_all (l.take i).reverse (i * 2) (by rw [List.length_reverse, List.length_take, Nat.min_eq_left hi])
      have hrv : Rs 0 (l.take (i + 1)).reverse = I l[i].c :: I l[i].s :: Rs 0 (l.take i).reverse := by
        rw [List.take_add_one, List.getElem?_eq_getElem hin, Option.toList, List.reverse_append, List.reverse_singleton, List.singleton_append, rs_cons]
      have hna : noAny (Rs 0 (l.take i).reverse) := noAny_rows (fun x => by simp [noAny]) _
      generalize l[i] = e at *
      have o1 := of04_any e
      by_cases h0 : i = 0
      · have q1 : (1 + i ≤ 1) = True := eq_true (by omega)
        (try simp (maxSteps := 9999999) (disch := omega) only [go_sem])
        (repeat' (first | refine AWpA.seq ?_ | refine AWpA.block ?_ | (with_reducible refine CondP.tt ?_) | (with_reducible refine CondP.ff ?_) | refine AWpA.condv (by simp (maxSteps := 9999999) (disch := omega) only [go_sem, hr, hr2, hr3, hr4, hlen, hat, k1, q1, hfr, hl4, hl2, hna]; rfl) ?_ | ((first | (apply AWpA.region; (focus (simp (maxSteps := 9999999) (disch := omega) only [go_sem, hr, hr2, hr3, hr4, hlen, hat, k1, q1, hfr, hl4, hl2, hna]; rfl))) | (apply AWpA.draw [] [] follows; (focus (first | rfl | decide)); (focus (simp (maxSteps := 9999999) (disch := omega) only [go_sem, hr, hr2, hr3, hr4, hlen, hat, k1, q1, hfr, hl4, hl2, hna]; rfl)); (focus (simp (maxSteps := 9999999) (disch := omega) only [go_sem, hr, hr2, hr3, hr4, hlen, hat, k1, q1, hfr, hl4, hl2, hna]; first | done | trivial)); (focus (simp (maxSteps := 9999999) (disch := omega) only [go_sem, hr, hr2, hr3, hr4, hlen, hat, k1, q1, hfr, hl4, hl2, hna]; rfl))) | (apply TailK.go; (focus (simp (maxSteps := 9999999) (disch := omega) only [go_sem, hr, hr2, hr3, hr4, hlen, hat, k1, q1, hfr, hl4, hl2, hna]; rfl))) | refine AWpA.skip ?_ | refine AWpA.exit ?_ | refine AWpA.ret ?_ | (with_reducible refine ARoundsA.succ ?_) | ((first | refine Runs.kt (by assumption) (fun h9 => ?_) | refine Runs.kf (by assumption) (fun h9 => ?_) | refine Runs.nt (by assumption) (fun h9 => ?_) | refine Runs.nf (by assumption) (fun h9 => ?_) | refine CondP.ht (by assumption) (fun h9 => ?_) | refine CondP.hf (by assumption) (fun h9 => ?_) | refine CondP.nt (by assumption) (fun h9 => ?_) | refine CondP.nf (by assumption) (fun h9 => ?_)); (try simp only [h9]); clear h9) | ((first | (with_reducible apply CallG.plain1 [] (o1)) | (with_reducible apply CallG.draw1 [] (o1))); (focus ((try refine And.intro (leAs_of_eq rfl) ?_); (try refine And.intro (leOL_of_eq rfl) ?_); simp (maxSteps := 9999999) (disch := omega) only [go_sem, hr, hr2, hr3, hr4, hlen, hat, k1, q1, hfr, hl4, hl2, hna]; first | done | (repeat' (first | rfl | (refine And.intro ?_ ?_))))); (focus (simp (maxSteps := 9999999) (disch := omega) only [go_sem, hr, hr2, hr3, hr4, hlen, hat, k1, q1, hfr, hl4, hl2, hna]; rfl)))); (try simp (maxSteps := 9999999) (disch := omega) only [go_sem, hr, hr2, hr3, hr4, hlen, hat, k1, q1, hfr, hl4, hl2, hna]); (try (refine And.intro ?_ ?_; (focus (first | omega | (simp only [go_sem]; done) | (simp; done) | (simp; omega) | assumption))))) | ((first | refine CondP.split (fun hif => ?_) (fun hif => ?_) | refine Runs.part (fun hif => ?_) (fun hif => ?_)) <;> ((try simp only [hif]); (try simp only [decide_eq_true_eq, decide_eq_false_iff_not, Bool.not_eq_true, Bool.not_eq_false, Bool.not_eq_true', Bool.not_eq_false', beq_iff_eq, bne_iff_ne, bne_eq_false_iff_eq, beq_eq_false_iff_ne, ne_eq, Bool.and_eq_true, Bool.or_eq_true, Bool.or_eq_false_iff] at hif); (try (have h9 : _ = true := hif; simp only [h9])); (try (have h9 : _ = false := hif; simp only [h9])); (try simp (maxSteps := 9999999) (disch := omega) only [go_sem, hr, hr2, hr3, hr4, hlen, hat, k1, q1, hfr, hl4, hl2, hna]); (try (refine And.intro ?_ ?_; (focus (first | omega | (simp only [go_sem]; done) | (simp; done) | (simp; omega) | assumption)))); (try (exfalso; omega; done))))))
        have hd : ∀ a b : AV, List.drop ((i + 1) * 2) [a, b] = [] := by subst h0; intro a b; rfl
        have hc1 : 1 + i = i + 1 := by omega
        (apply Back.to (i + 1) [0, 1, 148, 212]; (focus ((try simp (maxSteps := 9999999) (disch := omega) only [go_sem, hfu, hp, hr, hr3, rs_ren, hd, hrv, hc1]); first | done | omega)); rotate_left; (focus (simp (maxSteps := 9999999) (disch := omega) only [go_sem, hfu, hp, hr, hr3, rs_ren, hd, hrv, hc1]; (try (repeat' (first | done | trivial | rfl | exact leAs_rfl _ | decide | (refine And.intro ?_ ?_) | (simp; done) | omega | (simp; decide)))))))
        omega
      · have q1 : (1 + i ≤ 1) = False := eq_false (by omega)
        (try simp (maxSteps := 9999999) (disch := omega) only [go_sem])
        (repeat' (first | refine AWpA.seq ?_ | refine AWpA.block ?_ | (with_reducible refine CondP.tt ?_) | (with_reducible refine CondP.ff ?_) | refine AWpA.condv (by simp (maxSteps := 9999999) (disch := omega) only [go_sem, hr, hr2, hr3, hr4, hlen, hat, k1, q1, hfr, hl4, hl2, hna]; rfl) ?_ | ((first | (apply AWpA.region; (focus (simp (maxSteps := 9999999) (disch := omega) only [go_sem, hr, hr2, hr3, hr4, hlen, hat, k1, q1, hfr, hl4, hl2, hna]; rfl))) | (apply AWpA.draw [] [] follows; (focus (first | rfl | decide)); (focus (simp (maxSteps := 9999999) (disch := omega) only [go_sem, hr, hr2, hr3, hr4, hlen, hat, k1, q1, hfr, hl4, hl2, hna]; rfl)); (focus (simp (maxSteps := 9999999) (disch := omega) only [go_sem, hr, hr2, hr3, hr4, hlen, hat, k1, q1, hfr, hl4, hl2, hna]; first | done | trivial)); (focus (simp (maxSteps := 9999999) (disch := omega) only [go_sem, hr, hr2, hr3, hr4, hlen, hat, k1, q1, hfr, hl4, hl2, hna]; rfl))) | (apply TailK.go; (focus (simp (maxSteps := 9999999) (disch := omega) only [go_sem, hr, hr2, hr3, hr4, hlen, hat, k1, q1, hfr, hl4, hl2, hna]; rfl))) | refine AWpA.skip ?_ | refine AWpA.exit ?_ | refine AWpA.ret ?_ | (with_reducible refine ARoundsA.succ ?_) | ((first | refine Runs.kt (by assumption) (fun h9 => ?_) | refine Runs.kf (by assumption) (fun h9 => ?_) | refine Runs.nt (by assumption) (fun h9 => ?_) | refine Runs.nf (by assumption) (fun h9 => ?_) | refine CondP.ht (by assumption) (fun h9 => ?_) | refine CondP.hf (by assumption) (fun h9 => ?_) | refine CondP.nt (by assumption) (fun h9 => ?_) | refine CondP.nf (by assumption) (fun h9 => ?_)); (try simp only [h9]); clear h9) | ((first | (with_reducible apply CallG.plain1 [] (o1)) | (with_reducible apply CallG.draw1 [] (o1))); (focus ((try refine And.intro (leAs_of_eq rfl) ?_); (try refine And.intro (leOL_of_eq rfl) ?_); simp (maxSteps := 9999999) (disch := omega) only [go_sem, hr, hr2, hr3, hr4, hlen, hat, k1, q1, hfr, hl4, hl2, hna]; first | done | (repeat' (first | rfl | (refine And.intro ?_ ?_))))); (focus (simp (maxSteps := 9999999) (disch := omega) only [go_sem, hr, hr2, hr3, hr4, hlen, hat, k1, q1, hfr, hl4, hl2, hna]; rfl)))); (try simp (maxSteps := 9999999) (disch := omega) only [go_sem, hr, hr2, hr3, hr4, hlen, hat, k1, q1, hfr, hl4, hl2, hna]); (try (refine And.intro ?_ ?_; (focus (first | omega | (simp only [go_sem]; done) | (simp; done) | (simp; omega) | assumption))))) | ((first | refine CondP.split (fun hif => ?_) (fun hif => ?_) | refine Runs.part (fun hif => ?_) (fun hif => ?_)) <;> ((try simp only [hif]); (try simp only [decide_eq_true_eq, decide_eq_false_iff_not, Bool.not_eq_true, Bool.not_eq_false, Bool.not_eq_true', Bool.not_eq_false', beq_iff_eq, bne_iff_ne, bne_eq_false_iff_eq, beq_eq_false_iff_ne, ne_eq, Bool.and_eq_true, Bool.or_eq_true, Bool.or_eq_false_iff] at hif); (try (have h9 : _ = true := hif; simp only [h9])); (try (have h9 : _ = false := hif; simp only [h9])); (try simp (maxSteps := 9999999) (disch := omega) only [go_sem, hr, hr2, hr3, hr4, hlen, hat, k1, q1, hfr, hl4, hl2, hna]); (try (refine And.intro ?_ ?_; (focus (first | omega | (simp only [go_sem]; done) | (simp; done) | (simp; omega) | assumption)))); (try (exfalso; omega; done))))))
        have hc1 : 1 + i = i + 1 := by omega
        (apply Back.to (i + 1) [0, 1, 148, 244]; (focus ((try simp (maxSteps := 9999999) (disch := omega) only [go_sem, hfu, hp, hr, hr3, rs_ren, hrv, hc1]); first | done | omega)); rotate_left; (focus (simp (maxSteps := 9999999) (disch := omega) only [go_sem, hfu, hp, hr, hr3, rs_ren, hrv, hc1]; (try (repeat' (first | done | trivial | rfl | exact leAs_rfl _ | decide | (refine And.intro ?_ ?_) | (simp; done) | omega | (simp; decide)))))))
        omega
    obtain rfl : i = l.length := by omega
    have k1 : ((l.length : Int) < (l.length : Int)) = False := eq_false (by omega)
    rw [List.take_length]
    refine AWpA.dummy ?_
    (try simp (maxSteps := 9999999) (disch := omega) only [go_sem])
    (repeat' (first | refine AWpA.seq ?_ | refine AWpA.block ?_ | (with_reducible refine CondP.tt ?_) | (with_reducible refine CondP.ff ?_) | refine AWpA.condv (by simp (maxSteps := 9999999) (disch := omega) only [go_sem, hr, hr3, k1]; rfl) ?_ | ((first | (apply AWpA.region; (focus (simp (maxSteps := 9999999) (disch := omega) only [go_sem, hr, hr3, k1]; rfl))) | (apply AWpA.draw [] [] follows; (focus (first | rfl | decide)); (focus (simp (maxSteps := 9999999) (disch := omega) only [go_sem, hr, hr3, k1]; rfl)); (focus (simp (maxSteps := 9999999) (disch := omega) only [go_sem, hr, hr3, k1]; first | done | trivial)); (focus (simp (maxSteps := 9999999) (disch := omega) only [go_sem, hr, hr3, k1]; rfl))) | (apply TailK.go; (focus (simp (maxSteps := 9999999) (disch := omega) only [go_sem, hr, hr3, k1]; rfl))) | refine AWpA.skip ?_ | refine AWpA.exit ?_ | refine AWpA.ret ?_ | (with_reducible refine ARoundsA.succ ?_) | ((first | refine Runs.kt (by assumption) (fun h9 => ?_) | refine Runs.kf (by assumption) (fun h9 => ?_) | refine Runs.nt (by assumption) (fun h9 => ?_) | refine Runs.nf (by assumption) (fun h9 => ?_) | refine CondP.ht (by assumption) (fun h9 => ?_) | refine CondP.hf (by assumption) (fun h9 => ?_) | refine CondP.nt (by assumption) (fun h9 => ?_) | refine CondP.nf (by assumption) (fun h9 => ?_)); (try simp only [h9]); clear h9)); (try simp (maxSteps := 9999999) (disch := omega) only [go_sem, hr, hr3, k1]); (try (refine And.intro ?_ ?_; (focus (first | omega | (simp only [go_sem]; done) | (simp; done) | (simp; omega) | assumption))))) | ((first | refine CondP.split (fun hif => ?_) (fun hif => ?_) | refine Runs.part (fun hif => ?_) (fun hif => ?_)) <;> ((try simp only [hif]); (try simp only [decide_eq_true_eq, decide_eq_false_iff_not, Bool.not_eq_true, Bool.not_eq_false, Bool.not_eq_true', Bool.not_eq_false', beq_iff_eq, bne_iff_ne, bne_eq_false_iff_eq, beq_eq_false_iff_ne, ne_eq, Bool.and_eq_true, Bool.or_eq_true, Bool.or_eq_false_iff] at hif); (try (have h9 : _ = true := hif; simp only [h9])); (try (have h9 : _ = false := hif; simp only [h9])); (try simp (maxSteps := 9999999) (disch := omega) only [go_sem, hr, hr3, k1]); (try (refine And.intro ?_ ?_; (focus (first | omega | (simp only [go_sem]; done) | (simp; done) | (simp; omega) | assumption)))); (try (exfalso; omega; done))))))
    clear k1 hi hin
    (apply AWpA.loopL (fun i : Nat => [(5, .sl 1 0 l.length 2 none), (6, .sl 3 0 i 2 none), (7, .sl 2 0 l.length 2 none), (54, .sl 0 off2 m.length 2 none), (55, I m.length), (56, I i)]) (fun i => [.cells true (Rs off2 m), .cells false (Rs 0 l), .cells false (Rs 0 l.reverse), .cells false (Rs 0 (m.take i))]) (fun i => m.length - i) (fun i => i ≤ m.length) (0) [1, 2, 3, 4]; rotate_left; (focus (simp (maxSteps := 9999999) (disch := omega) only [go_sem, hr, hr3, rs_ren, rs_nil]; (try (repeat' (first | done | trivial | rfl | exact leAs_rfl _ | decide | (refine And.intro ?_ ?_) | (simp; done) | omega | (simp; decide)))))); rotate_right)
    · exact Nat.zero_le _
    rintro i hi
    (try simp only at hi)
    have hr2 := rs_ren 0 (m.take i)
    by_cases hin : i < m.length
    · have k1 : ((i : Int) < (m.length : Int)) = True := eq_true (by omega)
      have hat := rs_at off2 m i hin
      have hp := rs_put m i hin
      have hfu := rs_full m i hi
      have hl2 := rs_len 0 (m.take i)
      rw [List.length_take, Nat.min_eq_left hi] at hl2
      generalize m[i] = e at *
      have o1 := of04_any e
      (try simp (maxSteps := 9999999) (disch := omega) only [go_sem])
      (repeat' (first | refine AWpA.seq ?_ | refine AWpA.block ?_ | (with_reducible refine CondP.tt ?_) | (with_reducible refine CondP.ff ?_) | refine AWpA.condv (by simp (maxSteps := 9999999) (disch := omega) only [go_sem, hr, hr2, hr3, hlen3, hat, k1, hl2]; rfl) ?_ | ((first | (apply AWpA.region; (focus (simp (maxSteps := 9999999) (disch := omega) only [go_sem, hr, hr2, hr3, hlen3, hat, k1, hl2]; rfl))) | (apply AWpA.draw [] [] follows; (focus (first | rfl | decide)); (focus (simp (maxSteps := 9999999) (disch := omega) only [go_sem, hr, hr2, hr3, hlen3, hat, k1, hl2]; rfl)); (focus (simp (maxSteps := 9999999) (disch := omega) only [go_sem, hr, hr2, hr3, hlen3, hat, k1, hl2]; first | done | trivial)); (focus (simp (maxSteps := 9999999) (disch := omega) only [go_sem, hr, hr2, hr3, hlen3, hat, k1, hl2]; rfl))) | (apply TailK.go; (focus (simp (maxSteps := 9999999) (disch := omega) only [go_sem, hr, hr2, hr3, hlen3, hat, k1, hl2]; rfl))) | refine AWpA.skip ?_ | refine AWpA.exit ?_ | refine AWpA.ret ?_ | (with_reducible refine ARoundsA.succ ?_) | ((first | refine Runs.kt (by assumption) (fun h9 => ?_) | refine Runs.kf (by assumption) (fun h9 => ?_) | refine Runs.nt (by assumption) (fun h9 => ?_) | refine Runs.nf (by assumption) (fun h9 => ?_) | refine CondP.ht (by assumption) (fun h9 => ?_) | refine CondP.hf (by assumption) (fun h9 => ?_) | refine CondP.nt (by assumption) (fun h9 => ?_) | refine CondP.nf (by assumption) (fun h9 => ?_)); (try simp only [h9]); clear h9) | ((first | (with_reducible apply CallG.plain1 [] (o1)) | (with_reducible apply CallG.draw1 [] (o1))); (focus ((try refine And.intro (leAs_of_eq rfl) ?_); (try refine And.intro (leOL_of_eq rfl) ?_); simp (maxSteps := 9999999) (disch := omega) only [go_sem, hr, hr2, hr3, hlen3, hat, k1, hl2]; first | done | (repeat' (first | rfl | (refine And.intro ?_ ?_))))); (focus (simp (maxSteps := 9999999) (disch := omega) only [go_sem, hr, hr2, hr3, hlen3, hat, k1, hl2]; rfl)))); (try simp (maxSteps := 9999999) (disch := omega) only [go_sem, hr, hr2, hr3, hlen3, hat, k1, hl2]); (try (refine And.intro ?_ ?_; (focus (first | omega | (simp only [go_sem]; done) | (simp; done) | (simp; omega) | assumption))))) | ((first | refine CondP.split (fun hif => ?_) (fun hif => ?_) | refine Runs.part (fun hif => ?_) (fun hif => ?_)) <;> ((try simp only [hif]); (try simp only [decide_eq_true_eq, decide_eq_false_iff_not, Bool.not_eq_true, Bool.not_eq_false, Bool.not_eq_true', Bool.not_eq_false', beq_iff_eq, bne_iff_ne, bne_eq_false_iff_eq, beq_eq_false_iff_ne, ne_eq, Bool.and_eq_true, Bool.or_eq_true, Bool.or_eq_false_iff] at hif); (try (have h9 : _ = true := hif; simp only [h9])); (try (have h9 : _ = false := hif; simp only [h9])); (try simp (maxSteps := 9999999) (disch := omega) only [go_sem, hr, hr2, hr3, hlen3, hat, k1, hl2]); (try (refine And.intro ?_ ?_; (focus (first | omega | (simp only [go_sem]; done) | (simp; done) | (simp; omega) | assumption)))); (try (exfalso; omega; done))))))
      (apply Back.to (i + 1) [0, 1, 2, 148]; (focus ((try simp (maxSteps := 9999999) (disch := omega) only [go_sem, hfu, hp, hr, hr3, rs_ren]); first | done | omega)); rotate_left; (focus (simp (maxSteps := 9999999) (disch := omega) only [go_sem, hfu, hp, hr, hr3, rs_ren]; (try (repeat' (first | done | trivial | rfl | exact leAs_rfl _ | decide | (refine And.intro ?_ ?_) | (simp; done) | omega | (simp; decide)))))))
      omega
    obtain rfl : i = m.length := by omega
    have k1 : ((m.length : Int) < (m.length : Int)) = False := eq_false (by omega)
    rw [List.take_length]
    have hn : l ≠ [] := fun e => h42 (by rw [e]; rfl)
    have hn2 : m ≠ [] := fun e => h43 (by rw [e]; rfl)
    have c1 := latestL_any 0 l hn (by omega)
    have c2 := latestL_any 0 m hn2 (by omega)
    have c3 := latestL_any 0 l.reverse (by simpa using hn) (by rw [List.length_reverse]; omega)
    rw [mxL_rev hn, List.length_reverse] at c3
    have c4 := latestL_any 0 [mxL l, mxL m] (by simp) (by simp)
    rw [mxL_two hn hn2, rs_two] at c4
    simp only [List.length_cons, List.length_nil, Nat.zero_add, Nat.reduceAdd] at c4
    have c5 := latestL_any 0 (m ++ l) (by simp [hn]) (by rw [List.length_append]; omega)
    rw [rs_app, List.length_append] at c5
    have c6 := compare_any (mxL l) (mxL m)
    have c7 := compare_any (mxL m) (mxL l)
    have hneg : IntKind.i64.wrap (0 - cmpS (mxL m) (mxL l)) = cmpS (mxL l) (mxL m) := by
      rw [cmpS_neg (mxL l) (mxL m)]
      have : -1 ≤ cmpS (mxL m) (mxL l) ∧ cmpS (mxL m) (mxL l) ≤ 1 := by unfold cmpS cmpI orI; grind
      rw [IntKind.wrap_i64]
      omega
    have f1 := rs_all m (m.length * 2) rfl
    have f2 := rs_all l (l.length * 2) rfl
    have q1 : (m.length ≤ 0) = False := eq_false (by omega)
    have hla := rs_len 0 l
    have hlb := rs_len 0 m
    have hlc := rs_len 0 l.reverse
    have hna : noAny (Rs 0 m) := noAny_rows (fun x => by simp [noAny]) _
    have hnb : noAny (Rs 0 l) := noAny_rows (fun x => by simp [noAny]) _
    generalize mxL (m ++ l) = Z at *
    generalize cmpS (mxL m) (mxL l) = C1 at *
    generalize cmpS (mxL l) (mxL m) = C2 at *
    generalize mxL l = X at *
    generalize mxL m = Y at *
    (try simp (maxSteps := 9999999) (disch := omega) only [go_sem])
    (repeat' (first | refine AWpA.seq ?_ | refine AWpA.block ?_ | (with_reducible refine CondP.tt ?_) | (with_reducible refine CondP.ff ?_) | refine AWpA.condv (by simp (maxSteps := 9999999) (disch := omega) only [go_sem, k1, rs_ren, f1, f2, q1, hla, hlb, hlc, hna, hnb, hneg, renL_append]; rfl) ?_ | ((first | (apply AWpA.region; (focus (simp (maxSteps := 9999999) (disch := omega) only [go_sem, k1, rs_ren, f1, f2, q1, hla, hlb, hlc, hna, hnb, hneg, renL_append]; rfl))) | (apply AWpA.draw [] [] follows; (focus (first | rfl | decide)); (focus (simp (maxSteps := 9999999) (disch := omega) only [go_sem, k1, rs_ren, f1, f2, q1, hla, hlb, hlc, hna, hnb, hneg, renL_append]; rfl)); (focus (simp (maxSteps := 9999999) (disch := omega) only [go_sem, k1, rs_ren, f1, f2, q1, hla, hlb, hlc, hna, hnb, hneg, renL_append]; first | done | trivial)); (focus (simp (maxSteps := 9999999) (disch := omega) only [go_sem, k1, rs_ren, f1, f2, q1, hla, hlb, hlc, hna, hnb, hneg, renL_append]; rfl))) | (apply TailK.go; (focus (simp (maxSteps := 9999999) (disch := omega) only [go_sem, k1, rs_ren, f1, f2, q1, hla, hlb, hlc, hna, hnb, hneg, renL_append]; rfl))) | refine AWpA.skip ?_ | refine AWpA.exit ?_ | refine AWpA.ret ?_ | (with_reducible refine ARoundsA.succ ?_) | ((first | refine Runs.kt (by assumption) (fun h9 => ?_) | refine Runs.kf (by assumption) (fun h9 => ?_) | refine Runs.nt (by assumption) (fun h9 => ?_) | refine Runs.nf (by assumption) (fun h9 => ?_) | refine CondP.ht (by assumption) (fun h9 => ?_) | refine CondP.hf (by assumption) (fun h9 => ?_) | refine CondP.nt (by assumption) (fun h9 => ?_) | refine CondP.nf (by assumption) (fun h9 => ?_)); (try simp only [h9]); clear h9) | ((first | (with_reducible apply CallG.plain1 [1] (c1)) | (with_reducible apply CallG.draw1 [1] (c1))); (focus ((try refine And.intro (leAs_of_eq rfl) ?_); (try refine And.intro (leOL_of_eq rfl) ?_); simp (maxSteps := 9999999) (disch := omega) only [go_sem, k1, rs_ren, f1, f2, q1, hla, hlb, hlc, hna, hnb, hneg, renL_append]; first | done | (repeat' (first | rfl | (refine And.intro ?_ ?_))))); (focus (simp (maxSteps := 9999999) (disch := omega) only [go_sem, k1, rs_ren, f1, f2, q1, hla, hlb, hlc, hna, hnb, hneg, renL_append]; rfl))) | ((first | (with_reducible apply CallG.plain1 [3] (c2)) | (with_reducible apply CallG.draw1 [3] (c2))); (focus ((try refine And.intro (leAs_of_eq rfl) ?_); (try refine And.intro (leOL_of_eq rfl) ?_); simp (maxSteps := 9999999) (disch := omega) only [go_sem, k1, rs_ren, f1, f2, q1, hla, hlb, hlc, hna, hnb, hneg, renL_append]; first | done | (repeat' (first | rfl | (refine And.intro ?_ ?_))))); (focus (simp (maxSteps := 9999999) (disch := omega) only [go_sem, k1, rs_ren, f1, f2, q1, hla, hlb, hlc, hna, hnb, hneg, renL_append]; rfl))) | ((first | (with_reducible apply CallG.plain1 [2] (c3)) | (with_reducible apply CallG.draw1 [2] (c3))); (focus ((try refine And.intro (leAs_of_eq rfl) ?_); (try refine And.intro (leOL_of_eq rfl) ?_); simp (maxSteps := 9999999) (disch := omega) only [go_sem, k1, rs_ren, f1, f2, q1, hla, hlb, hlc, hna, hnb, hneg, renL_append]; first | done | (repeat' (first | rfl | (refine And.intro ?_ ?_))))); (focus (simp (maxSteps := 9999999) (disch := omega) only [go_sem, k1, rs_ren, f1, f2, q1, hla, hlb, hlc, hna, hnb, hneg, renL_append]; rfl))) | ((first | (with_reducible apply CallG.plain1 [_] (c4)) | (with_reducible apply CallG.draw1 [_] (c4))); (focus ((try refine And.intro (leAs_of_eq rfl) ?_); (try refine And.intro (leOL_of_eq rfl) ?_); simp (maxSteps := 9999999) (disch := omega) only [go_sem, k1, rs_ren, f1, f2, q1, hla, hlb, hlc, hna, hnb, hneg, renL_append]; first | done | (repeat' (first | rfl | (refine And.intro ?_ ?_))))); (focus (simp (maxSteps := 9999999) (disch := omega) only [go_sem, k1, rs_ren, f1, f2, q1, hla, hlb, hlc, hna, hnb, hneg, renL_append]; rfl))) | ((first | (with_reducible apply CallG.plain1 [356] (c5)) | (with_reducible apply CallG.draw1 [356] (c5))); (focus ((try refine And.intro (leAs_of_eq rfl) ?_); (try refine And.intro (leOL_of_eq rfl) ?_); simp (maxSteps := 9999999) (disch := omega) only [go_sem, k1, rs_ren, f1, f2, q1, hla, hlb, hlc, hna, hnb, hneg, renL_append]; first | done | (repeat' (first | rfl | (refine And.intro ?_ ?_))))); (focus (simp (maxSteps := 9999999) (disch := omega) only [go_sem, k1, rs_ren, f1, f2, q1, hla, hlb, hlc, hna, hnb, hneg, renL_append]; rfl))) | ((first | (with_reducible apply CallG.plain1 [] (c6)) | (with_reducible apply CallG.draw1 [] (c6))); (focus ((try refine And.intro (leAs_of_eq rfl) ?_); (try refine And.intro (leOL_of_eq rfl) ?_); simp (maxSteps := 9999999) (disch := omega) only [go_sem, k1, rs_ren, f1, f2, q1, hla, hlb, hlc, hna, hnb, hneg, renL_append]; first | done | (repeat' (first | rfl | (refine And.intro ?_ ?_))))); (focus (simp (maxSteps := 9999999) (disch := omega) only [go_sem, k1, rs_ren, f1, f2, q1, hla, hlb, hlc, hna, hnb, hneg, renL_append]; rfl))) | ((first | (with_reducible apply CallG.plain1 [] (c7)) | (with_reducible apply CallG.draw1 [] (c7))); (focus ((try refine And.intro (leAs_of_eq rfl) ?_); (try refine And.intro (leOL_of_eq rfl) ?_); simp (maxSteps := 9999999) (disch := omega) only [go_sem, k1, rs_ren, f1, f2, q1, hla, hlb, hlc, hna, hnb, hneg, renL_append]; first | done | (repeat' (first | rfl | (refine And.intro ?_ ?_))))); (focus (simp (maxSteps := 9999999) (disch := omega) only [go_sem, k1, rs_ren, f1, f2, q1, hla, hlb, hlc, hna, hnb, hneg, renL_append]; rfl)))); (try simp (maxSteps := 9999999) (disch := omega) only [go_sem, k1, rs_ren, f1, f2, q1, hla, hlb, hlc, hna, hnb, hneg, renL_append]); (try (refine And.intro ?_ ?_; (focus (first | omega | (simp only [go_sem]; done) | (simp; done) | (simp; omega) | assumption))))) | ((first | refine CondP.split (fun hif => ?_) (fun hif => ?_) | refine Runs.part (fun hif => ?_) (fun hif => ?_)) <;> ((try simp only [hif]); (try simp only [decide_eq_true_eq, decide_eq_false_iff_not, Bool.not_eq_true, Bool.not_eq_false, Bool.not_eq_true', Bool.not_eq_false', beq_iff_eq, bne_iff_ne, bne_eq_false_iff_eq, beq_eq_false_iff_ne, ne_eq, Bool.and_eq_true, Bool.or_eq_true, Bool.or_eq_false_iff] at hif); (try (have h9 : _ = true := hif; simp only [h9])); (try (have h9 : _ = false := hif; simp only [h9])); (try simp (maxSteps := 9999999) (disch := omega) only [go_sem, k1, rs_ren, f1, f2, q1, hla, hlb, hlc, hna, hnb, hneg, renL_append]); (try (refine And.intro ?_ ?_; (focus (first | omega | (simp only [go_sem]; done) | (simp; done) | (simp; omega) | assumption)))); (try (exfalso; omega; done))))))
    all_goals (refine TopPost.of (by first | exact .inl rfl | exact .inr rfl) (by (try simp (maxSteps := 9999999) (disch := omega) only [go_sem]); rfl) ?_; (try simp (maxSteps := 9999999) (disch := omega) only [go_sem]); (try (first | trivial | decide | (simp; done))))
end Go.Proofs.Ytjcjmeeajkdlhaa
