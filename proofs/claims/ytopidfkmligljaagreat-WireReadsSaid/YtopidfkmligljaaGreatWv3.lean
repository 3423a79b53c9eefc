/- The walk of WireReads. -/
import Derived.Test.YtopidfkmligljaaGreatWu1
import Derived.Test.YtopidfkmligljaaGreatWu2
import Derived.Test.YtopidfkmligljaaGreatWu3
import Derived.Test.YtopidfkmligljaaGreatWs3
import Derived.Test.YtopidfkmligljaaGreatAb
import Derived.Test.YtopidfkmligljaaGreatWt5
/- The walk of WireKept. -/
namespace Go.Proofs.YtopidfkmligljaaGreat
noncomputable section
set_option linter.unusedSimpArgs false
set_option linter.unusedVariables false
set_option maxHeartbeats 4000000
open Go Go.Am Go.RowKit Go.ChangeShapes Go.WideShapes Go.ChangeAt
set_option maxRecDepth 100000
set_option maxHeartbeats 8000000
/- quidnunc/quidnunclaw16.WireKept -/
theorem fin_len {L : List Int} {k : Int} (hb : bytesB L) : (finW L k).peers.length ≤ 255 ∧ (finW L k).marks.length ≤ 255 ∧ (finW L k).ents.length ≤ 255 := by
  unfold finW
  split
  · exact st_len hb 9 (Nat.le_refl _)
  · exact ⟨Nat.zero_le _, Nat.zero_le _, Nat.zero_le _⟩
end
end Go.Proofs.YtopidfkmligljaaGreat
namespace Go.Proofs.YtopidfkmligljaaGreat
noncomputable section
set_option linter.unusedSimpArgs false
set_option linter.unusedVariables false
set_option maxHeartbeats 4000000
open Go Go.Am Go.RowKit Go.ChangeShapes Go.WideShapes Go.ChangeAt
set_option maxRecDepth 100000
set_option maxHeartbeats 8000000
/- quidnunc/quidnunclaw16.WireReads -/
def c3_1 : ACode := .region false [⟨some 4, .move, [.c (.val (.bool false))], none⟩] [] [] [0, 1] false [] []
def c3_4 : ACode := .region false [⟨some 11, .call 7, [], none⟩,
  ⟨some 12, .un .not, [.t 11], none⟩,
  ⟨some 13, .move, [.t 12], none⟩,
  ⟨some 14, .move, [.t 1], some (some 13, false)⟩,
  ⟨some 15, .len, [.t 14], some (some 13, false)⟩,
  ⟨some 16, .bin .gtr, [.t 15, .c (.val (.int .i64 700))], some (some 13, false)⟩,
  ⟨some 17, .pick, [.t 13, .c (.val (.bool true)), .t 16], none⟩] [] [] [0, 1, 17] true [] []
def c3_7 : ACode := .region false [⟨some 18, .call 7, [], none⟩,
  ⟨some 4, .move, [.t 18], none⟩] [] [] [4] true [] []
def c3_6 : ACode := .seq c3_7 .ret
def c3_5 : ACode := .cond (.t 17) c3_6 .skip
def c3_3 : ACode := .seq c3_4 c3_5
def c3_9 : ACode := .region false [⟨some 20, .move, [.t 0], none⟩,
  ⟨some 21, .move, [.t 1], none⟩,
  ⟨some 22, .call 8, [.t 20, .t 21], none⟩,
  ⟨some 19, .move, [.t 22], none⟩,
  ⟨some 23, .ext 0, [.t 19], none⟩,
  ⟨some 24, .ext 1, [.t 19], none⟩,
  ⟨some 5, .alloc [(.int .i64 0), (.int .i64 0), (.int .i64 0), (.bool false), (.slice none 0 0), (.int .i64 0), (.int .u64 0), (.int .i64 0), (.int .i64 0), (.string ⟨#[]⟩), (.slice none 0 0), (.slice none 0 0)], [], none⟩,
  ⟨none, .store 12, [.t 5, .t 23], none⟩,
  ⟨some 6, .move, [.t 24], none⟩] [] [] [0, 1, 5, 6] true [] []
def c3_11 : ACode := .region false [⟨some 26, .move, [.t 0], none⟩,
  ⟨some 27, .move, [.t 1], none⟩,
  ⟨some 28, .call 9, [.t 26, .t 27], none⟩,
  ⟨some 25, .move, [.t 28], none⟩,
  ⟨some 29, .ext 0, [.t 25], none⟩,
  ⟨some 30, .ext 1, [.t 25], none⟩,
  ⟨some 7, .alloc [(.int .i64 0), (.int .i64 0), (.int .i64 0), (.bool false), (.slice none 0 0), (.int .i64 0), (.int .u64 0), (.int .i64 0), (.int .i64 0), (.string ⟨#[]⟩), (.slice none 0 0), (.slice none 0 0)], [], none⟩,
  ⟨none, .store 12, [.t 7, .t 29], none⟩,
  ⟨some 8, .move, [.t 30], none⟩] [] [] [1, 5, 6, 7, 8] true [] []
def c3_14 : ACode := .region true [⟨some 31, .move, [.t 6], none⟩,
  ⟨some 32, .move, [.t 8], none⟩,
  ⟨some 33, .bin .neq, [.t 31, .t 32], none⟩,
  ⟨some 34, .move, [.t 33], none⟩,
  ⟨some 35, .load true 12, [.t 5], some (some 34, false)⟩,
  ⟨some 36, .call 11, [.t 35], some (some 34, false)⟩,
  ⟨some 37, .load true 12, [.t 7], some (some 34, false)⟩,
  ⟨some 38, .call 10, [.t 36, .t 37], some (some 34, false)⟩,
  ⟨some 39, .un .not, [.t 38], some (some 34, false)⟩,
  ⟨some 40, .pick, [.t 34, .c (.val (.bool true)), .t 39], none⟩] [] [] [1, 5, 8, 40] true [] []
def c3_17 : ACode := .region false [⟨some 4, .move, [.c (.val (.bool false))], none⟩] [] [] [4] false [] []
def c3_16 : ACode := .seq c3_17 .ret
def c3_15 : ACode := .cond (.t 40) c3_16 .skip
def c3_13 : ACode := .seq c3_14 c3_15
def c3_20 : ACode := .region false [⟨some 41, .move, [.t 8], none⟩,
  ⟨some 42, .bin .neq, [.t 41, .c (.val (.int .i64 0))], none⟩] [] [] [1, 5, 42] false [] []
def c3_23 : ACode := .region false [⟨some 4, .move, [.c (.val (.bool true))], none⟩] [] [] [4] false [] []
def c3_22 : ACode := .seq c3_23 .ret
def c3_21 : ACode := .cond (.t 42) c3_22 .skip
def c3_19 : ACode := .seq c3_20 c3_21
def c3_25 : ACode := .region false [⟨some 44, .load true 12, [.t 5], none⟩,
  ⟨some 45, .call 12, [.t 44], none⟩,
  ⟨some 43, .move, [.t 45], none⟩,
  ⟨some 46, .ext 0, [.t 43], none⟩,
  ⟨some 47, .ext 1, [.t 43], none⟩,
  ⟨some 9, .move, [.t 46], none⟩,
  ⟨some 10, .move, [.t 47], none⟩] [] [] [1, 9, 10] true [] []
def c3_27 : ACode := .region false [⟨some 48, .move, [.t 10], none⟩,
  ⟨some 49, .bin .eql, [.t 48, .c (.val (.int .i64 0))], none⟩,
  ⟨some 50, .move, [.t 49], none⟩,
  ⟨some 51, .move, [.t 9], some (some 50, true)⟩,
  ⟨some 52, .toStr, [.t 51], some (some 50, true)⟩,
  ⟨some 53, .move, [.t 1], some (some 50, true)⟩,
  ⟨some 54, .toStr, [.t 53], some (some 50, true)⟩,
  ⟨some 55, .bin .eql, [.t 52, .t 54], some (some 50, true)⟩,
  ⟨some 56, .pick, [.t 50, .t 55, .c (.val (.bool false))], none⟩,
  ⟨some 4, .move, [.t 56], none⟩] [] [] [4] false [] []
def c3_26 : ACode := .seq c3_27 .ret
def c3_24 : ACode := .seq c3_25 c3_26
def c3_18 : ACode := .seq c3_19 c3_24
def c3_12 : ACode := .seq c3_13 c3_18
def c3_10 : ACode := .seq c3_11 c3_12
def c3_8 : ACode := .seq c3_9 c3_10
def c3_2 : ACode := .seq c3_3 c3_8
def c3_0 : ACode := .seq c3_1 c3_2
def code3 : Code := (Tryz.f3.body).getD .skip
theorem c3_ok : compC Tryz.prog 57 code3 = some (strip c3_0) := by kernel_rfl
theorem res3_ok : Tryz.f3.results.toList.mapM (resC Tryz.prog) = some [(4, none)] := by kernel_rfl
theorem st_sum {L : List Int} {k : Int} (hb : bytesB L) : ∀ i, i ≤ 9 → sumR (stP L k i).2
  | 0, _ => ⟨Int.le_refl 0, by show (0 : Int) < 18446744073709551616; decide⟩
  | i + 1, h => by
    have ih := st_sum (k := k) hb i (by omega)
    cases hh : hasF k i with
    | false => rw [stP_no hh]; exact ih
    | true =>
      rw [stP_yes hh]
      have hv := numV_lt hb 8 (stP L k i).1
      simp only [show (8 : Int).toNat = 8 from rfl, Int.reducePow] at hv
      generalize stP L k i = p at *
      match i, h with
      | 0, _ | 1, _ | 2, _ | 3, _ | 4, _ | 6, _ | 7, _ | 8, _ => exact ih
      | 5, _ => exact hv
theorem fin_sum {L : List Int} {k : Int} (hb : bytesB L) : sumR (finW L k) := by
  unfold finW
  split
  · exact st_sum hb 9 (Nat.le_refl _)
  · exact ⟨by decide, by decide⟩
theorem wreads_walk (W : World) (k : Int) (b : Sl Int) (hb0 : b.ok W 1 (fun n : Int => [.int .u8 n]) (fun n : Int => IntKind.u8.min ≤ n ∧ n ≤ IntKind.u8.max)) :
    Calls Tryz.prog 3 #[.int .i64 k, .slice b.ad b.l.length b.cap] W fun e W' => e = .returned (.bool true) ∧ Below W.heap.size W W' := by
  obtain ⟨ad, off, cap, L⟩ := b
  have hz := hb0.fz
  have hb : bytesB L := hb0.all
  simp only at hz hb
  have sp := speaks16
  by_cases h700 : 700 < L.length
  · have h1 : ((700 : Int) < (L.length : Int)) = True := eq_true (by omega)
    refine top_call c3_ok Tryz.func3 rfl Tryz.ntmps3 res3_ok [ .val (.int .i64 k), .val (.slice ad L.length cap)] (by simp) (by (repeat' (first | exact VRs_nil' _ | exact VR_val' _ _ | (refine VRs_cons' ?_ ?_) | (refine VR_agg' (by first | rfl | assumption) ?_; first | assumption | simp [Value.oneCell'])))) ?_; try simp (maxSteps := 9999999) (disch := omega) only [go_sem]
    (have k9 := And.intro @h1 (k0); (repeat' (first | refine AWpA.seq ?_ | refine AWpA.block ?_ | (with_reducible refine CondP.tt ?_) | (with_reducible refine CondP.ff ?_) | refine AWpA.cg ?_ | ((first | refine AWpA.rg ?_ | refine AWpA.dg [] [] follows ?_ | refine TailK.tg ?_ | refine AWpA.skip ?_ | refine AWpA.exit ?_ | refine AWpA.ret ?_ | (with_reducible refine ARoundsA.succ ?_) | ((first | refine Runs.gkt (fun h9 => ?_) | refine Runs.gkf (fun h9 => ?_) | refine Runs.gnt (fun h9 => ?_) | refine Runs.gnf (fun h9 => ?_) | refine CondP.gt (fun h9 => ?_) | refine CondP.gf (fun h9 => ?_) | refine CondP.gnt (fun h9 => ?_) | refine CondP.gnf (fun h9 => ?_)); (try simp only [h9]); clear h9) | refine CallG.pg [] (sp) ?_ | refine CallG.dg [] (sp) ?_); (try simp (maxSteps := 9999999) (disch := omega) only [go_sem, k9]); (try refine cnd ?_)) | ((first | refine CondP.split (fun hif => ?_) (fun hif => ?_) | refine Runs.part (fun hif => ?_) (fun hif => ?_)) <;> ((try simp only [hif]); (try simp only [BL] at hif); (try (have h9 : _ = true := hif; simp only [h9])); (try (have h9 : _ = false := hif; simp only [h9])); (try simp (maxSteps := 9999999) (disch := omega) only [go_sem, k9]); (try refine cnd ?_); (try (exfalso; omega; done)))))); (all_goals (try clear k9)))
    (refine TopPost.of (by first | exact .inl rfl | exact .inr rfl) (by (try simp (maxSteps := 9999999) (disch := omega) only [go_sem]); rfl) ?_; (try simp (maxSteps := 9999999) (disch := omega) only [go_sem]); (try (first | trivial | decide | (simp; done))))
  have h1 : ((700 : Int) < (L.length : Int)) = False := eq_false (by omega)
  have s := Seg.rows (off := off) (l := L) (by omega)
  have d1 := wdecode_any s hb k
  have d2 := rdecode16_any s hb k
  have hfl := fin_len (k := k) hb
  have t1 := to16_any (finW L k) 0 0 0 (by omega)
  have r1 := rsame16_any (finW L k) (finW L k) 0 0 0 0 0 0 (by omega) (by omega)
  have e1 := wencode_any (finW L k) 0 0 0 (by omega) (fin_sum hb)
  have hbk : finE L k = 0 → goodW (finW L k) = 0 ∧ encW (finW L k) = L := fun h => by
    obtain ⟨h1, h2, -⟩ := fin_back hb h
    exact ⟨h1, by unfold encW; rw [h1]; exact h2⟩
  rw [sameW_self] at r1
  generalize finW L k = y at *
  generalize finE L k = E at *
  have hi := ri_ren
  have hm := rm_ren
  have he := re_ren
  refine top_call c3_ok Tryz.func3 rfl Tryz.ntmps3 res3_ok [ .val (.int .i64 k), .val (.slice ad L.length cap)] (by simp) (by (repeat' (first | exact VRs_nil' _ | exact VR_val' _ _ | (refine VRs_cons' ?_ ?_) | (refine VR_agg' (by first | rfl | assumption) ?_; first | assumption | simp [Value.oneCell'])))) ?_; try simp (maxSteps := 9999999) (disch := omega) only [go_sem]
  refine AWpA.thawT 1 (fun n : Int => [.val (.int .u8 n)]) hz (fun _ => rfl) rfl ?_
  generalize hP : rowsC off (fun n : Int => [.val (.int .u8 n)]) L = P at *
  have hPr := s.ren
  have hPs := s.seg
  have hPl := s.le
  have hbe : ∀ x : ByteArray, (x == x) = true := fun x => by simp [ba_dec]
  have hn : (E != E) = false := by simp [bne]
  clear hb0 hz hP h700 s
  by_cases hE : E = 0
  · obtain ⟨h2, h3⟩ := hbk hE
    rw [h2, h3] at e1
    subst hE
    clear hbk
    (try simp (maxSteps := 9999999) (disch := omega) only [go_sem])
    (have k9 := And.intro @hi (And.intro @hm (And.intro @he (And.intro @hPr (And.intro @hPs (And.intro @hPl (And.intro @h1 (And.intro @hbe (And.intro @bA_ren (k0))))))))); (repeat' (first | refine AWpA.seq ?_ | refine AWpA.block ?_ | (with_reducible refine CondP.tt ?_) | (with_reducible refine CondP.ff ?_) | refine AWpA.cg ?_ | ((first | refine AWpA.rg ?_ | refine AWpA.dg [] [] follows ?_ | refine TailK.tg ?_ | refine AWpA.skip ?_ | refine AWpA.exit ?_ | refine AWpA.ret ?_ | (with_reducible refine ARoundsA.succ ?_) | ((first | refine Runs.gkt (fun h9 => ?_) | refine Runs.gkf (fun h9 => ?_) | refine Runs.gnt (fun h9 => ?_) | refine Runs.gnf (fun h9 => ?_) | refine CondP.gt (fun h9 => ?_) | refine CondP.gf (fun h9 => ?_) | refine CondP.gnt (fun h9 => ?_) | refine CondP.gnf (fun h9 => ?_)); (try simp only [h9]); clear h9) | refine CallG.pg [] (sp) ?_ | refine CallG.pg [0] (d1) ?_ | refine CallG.pg [0] (d2) ?_ | refine CallG.pg [161, 162, 163] (t1) ?_ | refine CallG.pg [161, 497, 498, 305, 306, 307] (r1) ?_ | refine CallG.pg [161, 162, 163] (e1) ?_ | refine CallG.dg [] (sp) ?_ | refine CallG.dg [0] (d1) ?_ | refine CallG.dg [0] (d2) ?_ | refine CallG.dg [161, 162, 163] (t1) ?_ | refine CallG.dg [161, 497, 498, 305, 306, 307] (r1) ?_ | refine CallG.dg [161, 162, 163] (e1) ?_); (try simp (maxSteps := 9999999) (disch := omega) only [go_sem, k9]); (try refine cnd ?_)) | ((first | refine CondP.split (fun hif => ?_) (fun hif => ?_) | refine Runs.part (fun hif => ?_) (fun hif => ?_)) <;> ((try simp only [hif]); (try simp only [BL] at hif); (try (have h9 : _ = true := hif; simp only [h9])); (try (have h9 : _ = false := hif; simp only [h9])); (try simp (maxSteps := 9999999) (disch := omega) only [go_sem, k9]); (try refine cnd ?_); (try (exfalso; omega; done)))))); (all_goals (try clear k9)))
    all_goals (refine TopPost.of (by first | exact .inl rfl | exact .inr rfl) (by (try simp (maxSteps := 9999999) (disch := omega) only [go_sem]); rfl) ?_; (try simp (maxSteps := 9999999) (disch := omega) only [go_sem]); (try (first | trivial | decide | (simp; done))))
  · have g1 : (E == 0) = false := by simpa using hE
    clear hbk e1
    (try simp (maxSteps := 9999999) (disch := omega) only [go_sem])
    (have k9 := And.intro @hi (And.intro @hm (And.intro @he (And.intro @hPr (And.intro @hPs (And.intro @hPl (And.intro @h1 (And.intro @hn (And.intro @g1 (And.intro @bA_ren (k0)))))))))); (repeat' (first | refine AWpA.seq ?_ | refine AWpA.block ?_ | (with_reducible refine CondP.tt ?_) | (with_reducible refine CondP.ff ?_) | refine AWpA.cg ?_ | ((first | refine AWpA.rg ?_ | refine AWpA.dg [] [] follows ?_ | refine TailK.tg ?_ | refine AWpA.skip ?_ | refine AWpA.exit ?_ | refine AWpA.ret ?_ | (with_reducible refine ARoundsA.succ ?_) | ((first | refine Runs.gkt (fun h9 => ?_) | refine Runs.gkf (fun h9 => ?_) | refine Runs.gnt (fun h9 => ?_) | refine Runs.gnf (fun h9 => ?_) | refine CondP.gt (fun h9 => ?_) | refine CondP.gf (fun h9 => ?_) | refine CondP.gnt (fun h9 => ?_) | refine CondP.gnf (fun h9 => ?_)); (try simp only [h9]); clear h9) | refine CallG.pg [] (sp) ?_ | refine CallG.pg [0] (d1) ?_ | refine CallG.pg [0] (d2) ?_ | refine CallG.pg [161, 162, 163] (t1) ?_ | refine CallG.pg [161, 497, 498, 305, 306, 307] (r1) ?_ | refine CallG.dg [] (sp) ?_ | refine CallG.dg [0] (d1) ?_ | refine CallG.dg [0] (d2) ?_ | refine CallG.dg [161, 162, 163] (t1) ?_ | refine CallG.dg [161, 497, 498, 305, 306, 307] (r1) ?_); (try simp (maxSteps := 9999999) (disch := omega) only [go_sem, k9]); (try refine cnd ?_)) | ((first | refine CondP.split (fun hif => ?_) (fun hif => ?_) | refine Runs.part (fun hif => ?_) (fun hif => ?_)) <;> ((try simp only [hif]); (try simp only [BL] at hif); (try (have h9 : _ = true := hif; simp only [h9])); (try (have h9 : _ = false := hif; simp only [h9])); (try simp (maxSteps := 9999999) (disch := omega) only [go_sem, k9]); (try refine cnd ?_); (try (exfalso; omega; done)))))); (all_goals (try clear k9)))
    all_goals (refine TopPost.of (by first | exact .inl rfl | exact .inr rfl) (by (try simp (maxSteps := 9999999) (disch := omega) only [go_sem]); rfl) ?_; (try simp (maxSteps := 9999999) (disch := omega) only [go_sem]); (try (first | trivial | decide | (simp; done))))
end
end Go.Proofs.YtopidfkmligljaaGreat
