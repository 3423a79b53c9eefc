/- The walk of JournalRots. -/
import Derived.Test.YthbpdmlbfnjoiaaJc2
namespace Go.Proofs.Ythbpdmlbfnjoiaa
set_option linter.unusedSimpArgs false
set_option linter.unusedVariables false
set_option maxHeartbeats 4000000
open Go Go.Am Go.RowKit Go.ChangeShapes Go.WideShapes Go.ChangeAt Go.Crc
set_option linter.unusedSimpArgs false
set_option maxHeartbeats 4000000
set_option maxRecDepth 100000
/- quidnunc/quidnunclaw07.JournalRots -/
noncomputable def c11_1 : ACode := .region false [⟨some 6, .move, [.c (.val (.bool false))], none⟩] [] [] [0, 1, 2] false [] []
noncomputable def c11_4 : ACode := .region false [⟨some 16, .call 24, [], none⟩,
  ⟨some 17, .un .not, [.t 16], none⟩,
  ⟨some 18, .move, [.t 17], none⟩,
  ⟨some 19, .move, [.t 0], some (some 18, false)⟩,
  ⟨some 20, .call 31, [.t 19], some (some 18, false)⟩,
  ⟨some 21, .un .not, [.t 20], some (some 18, false)⟩,
  ⟨some 22, .pick, [.t 18, .c (.val (.bool true)), .t 21], none⟩,
  ⟨some 23, .move, [.t 22], none⟩,
  ⟨some 24, .move, [.t 2], some (some 23, false)⟩,
  ⟨some 25, .bin .eql, [.t 24, .c (.val (.int .u8 0))], some (some 23, false)⟩,
  ⟨some 26, .pick, [.t 23, .c (.val (.bool true)), .t 25], none⟩] [] [] [0, 1, 2, 26] true [] []
noncomputable def c11_7 : ACode := .region false [⟨some 27, .call 24, [], none⟩,
  ⟨some 6, .move, [.t 27], none⟩] [] [] [6] true [] []
noncomputable def c11_6 : ACode := .seq c11_7 .ret
noncomputable def c11_5 : ACode := .cond (.t 26) c11_6 .skip
noncomputable def c11_3 : ACode := .seq c11_4 c11_5
noncomputable def c11_9 : ACode := .region false [⟨some 28, .call 32, [], none⟩,
  ⟨some 7, .move, [.t 28], none⟩] [] [] [0, 1, 2, 7] true [] []
noncomputable def c11_11 : ACode := .region false [⟨some 30, .move, [.t 7], none⟩,
  ⟨some 31, .call 35, [.t 30], none⟩,
  ⟨some 29, .move, [.t 31], none⟩,
  ⟨some 32, .ext 0, [.t 29], none⟩,
  ⟨some 33, .ext 1, [.t 29], none⟩,
  ⟨some 34, .ext 2, [.t 29], none⟩,
  ⟨some 8, .move, [.t 32], none⟩,
  ⟨some 9, .move, [.t 33], none⟩,
  ⟨some 10, .move, [.t 34], none⟩] [] [] [0, 1, 2, 7, 8, 10] true [] []
noncomputable def c11_14 : ACode := .region false [⟨some 35, .move, [.t 10], none⟩,
  ⟨some 36, .bin .neq, [.t 35, .c (.val (.int .i64 0))], none⟩,
  ⟨some 37, .move, [.t 36], none⟩,
  ⟨some 38, .move, [.t 8], some (some 37, false)⟩,
  ⟨some 39, .eqP false, [.t 38, .c (.val (.pointer none))], some (some 37, false)⟩,
  ⟨some 40, .pick, [.t 37, .c (.val (.bool true)), .t 39], none⟩] [] [] [0, 1, 2, 7, 8, 40] false [] []
noncomputable def c11_17 : ACode := .region false [⟨some 6, .move, [.c (.val (.bool false))], none⟩] [] [] [6] false [] []
noncomputable def c11_16 : ACode := .seq c11_17 .ret
noncomputable def c11_15 : ACode := .cond (.t 40) c11_16 .skip
noncomputable def c11_13 : ACode := .seq c11_14 c11_15
noncomputable def c11_19 : ACode := .region false [⟨some 11, .move, [.c (.val (.int .i64 0))], none⟩] [] [] [0, 1, 2, 7, 8, 11] false [] []
noncomputable def c11_22 : ACode := .region false [⟨some 41, .move, [.t 0], none⟩,
  ⟨some 42, .len, [.t 41], none⟩,
  ⟨some 43, .move, [.c (.val (.int .i64 0))], none⟩] [] [] [1, 2, 7, 8, 11, 41, 42, 43] false [] []
noncomputable def c11_26 : ACode := .region false [⟨some 44, .bin .lss, [.t 43, .t 42], none⟩] [] [] [1, 2, 7, 8, 11, 41, 42, 43, 44] false [] []
noncomputable def c11_28 : ACode := .cond (.t 44) .skip (.exit 0)
noncomputable def c11_32 : ACode := .region false [⟨some 45, .ixS 1, [.t 41, .t 43], none⟩,
  ⟨some 46, .load false 1, [.t 45], none⟩,
  ⟨some 13, .move, [.t 46], none⟩] [] [] [1, 2, 7, 8, 11, 13, 41, 42, 43] false [] []
noncomputable def c11_34 : ACode := .region false [⟨some 47, .move, [.t 8], none⟩,
  ⟨some 48, .move, [.t 13], none⟩,
  ⟨some 49, .call 40, [.t 47, .t 48], none⟩,
  ⟨some 50, .bin .eql, [.t 49, .c (.val (.int .i64 0))], none⟩] [] [] [1, 2, 7, 8, 11, 41, 42, 43, 50] true [] []
noncomputable def c11_36 : ACode := .region false [⟨some 51, .move, [.t 11], none⟩,
  ⟨some 52, .bin .add, [.t 51, .c (.val (.int .i64 1))], none⟩,
  ⟨some 11, .move, [.t 52], none⟩] [] [] [1, 2, 7, 8, 11, 41, 42, 43] false [] []
noncomputable def c11_35 : ACode := .cond (.t 50) c11_36 .skip
noncomputable def c11_33 : ACode := .seq c11_34 c11_35
noncomputable def c11_31 : ACode := .seq c11_32 c11_33
noncomputable def c11_30 : ACode := .block 1 c11_31
noncomputable def c11_37 : ACode := .region false [⟨some 53, .bin .add, [.t 43, .c (.val (.int .i64 1))], none⟩,
  ⟨some 43, .move, [.t 53], none⟩] [] [] [1, 2, 7, 8, 11, 41, 42, 43] false [] []
noncomputable def c11_29 : ACode := .seq c11_30 c11_37
noncomputable def c11_27 : ACode := .seq c11_28 c11_29
noncomputable def c11_25 : ACode := .seq c11_26 c11_27
noncomputable def c11_24 : ACode := .loop c11_25
noncomputable def c11_23 : ACode := .block 0 c11_24
noncomputable def c11_21 : ACode := .seq c11_22 c11_23
noncomputable def c11_40 : ACode := .region false [⟨some 54, .move, [.t 11], none⟩,
  ⟨some 55, .bin .eql, [.t 54, .c (.val (.int .i64 0))], none⟩,
  ⟨some 56, .move, [.t 55], none⟩,
  ⟨some 57, .move, [.t 7], some (some 56, false)⟩,
  ⟨some 58, .call 37, [.t 57], some (some 56, false)⟩,
  ⟨some 59, .move, [.t 11], some (some 56, false)⟩,
  ⟨some 60, .bin .mul, [.c (.val (.int .i64 11)), .t 59], some (some 56, false)⟩,
  ⟨some 61, .bin .lss, [.t 58, .t 60], some (some 56, false)⟩,
  ⟨some 62, .pick, [.t 56, .c (.val (.bool true)), .t 61], none⟩] [] [] [1, 2, 7, 11, 62] true [] []
noncomputable def c11_43 : ACode := .region false [⟨some 63, .move, [.t 11], none⟩,
  ⟨some 64, .bin .eql, [.t 63, .c (.val (.int .i64 0))], none⟩,
  ⟨some 6, .move, [.t 64], none⟩] [] [] [6] false [] []
noncomputable def c11_42 : ACode := .seq c11_43 .ret
noncomputable def c11_41 : ACode := .cond (.t 62) c11_42 .skip
noncomputable def c11_39 : ACode := .seq c11_40 c11_41
noncomputable def c11_46 : ACode := .region false [⟨some 65, .move, [.t 7], none⟩,
  ⟨some 66, .move, [.t 1], none⟩,
  ⟨some 67, .bin .and, [.t 66, .c (.val (.int .i64 1048575))], none⟩,
  ⟨some 68, .move, [.t 7], none⟩,
  ⟨some 69, .call 37, [.t 68], none⟩,
  ⟨some 70, .bin .rem, [.t 67, .t 69], none⟩,
  ⟨some 71, .move, [.t 2], none⟩,
  ⟨some 72, .call 42, [.t 65, .t 70, .t 71], none⟩,
  ⟨some 73, .bin .neq, [.t 72, .c (.val (.int .i64 0))], none⟩] [] [] [7, 73] true [] []
noncomputable def c11_49 : ACode := .region false [⟨some 6, .move, [.c (.val (.bool false))], none⟩] [] [] [6] false [] []
noncomputable def c11_48 : ACode := .seq c11_49 .ret
noncomputable def c11_47 : ACode := .cond (.t 73) c11_48 .skip
noncomputable def c11_45 : ACode := .seq c11_46 c11_47
noncomputable def c11_51 : ACode := .region false [⟨some 75, .move, [.t 7], none⟩,
  ⟨some 76, .call 35, [.t 75], none⟩,
  ⟨some 74, .move, [.t 76], none⟩,
  ⟨some 77, .ext 0, [.t 74], none⟩,
  ⟨some 78, .ext 1, [.t 74], none⟩,
  ⟨some 79, .ext 2, [.t 74], none⟩,
  ⟨some 8, .move, [.t 77], none⟩,
  ⟨some 14, .move, [.t 78], none⟩,
  ⟨some 15, .move, [.t 79], none⟩] [] [] [8, 14, 15] true [] []
noncomputable def c11_53 : ACode := .region false [⟨some 80, .move, [.t 15], none⟩,
  ⟨some 81, .bin .eql, [.t 80, .c (.val (.int .i64 12))], none⟩,
  ⟨some 82, .move, [.t 81], none⟩,
  ⟨some 83, .move, [.t 8], some (some 82, true)⟩,
  ⟨some 84, .eqP false, [.t 83, .c (.val (.pointer none))], some (some 82, true)⟩,
  ⟨some 85, .pick, [.t 82, .t 84, .c (.val (.bool false))], none⟩,
  ⟨some 86, .move, [.t 85], none⟩,
  ⟨some 87, .move, [.t 14], some (some 86, true)⟩,
  ⟨some 88, .len, [.t 87], some (some 86, true)⟩,
  ⟨some 89, .bin .eql, [.t 88, .c (.val (.int .i64 0))], some (some 86, true)⟩,
  ⟨some 90, .pick, [.t 86, .t 89, .c (.val (.bool false))], none⟩,
  ⟨some 6, .move, [.t 90], none⟩] [] [] [6] false [] []
noncomputable def c11_52 : ACode := .seq c11_53 .ret
noncomputable def c11_50 : ACode := .seq c11_51 c11_52
noncomputable def c11_44 : ACode := .seq c11_45 c11_50
noncomputable def c11_38 : ACode := .seq c11_39 c11_44
noncomputable def c11_20 : ACode := .seq c11_21 c11_38
noncomputable def c11_18 : ACode := .seq c11_19 c11_20
noncomputable def c11_12 : ACode := .seq c11_13 c11_18
noncomputable def c11_10 : ACode := .seq c11_11 c11_12
noncomputable def c11_8 : ACode := .seq c11_9 c11_10
noncomputable def c11_2 : ACode := .seq c11_3 c11_8
noncomputable def c11_0 : ACode := .seq c11_1 c11_2
noncomputable def code11 : Code := (Try.f11.body).getD .skip
theorem c11_ok : compC Try.prog 91 code11 = some (strip c11_0) := by kernel_rfl
theorem res11_ok : Try.f11.results.toList.mapM (resC Try.prog) = some [(6, none)] := by kernel_rfl
theorem turn_rot {g : List (List Int)} (h : ∀ l ∈ g, goodR l) {i : Nat} (hi : i < (catR g).length) {b : Int} (hb : 0 ≤ b ∧ b ≤ 255) (hb0 : b ≠ 0) : jread (turnL (catR g) i b) = ([], 0, true) ∧ ∀ x ∈ turnL (catR g) i b, 0 ≤ x ∧ x ≤ 255 := by
  have hx := gd_ok (catR_bytes h) i
  obtain ⟨h1, h2⟩ := xor_u8 hx hb
  have e : turnL (catR g) i b = (catR g).set i (bits .xor .u8 ((catR g).getD i 0) b) := by
    unfold turnL
    rw [List.set_eq_take_append_cons_drop, if_pos hi]; simp
  rw [e]
  refine ⟨jread_turn h hi fun hc => hb0 ?_, fun x hx => ?_⟩
  · rw [h2] at hc
    have h3 : by8 b = 0#32 := by
      have := congrArg (by8 ((catR g).getD i 0) ^^^ ·) hc
      simp only [← BitVec.xor_assoc, BitVec.xor_self] at this
      rw [x0] at this
      exact this
    have h4 := by8_small hb.1 hb.2
    rw [h3] at h4
    simp at h4
    omega
  · rcases List.mem_or_eq_of_mem_set hx with hx | rfl
    · exact catR_bytes h x hx
    · exact h1
theorem jrots_walk (W : World) (x : Sl (Sl Int)) (at1 by1 : Int) (hb1 : IntKind.u8.min ≤ by1 ∧ by1 ≤ IntKind.u8.max) (ht : x.ok W 1 (fun s : Sl Int => s.rep) (Sl.ok W 1 (fun n : Int => [.int .u8 n]) (fun n : Int => IntKind.u8.min ≤ n ∧ n ≤ IntKind.u8.max))) :
    Calls Try.prog 11 #[.slice x.ad x.l.length x.cap, .int .i64 at1, .int .u8 by1] W fun e W' => e = .returned (.bool true) ∧ Below W.heap.size W W' := by
  obtain ⟨ad, off, cap, l0⟩ := x
  have hz := ht.fz
  have hall := ht.all
  have hln := ht.len
  simp only at hz hall hln
  have hby1 : 0 ≤ by1 ∧ by1 ≤ 255 := hb1
  have sg : SegR (rowsC off (fun s : Sl Int => [fzB s.l]) l0) off (l0.map (·.l)) := SegR.rows (fun _ => rfl) (Nat.le_trans hln (by decide))
  have hby0 : ∀ l ∈ l0.map (·.l), ∀ x ∈ l, 0 ≤ x ∧ x ≤ 255 := by
    intro l hl
    obtain ⟨s, hs, rfl⟩ := List.mem_map.1 hl
    exact (hall s hs).all
  refine top_call c11_ok Try.func11 rfl Try.ntmps11 res11_ok [ .val (.slice ad l0.length cap), I at1, U8 by1] (by simp) (by (repeat' (first | exact VRs_nil' _ | exact VR_val' _ _ | (refine VRs_cons' ?_ ?_) | (refine VR_agg' (by first | rfl | assumption) ?_; first | assumption | simp [Value.oneCell'])))) ?_; try simp (maxSteps := 9999999) (disch := omega) only [go_sem]
  refine AWpA.thawT 0 (fun s : Sl Int => [.val (.slice s.ad s.l.length s.cap)]) hz (fun _ => rfl) rfl ?_
  refine AWpA.frzO 0 rfl (frz_rows fun s hs => (hall s hs).fz) ?_
  have hl0 : l0.length = (l0.map (·.l)).length := by simp
  rw [hl0]
  clear hz hall hln hl0
  generalize rowsC off (fun s : Sl Int => [fzB s.l]) l0 = P at sg
  generalize l0.map (·.l) = ls at *
  have hle := sg.le
  have hfw := few_any sg
  have g0 : (by1 == 0) = decide (by1 = 0) := by rw [Bool.eq_iff_iff]; simp
  have g0 : (by1 == 0) = decide (by1 = 0) := by rw [Bool.eq_iff_iff]; simp
  cases hf : fewB ls
  · rw [hf] at hfw
    (have k9 := And.intro @sg.ren (k0); (repeat' (first | refine AWpA.seq ?_ | refine AWpA.block ?_ | (with_reducible refine CondP.tt ?_) | (with_reducible refine CondP.ff ?_) | refine AWpA.cg ?_ | ((first | refine AWpA.rg ?_ | refine AWpA.dg [] [] follows ?_ | refine TailK.tg ?_ | refine AWpA.skip ?_ | refine AWpA.exit ?_ | refine AWpA.ret ?_ | (with_reducible refine ARoundsA.succ ?_) | ((first | refine Runs.gkt (fun h9 => ?_) | refine Runs.gkf (fun h9 => ?_) | refine Runs.gnt (fun h9 => ?_) | refine Runs.gnf (fun h9 => ?_) | refine CondP.gt (fun h9 => ?_) | refine CondP.gf (fun h9 => ?_) | refine CondP.gnt (fun h9 => ?_) | refine CondP.gnf (fun h9 => ?_)); (try simp only [h9]); clear h9) | refine CallG.pg [] (speaks07_any) ?_ | refine CallG.pg [0] (hfw) ?_ | refine CallG.dg [] (speaks07_any) ?_ | refine CallG.dg [0] (hfw) ?_); (try simp (maxSteps := 9999999) (disch := omega) only [go_sem, k9]); (try refine cnd ?_)) | ((first | refine CondP.split (fun hif => ?_) (fun hif => ?_) | refine Runs.part (fun hif => ?_) (fun hif => ?_)) <;> ((try simp only [hif]); (try simp only [BL] at hif); (try (have h9 : _ = true := hif; simp only [h9])); (try (have h9 : _ = false := hif; simp only [h9])); (try simp (maxSteps := 9999999) (disch := omega) only [go_sem, k9]); (try refine cnd ?_); (try (exfalso; omega; done)))))); (all_goals (try clear k9)))
    (refine TopPost.of (by first | exact .inl rfl | exact .inr rfl) (by (try simp (maxSteps := 9999999) (disch := omega) only [go_sem]); rfl) ?_; (try simp (maxSteps := 9999999) (disch := omega) only [go_sem]); (try (first | trivial | decide | (simp; done))))
  rw [hf] at hfw
  by_cases hb0 : by1 = 0
  · subst hb0
    (have k9 := And.intro @sg.ren (k0); (repeat' (first | refine AWpA.seq ?_ | refine AWpA.block ?_ | (with_reducible refine CondP.tt ?_) | (with_reducible refine CondP.ff ?_) | refine AWpA.cg ?_ | ((first | refine AWpA.rg ?_ | refine AWpA.dg [] [] follows ?_ | refine TailK.tg ?_ | refine AWpA.skip ?_ | refine AWpA.exit ?_ | refine AWpA.ret ?_ | (with_reducible refine ARoundsA.succ ?_) | ((first | refine Runs.gkt (fun h9 => ?_) | refine Runs.gkf (fun h9 => ?_) | refine Runs.gnt (fun h9 => ?_) | refine Runs.gnf (fun h9 => ?_) | refine CondP.gt (fun h9 => ?_) | refine CondP.gf (fun h9 => ?_) | refine CondP.gnt (fun h9 => ?_) | refine CondP.gnf (fun h9 => ?_)); (try simp only [h9]); clear h9) | refine CallG.pg [] (speaks07_any) ?_ | refine CallG.pg [0] (hfw) ?_ | refine CallG.dg [] (speaks07_any) ?_ | refine CallG.dg [0] (hfw) ?_); (try simp (maxSteps := 9999999) (disch := omega) only [go_sem, k9]); (try refine cnd ?_)) | ((first | refine CondP.split (fun hif => ?_) (fun hif => ?_) | refine Runs.part (fun hif => ?_) (fun hif => ?_)) <;> ((try simp only [hif]); (try simp only [BL] at hif); (try (have h9 : _ = true := hif; simp only [h9])); (try (have h9 : _ = false := hif; simp only [h9])); (try simp (maxSteps := 9999999) (disch := omega) only [go_sem, k9]); (try refine cnd ?_); (try (exfalso; omega; done)))))); (all_goals (try clear k9)))
    (refine TopPost.of (by first | exact .inl rfl | exact .inr rfl) (by (try simp (maxSteps := 9999999) (disch := omega) only [go_sem]); rfl) ?_; (try simp (maxSteps := 9999999) (disch := omega) only [go_sem]); (try (first | trivial | decide | (simp; done))))
  have g1 : (by1 == 0) = false := by rw [beq_eq_false_iff_ne]; exact hb0
  obtain ⟨hf1, hf2⟩ := fewB_yes hf
  have o0 := opens_ok (DG []) (DG_ok (by decide)) rfl (by simp [catR_nil]) (open_good (g := []) (by simp)).1
  rw [(open_good (g := []) (by simp)).2.1, (open_good (g := []) (by simp)).2.2] at o0
  (have k9 := And.intro @sg.ren (And.intro @g1 (k0)); (repeat' (first | refine AWpA.seq ?_ | refine AWpA.block ?_ | (with_reducible refine CondP.tt ?_) | (with_reducible refine CondP.ff ?_) | refine AWpA.cg ?_ | ((first | refine AWpA.rg ?_ | refine AWpA.dg [] [] follows ?_ | refine TailK.tg ?_ | refine AWpA.skip ?_ | refine AWpA.exit ?_ | refine AWpA.ret ?_ | (with_reducible refine ARoundsA.succ ?_) | ((first | refine Runs.gkt (fun h9 => ?_) | refine Runs.gkf (fun h9 => ?_) | refine Runs.gnt (fun h9 => ?_) | refine Runs.gnf (fun h9 => ?_) | refine CondP.gt (fun h9 => ?_) | refine CondP.gf (fun h9 => ?_) | refine CondP.gnt (fun h9 => ?_) | refine CondP.gnf (fun h9 => ?_)); (try simp only [h9]); clear h9) | refine CallG.pg [] (speaks07_any) ?_ | refine CallG.pg [0] (hfw) ?_ | refine CallG.pg [] (dnew_any) ?_ | refine CallG.pg [193, 194] (o0) ?_ | refine CallG.dg [] (speaks07_any) ?_ | refine CallG.dg [0] (hfw) ?_ | refine CallG.dg [] (dnew_any) ?_ | refine CallG.dg [193, 194] (o0) ?_); (try simp (maxSteps := 9999999) (disch := omega) only [go_sem, k9]); (try refine cnd ?_)) | ((first | refine CondP.split (fun hif => ?_) (fun hif => ?_) | refine Runs.part (fun hif => ?_) (fun hif => ?_)) <;> ((try simp only [hif]); (try simp only [BL] at hif); (try (have h9 : _ = true := hif; simp only [h9])); (try (have h9 : _ = false := hif; simp only [h9])); (try simp (maxSteps := 9999999) (disch := omega) only [go_sem, k9]); (try refine cnd ?_); (try (exfalso; omega; done)))))); (all_goals (try clear k9)))
  (apply AWpA.loopL (fun i : Nat => [(1, I at1), (2, U8 by1), (7, .ptr 2 0), (8, .ptr 1 0), (11, I (gd (ls.take i)).length), (41, .sl 0 off ls.length 1 none), (42, I ls.length), (43, I i)]) (fun i => [.cells true P, .cells false [.ptr 2 0, I (gd (ls.take i)).length], DkO 3 (DG (gd (ls.take i))), .cells false (bA (catR (gd (ls.take i))))]) (fun i => ls.length - i) (fun i => i ≤ ls.length) (0) [0, 241, 193, 194]; rotate_left; (focus (simp (maxSteps := 9999999) (disch := omega) only [go_sem, sg.ren, List.take_zero, gd, List.filter_nil, catR_nil, bA_nil, List.length_nil]; (try (repeat' (first | done | trivial | rfl | exact leAs_rfl _ | decide | (refine And.intro ?_ ?_) | (simp; done) | omega | (simp; decide)))))); rotate_right)
  · exact Nat.zero_le _
  rintro i hi
  (try simp only at hi)
  have hgl := gd_len (ls.take i)
  have htl : (ls.take i).length = i := by rw [List.length_take]; omega
  have hgg : ∀ l ∈ gd (ls.take i), goodR l := gd_good fun l hl => hby0 l (List.mem_of_mem_take hl)
  have hcb := catR_bound hgg
  by_cases hin : i < ls.length
  · have g2 : ((i : Int) < (ls.length : Int)) = True := eq_true (by omega)
    have g3 := sg.at i hin
    have g4 := gd_take hin
    have hb := hby0 ls[i] (List.getElem_mem hin)
    have hl6 := hf1 ls[i] (List.getElem_mem hin)
    generalize ls[i] = c at g3 g4 hb hl6
    generalize gd (ls.take i) = g at *
    have ha := jadd_any (DG g) (DG_ok (by omega)) c g.length (by omega) (by omega) hb
    obtain ⟨q1, q2⟩ := add_good (g := g) (b := c) (by omega)
    rw [q1, q2] at ha
    by_cases hr : recE c = 0
    · rw [if_pos hr] at g4
      simp only [if_pos hr, hr] at ha
      have g5 : (g.length : Int) + 1 = ((g ++ [c]).length : Int) := by simp
      have g6 : ((g.length + 1 : Nat) : Int) = ((g ++ [c]).length : Int) := by simp
      rw [g6] at ha
      (try simp (maxSteps := 9999999) (disch := omega) only [go_sem])
      (have k9 := And.intro @g2 (And.intro @g3 (And.intro @sg.ren (k0))); (repeat' (first | refine AWpA.seq ?_ | refine AWpA.block ?_ | (with_reducible refine CondP.tt ?_) | (with_reducible refine CondP.ff ?_) | refine AWpA.cg ?_ | ((first | refine AWpA.rg ?_ | refine AWpA.dg [] [] follows ?_ | refine TailK.tg ?_ | refine AWpA.skip ?_ | refine AWpA.exit ?_ | refine AWpA.ret ?_ | (with_reducible refine ARoundsA.succ ?_) | ((first | refine Runs.gkt (fun h9 => ?_) | refine Runs.gkf (fun h9 => ?_) | refine Runs.gnt (fun h9 => ?_) | refine Runs.gnf (fun h9 => ?_) | refine CondP.gt (fun h9 => ?_) | refine CondP.gf (fun h9 => ?_) | refine CondP.gnt (fun h9 => ?_) | refine CondP.gnf (fun h9 => ?_)); (try simp only [h9]); clear h9) | refine CallG.pg [1, 2, 3] (ha) ?_ | refine CallG.dg [1, 2, 3] (ha) ?_); (try simp (maxSteps := 9999999) (disch := omega) only [go_sem, k9]); (try refine cnd ?_)) | ((first | refine CondP.split (fun hif => ?_) (fun hif => ?_) | refine Runs.part (fun hif => ?_) (fun hif => ?_)) <;> ((try simp only [hif]); (try simp only [BL] at hif); (try (have h9 : _ = true := hif; simp only [h9])); (try (have h9 : _ = false := hif; simp only [h9])); (try simp (maxSteps := 9999999) (disch := omega) only [go_sem, k9]); (try refine cnd ?_); (try (exfalso; omega; done)))))); (all_goals (try clear k9)))
      (apply Back.to (i + 1) [0, 1, 2, 100]; (focus ((try simp (maxSteps := 9999999) (disch := omega) only [go_sem, g4, sg.ren]); first | done | omega)); rotate_left; (focus (simp (maxSteps := 9999999) (disch := omega) only [go_sem, g4, sg.ren]; (try (repeat' (first | done | trivial | rfl | exact leAs_rfl _ | decide | (refine And.intro ?_ ?_) | (simp; done) | omega | (simp; decide)))))))
      all_goals omega
    · rw [if_neg hr] at g4
      simp only [if_neg hr] at ha
      have g5 : (recE c == 0) = false := by rw [beq_eq_false_iff_ne]; exact hr
      generalize recE c = E at *
      (try simp (maxSteps := 9999999) (disch := omega) only [go_sem])
      (have k9 := And.intro @g2 (And.intro @g3 (And.intro @g5 (And.intro @sg.ren (k0)))); (repeat' (first | refine AWpA.seq ?_ | refine AWpA.block ?_ | (with_reducible refine CondP.tt ?_) | (with_reducible refine CondP.ff ?_) | refine AWpA.cg ?_ | ((first | refine AWpA.rg ?_ | refine AWpA.dg [] [] follows ?_ | refine TailK.tg ?_ | refine AWpA.skip ?_ | refine AWpA.exit ?_ | refine AWpA.ret ?_ | (with_reducible refine ARoundsA.succ ?_) | ((first | refine Runs.gkt (fun h9 => ?_) | refine Runs.gkf (fun h9 => ?_) | refine Runs.gnt (fun h9 => ?_) | refine Runs.gnf (fun h9 => ?_) | refine CondP.gt (fun h9 => ?_) | refine CondP.gf (fun h9 => ?_) | refine CondP.gnt (fun h9 => ?_) | refine CondP.gnf (fun h9 => ?_)); (try simp only [h9]); clear h9) | refine CallG.pg [1, 2, 3] (ha) ?_ | refine CallG.dg [1, 2, 3] (ha) ?_); (try simp (maxSteps := 9999999) (disch := omega) only [go_sem, k9]); (try refine cnd ?_)) | ((first | refine CondP.split (fun hif => ?_) (fun hif => ?_) | refine Runs.part (fun hif => ?_) (fun hif => ?_)) <;> ((try simp only [hif]); (try simp only [BL] at hif); (try (have h9 : _ = true := hif; simp only [h9])); (try (have h9 : _ = false := hif; simp only [h9])); (try simp (maxSteps := 9999999) (disch := omega) only [go_sem, k9]); (try refine cnd ?_); (try (exfalso; omega; done)))))); (all_goals (try clear k9)))
      (apply Back.to (i + 1) [0, 1, 2, 100]; (focus ((try simp (maxSteps := 9999999) (disch := omega) only [go_sem, g4, sg.ren]); first | done | omega)); rotate_left; (focus (simp (maxSteps := 9999999) (disch := omega) only [go_sem, g4, sg.ren]; (try (repeat' (first | done | trivial | rfl | exact leAs_rfl _ | decide | (refine And.intro ?_ ?_) | (simp; done) | omega | (simp; decide)))))))
      all_goals omega
  · obtain rfl : i = ls.length := by omega
    rw [List.take_length] at *
    generalize gd ls = g at *
    by_cases h0 : g.length = 0
    · have g2 : ((g.length : Int) == 0) = true := by simp [h0]
      (try simp (maxSteps := 9999999) (disch := omega) only [go_sem])
      (have k9 := And.intro @g2 (And.intro @sg.ren (k0)); (repeat' (first | refine AWpA.seq ?_ | refine AWpA.block ?_ | (with_reducible refine CondP.tt ?_) | (with_reducible refine CondP.ff ?_) | refine AWpA.cg ?_ | ((first | refine AWpA.rg ?_ | refine AWpA.dg [] [] follows ?_ | refine TailK.tg ?_ | refine AWpA.skip ?_ | refine AWpA.exit ?_ | refine AWpA.ret ?_ | (with_reducible refine ARoundsA.succ ?_) | ((first | refine Runs.gkt (fun h9 => ?_) | refine Runs.gkf (fun h9 => ?_) | refine Runs.gnt (fun h9 => ?_) | refine Runs.gnf (fun h9 => ?_) | refine CondP.gt (fun h9 => ?_) | refine CondP.gf (fun h9 => ?_) | refine CondP.gnt (fun h9 => ?_) | refine CondP.gnf (fun h9 => ?_)); (try simp only [h9]); clear h9)); (try simp (maxSteps := 9999999) (disch := omega) only [go_sem, k9]); (try refine cnd ?_)) | ((first | refine CondP.split (fun hif => ?_) (fun hif => ?_) | refine Runs.part (fun hif => ?_) (fun hif => ?_)) <;> ((try simp only [hif]); (try simp only [BL] at hif); (try (have h9 : _ = true := hif; simp only [h9])); (try (have h9 : _ = false := hif; simp only [h9])); (try simp (maxSteps := 9999999) (disch := omega) only [go_sem, k9]); (try refine cnd ?_); (try (exfalso; omega; done)))))); (all_goals (try clear k9)))
      (refine TopPost.of (by first | exact .inl rfl | exact .inr rfl) (by (try simp (maxSteps := 9999999) (disch := omega) only [go_sem]); rfl) ?_; (try simp (maxSteps := 9999999) (disch := omega) only [go_sem]); (try (first | trivial | decide | (simp; done))))
    have g2 : ((g.length : Int) == 0) = false := by rw [beq_eq_false_iff_ne]; omega
    have h11 := catR_len11 hgg
    have g3 : (((catR g).length : Int) < 11 * (g.length : Int)) = False := eq_false (by omega)
    obtain ⟨fq, hfq, hfq2⟩ := low20 at1
    have g4 : ((fq : Int)).tmod ((catR g).length : Int) = ((fq % (catR g).length : Nat) : Int) := by
      rw [Int.tmod_eq_emod_of_nonneg (by omega)]
      exact (Int.natCast_emod _ _).symm
    have hlt : fq % (catR g).length < (catR g).length := Nat.mod_lt _ (by omega)
    have hle1 := dlen_any (DG g)
    have htu := dturn_any (DG g) (DG_ok (by omega)) ((fq % (catR g).length : Nat) : Int) by1
    obtain ⟨hr1, hr2⟩ := turn_rot hgg hlt hby1 hb0
    have e1 : turnE (DG g) ((fq % (catR g).length : Nat) : Int) = 0 := by unfold turnE; rw [if_pos (by simp only; omega)]
    have e2 : turnF (DG g) ((fq % (catR g).length : Nat) : Int) by1 = ⟨turnL (catR g) (fq % (catR g).length) by1, (catR g).length, false, -1⟩ := by unfold turnF; rw [if_pos (by simp only; omega), Int.toNat_natCast]
    rw [e1, e2] at htu
    have hll := turnL_len hlt by1
    generalize fq % (catR g).length = k at *
    generalize turnL (catR g) k by1 = B at *
    have hok2 : (⟨B, (catR g).length, false, -1⟩ : Dk).ok := ⟨by simp only; omega, by simp only; omega, show (-1 : Int) ≤ -1 by decide, show (-1 : Int) ≤ 9223372036854775807 by decide⟩
    have e3 : opE ⟨B, (catR g).length, false, -1⟩ = 12 := by unfold opE; simp only; rw [hr1]; rfl
    have e4 : opD ⟨B, (catR g).length, false, -1⟩ = ⟨B, (catR g).length, false, -1⟩ := by unfold opD; simp only; rw [hr1]; rfl
    have ho := opens_no ⟨B, (catR g).length, false, -1⟩ hok2 rfl hr2 (by rw [e3]; decide)
    rw [e3, e4] at ho
    simp only [hll] at htu ho
    clear e1 e2 e3 e4 hr1 hr2 hok2
    (try simp (maxSteps := 9999999) (disch := omega) only [go_sem])
    (have k9 := And.intro @g2 (And.intro @g3 (And.intro @g4 (And.intro @hfq (And.intro @hll (And.intro @sg.ren (k0)))))); (repeat' (first | refine AWpA.seq ?_ | refine AWpA.block ?_ | (with_reducible refine CondP.tt ?_) | (with_reducible refine CondP.ff ?_) | refine AWpA.cg ?_ | ((first | refine AWpA.rg ?_ | refine AWpA.dg [] [] follows ?_ | refine TailK.tg ?_ | refine AWpA.skip ?_ | refine AWpA.exit ?_ | refine AWpA.ret ?_ | (with_reducible refine ARoundsA.succ ?_) | ((first | refine Runs.gkt (fun h9 => ?_) | refine Runs.gkf (fun h9 => ?_) | refine Runs.gnt (fun h9 => ?_) | refine Runs.gnf (fun h9 => ?_) | refine CondP.gt (fun h9 => ?_) | refine CondP.gf (fun h9 => ?_) | refine CondP.gnt (fun h9 => ?_) | refine CondP.gnf (fun h9 => ?_)); (try simp only [h9]); clear h9) | refine CallG.pg [2, 3] (hle1) ?_ | refine CallG.pg [2, 3] (htu) ?_ | refine CallG.pg [2, 3] (ho) ?_ | refine CallG.dg [2, 3] (hle1) ?_ | refine CallG.dg [2, 3] (htu) ?_ | refine CallG.dg [2, 3] (ho) ?_); (try simp (maxSteps := 9999999) (disch := omega) only [go_sem, k9]); (try refine cnd ?_)) | ((first | refine CondP.split (fun hif => ?_) (fun hif => ?_) | refine Runs.part (fun hif => ?_) (fun hif => ?_)) <;> ((try simp only [hif]); (try simp only [BL] at hif); (try (have h9 : _ = true := hif; simp only [h9])); (try (have h9 : _ = false := hif; simp only [h9])); (try simp (maxSteps := 9999999) (disch := omega) only [go_sem, k9]); (try refine cnd ?_); (try (exfalso; omega; done)))))); (all_goals (try clear k9)))
    (refine TopPost.of (by first | exact .inl rfl | exact .inr rfl) (by (try simp (maxSteps := 9999999) (disch := omega) only [go_sem]); rfl) ?_; (try simp (maxSteps := 9999999) (disch := omega) only [go_sem]); (try (first | trivial | decide | (simp; done))))
end Go.Proofs.Ythbpdmlbfnjoiaa
