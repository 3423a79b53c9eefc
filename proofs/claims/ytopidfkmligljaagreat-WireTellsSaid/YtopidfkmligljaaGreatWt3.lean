/- Contract: which messages may be, as the document says. -/
import Derived.Test.YtopidfkmligljaaGreatWt1
import Derived.Test.YtopidfkmligljaaGreatEg5
import Derived.Test.YtopidfkmligljaaGreatAb
/- Contract: the document's fields. -/
namespace Go.Proofs.YtopidfkmligljaaGreat
noncomputable section
set_option linter.unusedSimpArgs false
set_option linter.unusedVariables false
set_option maxHeartbeats 4000000
open Go Go.Am Go.RowKit
set_option maxRecDepth 100000
set_option maxHeartbeats 8000000
theorem fields_any (m : Wm) (a b c : Nat) : ACall Tryz.prog 44 [WmA m 0 a 1 b 2 c] [.cells true (Ri a m.peers), .cells true (Rm b m.marks), .cells true (Re c m.ents)] (Det (Bo (bareW m)) [.cells true (Ri a m.peers), .cells true (Rm b m.marks), .cells true (Re c m.ents)]) := by
  have hi := ri_ren
  have hm := rm_ren
  have he := re_ren
  have h0 := has0_any m.kind
  have h2 := has2_any m.kind
  have h3 := has3_any m.kind
  have h4 := has4_any m.kind
  have h5 := has5_any m.kind
  have h6 := has6_any m.kind
  unfold bareW
  rw [← mkE_dec]
  have hd : decide (m.peers.length = 0) = !decide ((0 : Int) < (m.peers.length : Int)) := by
    rw [Bool.eq_iff_iff]
    simp
  rw [hd]
  generalize hasF m.kind 0 = b0 at *
  generalize hasF m.kind 2 = b2 at *
  generalize hasF m.kind 3 = b3 at *
  generalize hasF m.kind 4 = b4 at *
  generalize hasF m.kind 5 = b5 at *
  generalize hasF m.kind 6 = b6 at *
  refine ACall.startA c44_ok Tryz.func44 rfl Tryz.ntmps44 (by kernel_rfl) res44_ok rfl rfl rfl ?_; simp (maxSteps := 9999999) (disch := omega) only [go_sem]
  (have k9 := And.intro @hi (And.intro @hm (And.intro @he (k0))); (repeat' (first | refine AWpA.seq ?_ | refine AWpA.block ?_ | (with_reducible refine CondP.tt ?_) | (with_reducible refine CondP.ff ?_) | refine AWpA.cg ?_ | ((first | refine AWpA.rg ?_ | refine AWpA.dg [] [] follows ?_ | refine TailK.tg ?_ | refine AWpA.skip ?_ | refine AWpA.exit ?_ | refine AWpA.ret ?_ | (with_reducible refine ARoundsA.succ ?_) | ((first | refine Runs.gkt (fun h9 => ?_) | refine Runs.gkf (fun h9 => ?_) | refine Runs.gnt (fun h9 => ?_) | refine Runs.gnf (fun h9 => ?_) | refine CondP.gt (fun h9 => ?_) | refine CondP.gf (fun h9 => ?_) | refine CondP.gnt (fun h9 => ?_) | refine CondP.gnf (fun h9 => ?_)); (try simp only [h9]); clear h9) | refine CallG.pg [] (h0) ?_ | refine CallG.pg [] (h2) ?_ | refine CallG.pg [] (h3) ?_ | refine CallG.pg [] (h4) ?_ | refine CallG.pg [] (h5) ?_ | refine CallG.pg [] (h6) ?_ | refine CallG.dg [] (h0) ?_ | refine CallG.dg [] (h2) ?_ | refine CallG.dg [] (h3) ?_ | refine CallG.dg [] (h4) ?_ | refine CallG.dg [] (h5) ?_ | refine CallG.dg [] (h6) ?_); (try simp (maxSteps := 9999999) (disch := omega) only [go_sem, k9]); (try refine cnd ?_)) | ((first | refine CondP.split (fun hif => ?_) (fun hif => ?_) | refine Runs.part (fun hif => ?_) (fun hif => ?_)) <;> ((try simp only [hif]); (try simp only [BL] at hif); (try (have h9 : _ = true := hif; simp only [h9])); (try (have h9 : _ = false := hif; simp only [h9])); (try simp (maxSteps := 9999999) (disch := omega) only [go_sem, k9]); (try refine cnd ?_); (try (exfalso; omega; done)))))); (all_goals (try clear k9)))
  all_goals (apply Ret.det [0, 1, 2]; (focus (first | exact .inl rfl | exact .inr rfl)); (focus (simp (maxSteps := 9999999) (disch := omega) only [go_sem, hi, hm, he]; rfl)); (simp (maxSteps := 9999999) (disch := omega) only [go_sem, hi, hm, he]; (try (repeat' (first | done | trivial | rfl | exact leAs_rfl _ | decide | (refine And.intro ?_ ?_) | (simp; done) | omega | (simp; decide))))))
  all_goals (simp [*])
end
end Go.Proofs.YtopidfkmligljaaGreat
namespace Go.Proofs.YtopidfkmligljaaGreat
noncomputable section
set_option linter.unusedSimpArgs false
set_option linter.unusedVariables false
set_option maxHeartbeats 4000000
open Go Go.Am Go.RowKit
set_option maxRecDepth 100000
set_option maxHeartbeats 8000000
/- quidnunc/quidnuncref16.Good -/
def c15_1 : ACode := .region false [⟨some 1, .box 0, [.t 0], none⟩,
  ⟨some 2, .move, [.c (.val (.int .i64 0))], none⟩] [] [] [1] true [] []
def c15_4 : ACode := .region false [⟨some 6, .addr 0, [.t 1], none⟩,
  ⟨some 7, .load false 1, [.t 6], none⟩,
  ⟨some 8, .bin .lss, [.t 7, .c (.val (.int .i64 1))], none⟩,
  ⟨some 9, .move, [.t 8], none⟩,
  ⟨some 10, .addr 0, [.t 1], some (some 9, false)⟩,
  ⟨some 11, .load false 1, [.t 10], some (some 9, false)⟩,
  ⟨some 12, .bin .gtr, [.t 11, .c (.val (.int .i64 19))], some (some 9, false)⟩,
  ⟨some 13, .pick, [.t 9, .c (.val (.bool true)), .t 12], none⟩] [] [] [1, 13] false [] []
def c15_7 : ACode := .region false [⟨some 2, .move, [.c (.val (.int .i64 1))], none⟩] [] [] [2] false [] []
def c15_6 : ACode := .seq c15_7 .ret
def c15_5 : ACode := .cond (.t 13) c15_6 .skip
def c15_3 : ACode := .seq c15_4 c15_5
def c15_10 : ACode := .region false [⟨some 14, .load true 12, [.t 1], none⟩,
  ⟨some 15, .call 43, [.t 14], none⟩,
  ⟨some 16, .un .not, [.t 15], none⟩,
  ⟨some 17, .move, [.t 16], none⟩,
  ⟨some 18, .load true 12, [.t 1], some (some 17, false)⟩,
  ⟨some 19, .call 44, [.t 18], some (some 17, false)⟩,
  ⟨some 20, .un .not, [.t 19], some (some 17, false)⟩,
  ⟨some 21, .pick, [.t 17, .c (.val (.bool true)), .t 20], none⟩,
  ⟨some 22, .move, [.t 21], none⟩,
  ⟨some 23, .addr 1, [.t 1], some (some 22, false)⟩,
  ⟨some 24, .load false 1, [.t 23], some (some 22, false)⟩,
  ⟨some 25, .call 45, [.t 24], some (some 22, false)⟩,
  ⟨some 26, .un .not, [.t 25], some (some 22, false)⟩,
  ⟨some 27, .pick, [.t 22, .c (.val (.bool true)), .t 26], none⟩,
  ⟨some 28, .move, [.t 27], none⟩,
  ⟨some 29, .addr 2, [.t 1], some (some 28, false)⟩,
  ⟨some 30, .load false 1, [.t 29], some (some 28, false)⟩,
  ⟨some 31, .bin .lss, [.t 30, .c (.val (.int .i64 0))], some (some 28, false)⟩,
  ⟨some 32, .pick, [.t 28, .c (.val (.bool true)), .t 31], none⟩,
  ⟨some 33, .move, [.t 32], none⟩,
  ⟨some 34, .addr 2, [.t 1], some (some 33, false)⟩,
  ⟨some 35, .load false 1, [.t 34], some (some 33, false)⟩,
  ⟨some 36, .bin .gtr, [.t 35, .c (.val (.int .i64 8))], some (some 33, false)⟩,
  ⟨some 37, .pick, [.t 33, .c (.val (.bool true)), .t 36], none⟩,
  ⟨some 38, .move, [.t 37], none⟩,
  ⟨some 39, .addr 5, [.t 1], some (some 38, false)⟩,
  ⟨some 40, .load false 1, [.t 39], some (some 38, false)⟩,
  ⟨some 41, .bin .lss, [.t 40, .c (.val (.int .i64 0))], some (some 38, false)⟩,
  ⟨some 42, .pick, [.t 38, .c (.val (.bool true)), .t 41], none⟩,
  ⟨some 43, .move, [.t 42], none⟩,
  ⟨some 44, .addr 5, [.t 1], some (some 43, false)⟩,
  ⟨some 45, .load false 1, [.t 44], some (some 43, false)⟩,
  ⟨some 46, .bin .gtr, [.t 45, .c (.val (.int .i64 4294967295))], some (some 43, false)⟩,
  ⟨some 47, .pick, [.t 43, .c (.val (.bool true)), .t 46], none⟩] [] [] [1, 47] true [] []
def c15_13 : ACode := .region false [⟨some 2, .move, [.c (.val (.int .i64 4))], none⟩] [] [] [2] false [] []
def c15_12 : ACode := .seq c15_13 .ret
def c15_11 : ACode := .cond (.t 47) c15_12 .skip
def c15_9 : ACode := .seq c15_10 c15_11
def c15_16 : ACode := .region false [⟨some 48, .addr 7, [.t 1], none⟩,
  ⟨some 49, .load true 3, [.t 48], none⟩,
  ⟨some 50, .build [(.int .i64 0), (.int .i64 0), (.string ⟨#[]⟩)] [], [], none⟩,
  ⟨some 51, .eqA true [(0, 0), (1, 0), (2, 1)], [.t 49, .t 50], none⟩,
  ⟨some 52, .move, [.t 51], none⟩,
  ⟨some 53, .addr 7, [.t 1], some (some 52, true)⟩,
  ⟨some 54, .load true 3, [.t 53], some (some 52, true)⟩,
  ⟨some 55, .call 46, [.t 54], some (some 52, true)⟩,
  ⟨some 56, .un .not, [.t 55], some (some 52, true)⟩,
  ⟨some 57, .pick, [.t 52, .t 56, .c (.val (.bool false))], none⟩] [] [] [1, 57] true [] []
def c15_19 : ACode := .region false [⟨some 2, .move, [.c (.val (.int .i64 4))], none⟩] [] [] [2] false [] []
def c15_18 : ACode := .seq c15_19 .ret
def c15_17 : ACode := .cond (.t 57) c15_18 .skip
def c15_15 : ACode := .seq c15_16 c15_17
def c15_22 : ACode := .region false [⟨some 3, .move, [.c (.val (.int .i64 0))], none⟩] [] [] [1, 3] false [] []
def c15_27 : ACode := .region false [⟨some 58, .move, [.t 3], none⟩,
  ⟨some 59, .addr 4, [.t 1], none⟩,
  ⟨some 60, .load false 1, [.t 59], none⟩,
  ⟨some 61, .len, [.t 60], none⟩,
  ⟨some 62, .bin .lss, [.t 58, .t 61], none⟩] [] [] [1, 3, 62] false [] []
def c15_28 : ACode := .cond (.t 62) .skip (.exit 0)
def c15_26 : ACode := .seq c15_27 c15_28
def c15_32 : ACode := .region false [⟨some 65, .addr 4, [.t 1], none⟩,
  ⟨some 66, .load false 1, [.t 65], none⟩,
  ⟨some 67, .move, [.t 3], none⟩,
  ⟨some 68, .ixS 1, [.t 66, .t 67], none⟩,
  ⟨some 69, .load false 1, [.t 68], none⟩,
  ⟨some 70, .call 45, [.t 69], none⟩,
  ⟨some 71, .un .not, [.t 70], none⟩] [] [] [1, 3, 71] true [] []
def c15_35 : ACode := .region false [⟨some 2, .move, [.c (.val (.int .i64 4))], none⟩] [] [] [2] false [] []
def c15_34 : ACode := .seq c15_35 .ret
def c15_33 : ACode := .cond (.t 71) c15_34 .skip
def c15_31 : ACode := .seq c15_32 c15_33
def c15_30 : ACode := .block 1 c15_31
def c15_36 : ACode := .region false [⟨some 63, .move, [.t 3], none⟩,
  ⟨some 64, .bin .add, [.t 63, .c (.val (.int .i64 1))], none⟩,
  ⟨some 3, .move, [.t 64], none⟩] [] [] [1, 3] false [] []
def c15_29 : ACode := .seq c15_30 c15_36
def c15_25 : ACode := .seq c15_26 c15_29
def c15_24 : ACode := .loop c15_25
def c15_23 : ACode := .block 0 c15_24
def c15_21 : ACode := .seq c15_22 c15_23
def c15_39 : ACode := .region false [⟨some 4, .move, [.c (.val (.int .i64 0))], none⟩] [] [] [1, 4] false [] []
def c15_44 : ACode := .region false [⟨some 72, .move, [.t 4], none⟩,
  ⟨some 73, .addr 10, [.t 1], none⟩,
  ⟨some 74, .load false 1, [.t 73], none⟩,
  ⟨some 75, .len, [.t 74], none⟩,
  ⟨some 76, .bin .lss, [.t 72, .t 75], none⟩] [] [] [1, 4, 76] false [] []
def c15_45 : ACode := .cond (.t 76) .skip (.exit 2)
def c15_43 : ACode := .seq c15_44 c15_45
def c15_49 : ACode := .region false [⟨some 79, .addr 10, [.t 1], none⟩,
  ⟨some 80, .load false 1, [.t 79], none⟩,
  ⟨some 81, .move, [.t 4], none⟩,
  ⟨some 82, .ixS 3, [.t 80, .t 81], none⟩,
  ⟨some 83, .load true 3, [.t 82], none⟩,
  ⟨some 84, .call 46, [.t 83], none⟩,
  ⟨some 85, .un .not, [.t 84], none⟩] [] [] [1, 4, 85] true [] []
def c15_52 : ACode := .region false [⟨some 2, .move, [.c (.val (.int .i64 4))], none⟩] [] [] [2] false [] []
def c15_51 : ACode := .seq c15_52 .ret
def c15_50 : ACode := .cond (.t 85) c15_51 .skip
def c15_48 : ACode := .seq c15_49 c15_50
def c15_47 : ACode := .block 3 c15_48
def c15_53 : ACode := .region false [⟨some 77, .move, [.t 4], none⟩,
  ⟨some 78, .bin .add, [.t 77, .c (.val (.int .i64 1))], none⟩,
  ⟨some 4, .move, [.t 78], none⟩] [] [] [1, 4] false [] []
def c15_46 : ACode := .seq c15_47 c15_53
def c15_42 : ACode := .seq c15_43 c15_46
def c15_41 : ACode := .loop c15_42
def c15_40 : ACode := .block 2 c15_41
def c15_38 : ACode := .seq c15_39 c15_40
def c15_56 : ACode := .region false [⟨some 5, .move, [.c (.val (.int .i64 0))], none⟩] [] [] [1, 5] false [] []
def c15_61 : ACode := .region false [⟨some 86, .move, [.t 5], none⟩,
  ⟨some 87, .addr 11, [.t 1], none⟩,
  ⟨some 88, .load false 1, [.t 87], none⟩,
  ⟨some 89, .len, [.t 88], none⟩,
  ⟨some 90, .bin .lss, [.t 86, .t 89], none⟩] [] [] [1, 5, 90] false [] []
def c15_62 : ACode := .cond (.t 90) .skip (.exit 4)
def c15_60 : ACode := .seq c15_61 c15_62
def c15_66 : ACode := .region false [⟨some 93, .addr 11, [.t 1], none⟩,
  ⟨some 94, .load false 1, [.t 93], none⟩,
  ⟨some 95, .move, [.t 5], none⟩,
  ⟨some 96, .ixS 9, [.t 94, .t 95], none⟩,
  ⟨some 97, .load true 9, [.t 96], none⟩,
  ⟨some 98, .call 47, [.t 97], none⟩,
  ⟨some 99, .bin .neq, [.t 98, .c (.val (.int .i64 0))], none⟩] [] [] [1, 5, 99] true [] []
def c15_69 : ACode := .region false [⟨some 2, .move, [.c (.val (.int .i64 4))], none⟩] [] [] [2] false [] []
def c15_68 : ACode := .seq c15_69 .ret
def c15_67 : ACode := .cond (.t 99) c15_68 .skip
def c15_65 : ACode := .seq c15_66 c15_67
def c15_64 : ACode := .block 5 c15_65
def c15_70 : ACode := .region false [⟨some 91, .move, [.t 5], none⟩,
  ⟨some 92, .bin .add, [.t 91, .c (.val (.int .i64 1))], none⟩,
  ⟨some 5, .move, [.t 92], none⟩] [] [] [1, 5] false [] []
def c15_63 : ACode := .seq c15_64 c15_70
def c15_59 : ACode := .seq c15_60 c15_63
def c15_58 : ACode := .loop c15_59
def c15_57 : ACode := .block 4 c15_58
def c15_55 : ACode := .seq c15_56 c15_57
def c15_72 : ACode := .region false [⟨some 2, .move, [.c (.val (.int .i64 0))], none⟩] [] [] [2] false [] []
def c15_71 : ACode := .seq c15_72 .ret
def c15_54 : ACode := .seq c15_55 c15_71
def c15_37 : ACode := .seq c15_38 c15_54
def c15_20 : ACode := .seq c15_21 c15_37
def c15_14 : ACode := .seq c15_15 c15_20
def c15_8 : ACode := .seq c15_9 c15_14
def c15_2 : ACode := .seq c15_3 c15_8
def c15_0 : ACode := .seq c15_1 c15_2
def code15 : Code := (Tryz.f15.body).getD .skip
theorem c15_ok : compC Tryz.prog 100 code15 = some (strip c15_0) := by kernel_rfl
theorem res15_ok : Tryz.f15.results.toList.mapM (resC Tryz.prog) = some [(2, none)] := by kernel_rfl
def alls (m : Wm) : Bool := m.peers.all nodeB && (m.marks.all goodMk && m.ents.all fun e => checkI e == 0)
def goodD (m : Wm) : Bool := cntD m && (bareW m && (siteB m.peer && (!decide (m.hops < 0) && (!decide (8 < m.hops) && (!decide (m.num < 0) && (!decide (4294967295 < m.num) && ((mkE m.mark noMk || goodMk m.mark) && alls m)))))))
theorem site_node (n : Int) : siteB n = nodeB n := by
  rw [Bool.eq_iff_iff]
  simp [siteB, nodeB]
theorem goodD_eq (m : Wm) : goodD m = (bareW m && (cntW m && (numsW m && partsW m))) := by
  unfold goodD numsW partsW alls
  rw [mkE_dec, cntD_eq, site_node]
  have e1 : (!decide (m.hops < 0)) = decide (0 ≤ m.hops) := by rw [Bool.eq_iff_iff]; simp
  have e2 : (!decide (8 < m.hops)) = decide (m.hops ≤ 8) := by rw [Bool.eq_iff_iff]; simp
  have e3 : (!decide (m.num < 0)) = decide (0 ≤ m.num) := by rw [Bool.eq_iff_iff]; simp
  have e4 : (!decide (4294967295 < m.num)) = decide (m.num ≤ 4294967295) := by rw [Bool.eq_iff_iff]; simp
  rw [e1, e2, e3, e4]
  ac_rfl
theorem goodW_yesD {m : Wm} (h : ¬(m.kind < 1 ∨ 19 < m.kind)) : goodW m = if goodD m = true then 0 else 4 := by
  unfold goodW
  rw [if_neg h, goodD_eq]
theorem all_step {α : Type} {l : List α} {p : α → Bool} {i : Nat} (hi : i < l.length) (hq : ∀ q (h : q < l.length), q < i → p l[q] = true) : p l[i] = true → ∀ q (h : q < l.length), q < i + 1 → p l[q] = true := fun h q hl hq' => by
  rcases Nat.lt_or_eq_of_le (Nat.le_of_lt_succ hq') with h' | rfl
  · exact hq q hl h'
  · exact h
theorem all_done {α : Type} {l : List α} {p : α → Bool} (hq : ∀ q (h : q < l.length), q < l.length → p l[q] = true) : l.all p = true := List.all_eq_true.2 fun x hx => by
  obtain ⟨q, h, rfl⟩ := List.getElem_of_mem hx
  exact hq q h h
theorem rgood16_any (m : Wm) (a b c : Nat) (hl : m.peers.length ≤ 1099511627776 ∧ m.marks.length ≤ 1099511627776 ∧ m.ents.length ≤ 1099511627776) : ACall Tryz.prog 15 [WmA m 0 a 1 b 2 c] [.cells true (Ri a m.peers), .cells true (Rm b m.marks), .cells true (Re c m.ents)] (Det (I (goodW m)) [.cells true (Ri a m.peers), .cells true (Rm b m.marks), .cells true (Re c m.ents)]) := by
  have hi := ri_ren
  have hm := rm_ren
  have he := re_ren
  by_cases k1 : m.kind < 1
  · have g1 : (m.kind < 1) = True := eq_true k1
    have e : goodW m = 1 := by unfold goodW; rw [if_pos (.inl k1)]
    rw [e]
    refine ACall.startA c15_ok Tryz.func15 rfl Tryz.ntmps15 (by kernel_rfl) res15_ok rfl rfl rfl ?_; simp (maxSteps := 9999999) (disch := omega) only [go_sem]
    (have k9 := And.intro @hi (And.intro @hm (And.intro @he (And.intro @g1 (k0)))); refine goK ?_; (try clear k9))
    (have k9 := And.intro @hi (And.intro @hm (And.intro @he (k0))); exact Ret.dk [0, 1, 2])
  by_cases k2 : 19 < m.kind
  · have g1 : (m.kind < 1) = False := eq_false k1
    have g2 : (19 < m.kind) = True := eq_true k2
    have e : goodW m = 1 := by unfold goodW; rw [if_pos (.inr k2)]
    rw [e]
    refine ACall.startA c15_ok Tryz.func15 rfl Tryz.ntmps15 (by kernel_rfl) res15_ok rfl rfl rfl ?_; simp (maxSteps := 9999999) (disch := omega) only [go_sem]
    (have k9 := And.intro @hi (And.intro @hm (And.intro @he (And.intro @g1 (And.intro @g2 (k0))))); refine goK ?_; (try clear k9))
    (have k9 := And.intro @hi (And.intro @hm (And.intro @he (k0))); exact Ret.dk [0, 1, 2])
  have g1 : (m.kind < 1) = False := eq_false k1
  have g2 : (19 < m.kind) = False := eq_false k2
  rw [goodW_yesD (by omega)]
  unfold goodD
  have c1 := counts_any m a b c
  have c2 := fields_any m a b c
  have c3 := site_any m.peer
  have c4 := rgoodmk_any m.mark
  have hLi := ri_len a m.peers
  have hLm := rm_len b m.marks
  have hLe := re_len c m.ents
  generalize cntD m = q1 at *
  generalize bareW m = q2 at *
  generalize siteB m.peer = q3 at *
  generalize goodMk m.mark = q4 at *
  have e2 : ∀ x : Bool, (q1 && (q2 && (q3 && (!decide (m.hops < 0) && (!decide (8 < m.hops) && (!decide (m.num < 0) && (!decide (4294967295 < m.num) && ((mkE m.mark noMk || q4) && x)))))))) = ((q1 && (q2 && (q3 && (!decide (m.hops < 0) && (!decide (8 < m.hops) && (!decide (m.num < 0) && (!decide (4294967295 < m.num) && (mkE m.mark noMk || q4)))))))) && x) := fun x => by ac_rfl
  rw [e2]
  cases hh1 : (q1 && (q2 && (q3 && (!decide (m.hops < 0) && (!decide (8 < m.hops) && (!decide (m.num < 0) && (!decide (4294967295 < m.num) && (mkE m.mark noMk || q4)))))))) with
  | false =>
    rw [Bool.false_and, if_neg (by decide)]
    clear e2
    refine ACall.startA c15_ok Tryz.func15 rfl Tryz.ntmps15 (by kernel_rfl) res15_ok rfl rfl rfl ?_; simp (maxSteps := 9999999) (disch := omega) only [go_sem]
    (have k9 := And.intro @hi (And.intro @hm (And.intro @he (And.intro @g1 (And.intro @g2 (k0))))); have a1 := Arm.mk [0, 1, 2] c1; have a2 := Arm.mk [0, 1, 2] c2; have a3 := Arm.mk [] c3; have a4 := Arm.mk [] c4; (repeat' (first | refine goM ?_ | ((first | refine CondP.split (fun hif => ?_) (fun hif => ?_) | refine Runs.part (fun hif => ?_) (fun hif => ?_)) <;> ((try simp only [BL] at hif); first | (exfalso; omega; done) | refine goI ?_)))); (all_goals (try clear k9)); (all_goals (try clear a1)); (all_goals (try clear a2)); (all_goals (try clear a3)); (all_goals (try clear a4)))
    all_goals (first | (exfalso; simp_all; done) | ((have k9 := And.intro @hi (And.intro @hm (And.intro @he (k0))); exact Ret.dk [0, 1, 2]); done))
  | true =>
    rw [Bool.true_and]
    clear e2
    simp only [Bool.and_eq_true, Bool.not_eq_true', decide_eq_false_iff_not, Bool.or_eq_true] at hh1
    obtain ⟨rfl, rfl, rfl, h4, h5, h6, h7, h8⟩ := hh1
    have k4 : (m.hops < 0) = False := eq_false h4
    have k5 : (8 < m.hops) = False := eq_false h5
    have k6 : (m.num < 0) = False := eq_false h6
    have k7 : (4294967295 < m.num) = False := eq_false h7
    have hrest : AWpA Tryz.prog 100 (NN.plain 3) c15_24 (ABlock 0 (AThen (fun x => AWpA Tryz.prog 100 (NN.plain 3) c15_37 (RetPost (NN.plain 3) [(2, none)] [.cells true (Ri a m.peers), .cells true (Rm b m.marks), .cells true (Re c m.ents)] (Det (I (if alls m = true then 0 else 4)) [.cells true (Ri a m.peers), .cells true (Rm b m.marks), .cells true (Re c m.ents)])) x) (RetPost (NN.plain 3) [(2, none)] [.cells true (Ri a m.peers), .cells true (Rm b m.marks), .cells true (Re c m.ents)] (Det (I (if alls m = true then 0 else 4)) [.cells true (Ri a m.peers), .cells true (Rm b m.marks), .cells true (Re c m.ents)]))))
        (Am.mk [(1, .ptr 3 0), (3, I 0)] none0 (zipI 0 [.cells true (Ri a m.peers), .cells true (Rm b m.marks), .cells true (Re c m.ents), .cells false (WmL m 0 a 1 b 2 c)]) gone0 [AObj.cells true (Ri a m.peers), .cells true (Rm b m.marks), .cells true (Re c m.ents), .cells false (WmL m 0 a 1 b 2 c)].length) := by
      clear c1 c2 c3 c4 h4 h5 h6 h7 h8 k4 k5 k6 k7 g1 g2 k1 k2
      (try simp (maxSteps := 9999999) (disch := omega) only [go_sem])
      (apply AWpA.loopL (fun i : Nat => [(1, .ptr 3 0), (3, I i)]) (fun i => [.cells true (Ri a m.peers), .cells true (Rm b m.marks), .cells true (Re c m.ents), .cells false (WmL m 0 a 1 b 2 c)]) (fun i => m.peers.length - i) (fun i => i ≤ m.peers.length ∧ ∀ q (h : q < m.peers.length), q < i → nodeB m.peers[q] = true) (0) [0, 1, 2, 3]; rotate_left; (focus (simp (maxSteps := 9999999) (disch := omega) only [go_sem, hi, hm, he]; (try (repeat' (first | done | trivial | rfl | exact leAs_rfl _ | decide | (refine And.intro ?_ ?_) | (simp; done) | omega | (simp; decide)))))); rotate_right)
      · exact ⟨Nat.zero_le _, fun q h hq => by omega⟩
      rintro i ⟨hil, hq⟩
      (try simp only at hil hq)
      by_cases hin : i < m.peers.length
      · have g1 : ((i : Int) < (m.peers.length : Int)) = True := eq_true (by omega)
        have hat := ri_at a m.peers i hin
        have c1 := site_any m.peers[i]
        rw [site_node] at c1
        have hno : nodeB m.peers[i] = false → alls m = false := fun h => by unfold alls; rw [List.all_eq_false.2 ⟨_, List.getElem_mem hin, by simp [h]⟩]; rfl
        have hst := all_step (p := nodeB) hin hq
        clear hq
        generalize m.peers[i] = x at *
        cases hb : nodeB x with
        | false =>
          rw [hb] at c1
          rw [hno hb, if_neg (by decide)]
          clear hno hst
          (try simp (maxSteps := 9999999) (disch := omega) only [go_sem])
          (have k9 := And.intro @hi (And.intro @hm (And.intro @he (And.intro @hLi (And.intro @g1 (And.intro @hat (k0)))))); have a1 := Arm.mk [] c1; refine goK ?_; (try clear k9); (try clear a1))
          (have k9 := And.intro @hi (And.intro @hm (And.intro @he (k0))); exact Ret.dk [0, 1, 2])
        | true =>
          rw [hb] at c1
          have hst := hst hb
          clear hno
          (try simp (maxSteps := 9999999) (disch := omega) only [go_sem])
          (have k9 := And.intro @hi (And.intro @hm (And.intro @he (And.intro @hLi (And.intro @g1 (And.intro @hat (k0)))))); have a1 := Arm.mk [] c1; refine goK ?_; (try clear k9); (try clear a1))
          (have k9 := And.intro @hi (And.intro @hm (And.intro @he (k0))); refine Back.tk (i + 1) [0, 1, 2, 3] ?_)
          exact ⟨by omega, hst⟩
      obtain rfl : i = m.peers.length := by omega
      have g1 : ((m.peers.length : Int) < (m.peers.length : Int)) = False := eq_false (by omega)
      have hA1 : m.peers.all nodeB = true := all_done hq
      clear hq
      (try simp (maxSteps := 9999999) (disch := omega) only [go_sem])
      (have k9 := And.intro @hi (And.intro @hm (And.intro @he (And.intro @g1 (k0)))); refine goK ?_; (try clear k9))
      (apply AWpA.loopL (fun i : Nat => [(1, .ptr 3 0), (4, I i)]) (fun i => [.cells true (Ri a m.peers), .cells true (Rm b m.marks), .cells true (Re c m.ents), .cells false (WmL m 0 a 1 b 2 c)]) (fun i => m.marks.length - i) (fun i => i ≤ m.marks.length ∧ ∀ q (h : q < m.marks.length), q < i → goodMk m.marks[q] = true) (0) [0, 1, 2, 3]; rotate_left; (focus (simp (maxSteps := 9999999) (disch := omega) only [go_sem, hi, hm, he]; (try (repeat' (first | done | trivial | rfl | exact leAs_rfl _ | decide | (refine And.intro ?_ ?_) | (simp; done) | omega | (simp; decide)))))); rotate_right)
      · exact ⟨Nat.zero_le _, fun q h hq => by omega⟩
      rintro i ⟨hil, hq⟩
      (try simp only at hil hq)
      by_cases hin : i < m.marks.length
      · have g1 : ((i : Int) < (m.marks.length : Int)) = True := eq_true (by omega)
        have hat := rm_at b m.marks i hin
        have c1 := rgoodmk_any m.marks[i]
        have hno : goodMk m.marks[i] = false → alls m = false := fun h => by unfold alls; rw [List.all_eq_false.2 ⟨_, List.getElem_mem hin, by simp [h]⟩, Bool.false_and, Bool.and_false]
        have hst := all_step (p := goodMk) hin hq
        clear hq
        generalize m.marks[i] = x at *
        cases hb : goodMk x with
        | false =>
          rw [hb] at c1
          rw [hno hb, if_neg (by decide)]
          clear hno hst
          (try simp (maxSteps := 9999999) (disch := omega) only [go_sem])
          (have k9 := And.intro @hi (And.intro @hm (And.intro @he (And.intro @hLm (And.intro @g1 (And.intro @hat (k0)))))); have a1 := Arm.mk [] c1; refine goK ?_; (try clear k9); (try clear a1))
          (have k9 := And.intro @hi (And.intro @hm (And.intro @he (k0))); exact Ret.dk [0, 1, 2])
        | true =>
          rw [hb] at c1
          have hst := hst hb
          clear hno
          (try simp (maxSteps := 9999999) (disch := omega) only [go_sem])
          (have k9 := And.intro @hi (And.intro @hm (And.intro @he (And.intro @hLm (And.intro @g1 (And.intro @hat (k0)))))); have a1 := Arm.mk [] c1; refine goK ?_; (try clear k9); (try clear a1))
          (have k9 := And.intro @hi (And.intro @hm (And.intro @he (k0))); refine Back.tk (i + 1) [0, 1, 2, 3] ?_)
          exact ⟨by omega, hst⟩
      obtain rfl : i = m.marks.length := by omega
      have g1 : ((m.marks.length : Int) < (m.marks.length : Int)) = False := eq_false (by omega)
      have hA2 : m.marks.all goodMk = true := all_done hq
      clear hq
      (try simp (maxSteps := 9999999) (disch := omega) only [go_sem])
      (have k9 := And.intro @hi (And.intro @hm (And.intro @he (And.intro @g1 (k0)))); refine goK ?_; (try clear k9))
      (apply AWpA.loopL (fun i : Nat => [(1, .ptr 3 0), (5, I i)]) (fun i => [.cells true (Ri a m.peers), .cells true (Rm b m.marks), .cells true (Re c m.ents), .cells false (WmL m 0 a 1 b 2 c)]) (fun i => m.ents.length - i) (fun i => i ≤ m.ents.length ∧ ∀ q (h : q < m.ents.length), q < i → (checkI m.ents[q] == 0) = true) (0) [0, 1, 2, 3]; rotate_left; (focus (simp (maxSteps := 9999999) (disch := omega) only [go_sem, hi, hm, he]; (try (repeat' (first | done | trivial | rfl | exact leAs_rfl _ | decide | (refine And.intro ?_ ?_) | (simp; done) | omega | (simp; decide)))))); rotate_right)
      · exact ⟨Nat.zero_le _, fun q h hq => by omega⟩
      rintro i ⟨hil, hq⟩
      (try simp only at hil hq)
      by_cases hin : i < m.ents.length
      · have g1 : ((i : Int) < (m.ents.length : Int)) = True := eq_true (by omega)
        have hat := re_at c m.ents i hin
        have c1 := rcheck_any m.ents[i]
        have hno : (checkI m.ents[i] == 0) = false → alls m = false := fun h => by
          unfold alls
          have hz : (m.ents.all fun e => checkI e == 0) = false := List.all_eq_false.2 ⟨_, List.getElem_mem hin, by simp only [h]; decide⟩
          rw [hz, Bool.and_false, Bool.and_false]
        have hst := all_step (p := fun e => checkI e == 0) hin hq
        clear hq
        generalize m.ents[i] = x at *
        generalize checkI x = ck at *
        cases hb : (ck == 0) with
        | false =>
          have hb2 : (ck != 0) = true := by rw [bne, hb]; rfl
          rw [hno hb, if_neg (by decide)]
          clear hno hst
          (try simp (maxSteps := 9999999) (disch := omega) only [go_sem])
          (have k9 := And.intro @hi (And.intro @hm (And.intro @he (And.intro @hLe (And.intro @g1 (And.intro @hat (And.intro @hb2 (k0))))))); have a1 := Arm.mk [] c1; refine goK ?_; (try clear k9); (try clear a1))
          (have k9 := And.intro @hi (And.intro @hm (And.intro @he (k0))); exact Ret.dk [0, 1, 2])
        | true =>
          have hb2 : (ck != 0) = false := by rw [bne, hb]; rfl
          have hst := hst hb
          clear hno
          (try simp (maxSteps := 9999999) (disch := omega) only [go_sem])
          (have k9 := And.intro @hi (And.intro @hm (And.intro @he (And.intro @hLe (And.intro @g1 (And.intro @hat (And.intro @hb2 (k0))))))); have a1 := Arm.mk [] c1; refine goK ?_; (try clear k9); (try clear a1))
          (have k9 := And.intro @hi (And.intro @hm (And.intro @he (k0))); refine Back.tk (i + 1) [0, 1, 2, 3] ?_)
          exact ⟨by omega, hst⟩
      obtain rfl : i = m.ents.length := by omega
      have g1 : ((m.ents.length : Int) < (m.ents.length : Int)) = False := eq_false (by omega)
      have hA3 : (m.ents.all fun e => checkI e == 0) = true := all_done hq
      have hA : alls m = true := by unfold alls; rw [hA1, hA2, hA3]; rfl
      rw [hA, if_pos rfl]
      clear hq
      (try simp (maxSteps := 9999999) (disch := omega) only [go_sem])
      (have k9 := And.intro @hi (And.intro @hm (And.intro @he (And.intro @g1 (k0)))); refine goK ?_; (try clear k9))
      (have k9 := And.intro @hi (And.intro @hm (And.intro @he (k0))); exact Ret.dk [0, 1, 2])
    cases hmk : mkE m.mark noMk with
    | true =>
      refine ACall.startA c15_ok Tryz.func15 rfl Tryz.ntmps15 (by kernel_rfl) res15_ok rfl rfl rfl ?_; simp (maxSteps := 9999999) (disch := omega) only [go_sem]
      (have k9 := And.intro @hi (And.intro @hm (And.intro @he (And.intro @g1 (And.intro @g2 (And.intro @k4 (And.intro @k5 (And.intro @k6 (And.intro @k7 (And.intro @hmk (k0)))))))))); have a1 := Arm.mk [0, 1, 2] c1; have a2 := Arm.mk [0, 1, 2] c2; have a3 := Arm.mk [] c3; have a4 := Arm.mk [] c4; (repeat' (first | refine goM ?_ | ((first | refine CondP.split (fun hif => ?_) (fun hif => ?_) | refine Runs.part (fun hif => ?_) (fun hif => ?_)) <;> ((try simp only [BL] at hif); first | (exfalso; omega; done) | refine goI ?_)))); (all_goals (try clear k9)); (all_goals (try clear a1)); (all_goals (try clear a2)); (all_goals (try clear a3)); (all_goals (try clear a4)))
      all_goals (refine AWpA.to [0, 1, 2, 3] (hrest) ?_; (focus (simp (maxSteps := 9999999) (disch := omega) only [go_sem, hi, hm, he]; (try (repeat' (first | done | trivial | rfl | exact leAs_rfl _ | decide | (refine And.intro ?_ ?_) | (simp; done) | omega | (simp; decide)))))))
    | false =>
      obtain rfl : q4 = true := h8.resolve_left (fun hx => by
        have hy : mkE m.mark noMk = true := by simp only [mkE, noMk, hx.1, hx.2.1, hx.2.2, Bool.and_self]
        rw [hmk] at hy; cases hy)
      refine ACall.startA c15_ok Tryz.func15 rfl Tryz.ntmps15 (by kernel_rfl) res15_ok rfl rfl rfl ?_; simp (maxSteps := 9999999) (disch := omega) only [go_sem]
      (have k9 := And.intro @hi (And.intro @hm (And.intro @he (And.intro @g1 (And.intro @g2 (And.intro @k4 (And.intro @k5 (And.intro @k6 (And.intro @k7 (And.intro @hmk (k0)))))))))); have a1 := Arm.mk [0, 1, 2] c1; have a2 := Arm.mk [0, 1, 2] c2; have a3 := Arm.mk [] c3; have a4 := Arm.mk [] c4; (repeat' (first | refine goM ?_ | ((first | refine CondP.split (fun hif => ?_) (fun hif => ?_) | refine Runs.part (fun hif => ?_) (fun hif => ?_)) <;> ((try simp only [BL] at hif); first | (exfalso; omega; done) | refine goI ?_)))); (all_goals (try clear k9)); (all_goals (try clear a1)); (all_goals (try clear a2)); (all_goals (try clear a3)); (all_goals (try clear a4)))
      all_goals (refine AWpA.to [0, 1, 2, 3] (hrest) ?_; (focus (simp (maxSteps := 9999999) (disch := omega) only [go_sem, hi, hm, he]; (try (repeat' (first | done | trivial | rfl | exact leAs_rfl _ | decide | (refine And.intro ?_ ?_) | (simp; done) | omega | (simp; decide)))))))
end
end Go.Proofs.YtopidfkmligljaaGreat
