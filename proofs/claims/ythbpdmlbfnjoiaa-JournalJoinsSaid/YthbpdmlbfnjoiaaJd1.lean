/- The walk of JournalJoins. -/
import Derived.Test.YthbpdmlbfnjoiaaJc2
namespace Go.Proofs.Ythbpdmlbfnjoiaa
set_option linter.unusedSimpArgs false
set_option linter.unusedVariables false
set_option maxHeartbeats 4000000
open Go Go.Am Go.RowKit Go.ChangeShapes Go.WideShapes Go.ChangeAt Go.Crc
set_option linter.unusedSimpArgs false
set_option maxHeartbeats 4000000
set_option maxRecDepth 100000
/- quidnunc/quidnunclaw07.JournalJoins -/
noncomputable def c10_1 : ACode := .region false [⟨some 4, .move, [.c (.val (.bool false))], none⟩] [] [] [0, 1] false [] []
noncomputable def c10_4 : ACode := .region false [⟨some 20, .call 24, [], none⟩,
  ⟨some 21, .un .not, [.t 20], none⟩,
  ⟨some 22, .move, [.t 21], none⟩,
  ⟨some 23, .move, [.t 0], some (some 22, false)⟩,
  ⟨some 24, .call 31, [.t 23], some (some 22, false)⟩,
  ⟨some 25, .un .not, [.t 24], some (some 22, false)⟩,
  ⟨some 26, .pick, [.t 22, .c (.val (.bool true)), .t 25], none⟩,
  ⟨some 27, .move, [.t 26], none⟩,
  ⟨some 28, .move, [.t 1], some (some 27, false)⟩,
  ⟨some 29, .call 31, [.t 28], some (some 27, false)⟩,
  ⟨some 30, .un .not, [.t 29], some (some 27, false)⟩,
  ⟨some 31, .pick, [.t 27, .c (.val (.bool true)), .t 30], none⟩] [] [] [0, 1, 31] true [] []
noncomputable def c10_7 : ACode := .region false [⟨some 32, .call 24, [], none⟩,
  ⟨some 4, .move, [.t 32], none⟩] [] [] [4] true [] []
noncomputable def c10_6 : ACode := .seq c10_7 .ret
noncomputable def c10_5 : ACode := .cond (.t 31) c10_6 .skip
noncomputable def c10_3 : ACode := .seq c10_4 c10_5
noncomputable def c10_9 : ACode := .region false [⟨some 33, .call 32, [], none⟩,
  ⟨some 5, .move, [.t 33], none⟩] [] [] [0, 1, 5] true [] []
noncomputable def c10_11 : ACode := .region false [⟨some 6, .move, [.c (.val (.slice none 0 0))], none⟩] [] [] [0, 1, 5, 6] false [] []
noncomputable def c10_13 : ACode := .region false [⟨some 7, .move, [.c (.val (.slice none 0 0))], none⟩] [] [] [0, 1, 5, 6, 7] false [] []
noncomputable def c10_16 : ACode := .region false [⟨some 34, .buildSl 1 0 [(.slice none 0 0)] [], [], none⟩,
  ⟨some 35, .move, [.t 0], none⟩,
  ⟨some 36, .append 1 24 false, [.t 34, .t 35], none⟩,
  ⟨some 37, .move, [.t 1], none⟩,
  ⟨some 38, .append 1 24 false, [.t 36, .t 37], none⟩,
  ⟨some 39, .len, [.t 38], none⟩,
  ⟨some 40, .move, [.c (.val (.int .i64 0))], none⟩] [] [] [5, 6, 7, 38, 39, 40] true [] []
noncomputable def c10_20 : ACode := .region false [⟨some 41, .bin .lss, [.t 40, .t 39], none⟩] [] [] [5, 6, 7, 38, 39, 40, 41] false [] []
noncomputable def c10_22 : ACode := .cond (.t 41) .skip (.exit 0)
noncomputable def c10_26 : ACode := .region false [⟨some 42, .ixS 1, [.t 38, .t 40], none⟩,
  ⟨some 43, .load false 1, [.t 42], none⟩,
  ⟨some 9, .move, [.t 43], none⟩] [] [] [5, 6, 7, 9, 38, 39, 40] false [] []
noncomputable def c10_28 : ACode := .region false [⟨some 45, .move, [.t 5], none⟩,
  ⟨some 46, .call 35, [.t 45], none⟩,
  ⟨some 44, .move, [.t 46], none⟩,
  ⟨some 47, .ext 0, [.t 44], none⟩,
  ⟨some 48, .ext 1, [.t 44], none⟩,
  ⟨some 49, .ext 2, [.t 44], none⟩,
  ⟨some 10, .move, [.t 47], none⟩,
  ⟨some 11, .move, [.t 48], none⟩,
  ⟨some 12, .move, [.t 49], none⟩] [] [] [5, 6, 7, 9, 10, 11, 12, 38, 39, 40] true [] []
noncomputable def c10_31 : ACode := .region false [⟨some 50, .move, [.t 12], none⟩,
  ⟨some 51, .bin .neq, [.t 50, .c (.val (.int .i64 0))], none⟩,
  ⟨some 52, .move, [.t 51], none⟩,
  ⟨some 53, .move, [.t 10], some (some 52, false)⟩,
  ⟨some 54, .eqP false, [.t 53, .c (.val (.pointer none))], some (some 52, false)⟩,
  ⟨some 55, .pick, [.t 52, .c (.val (.bool true)), .t 54], none⟩,
  ⟨some 56, .move, [.t 55], none⟩,
  ⟨some 57, .move, [.t 11], some (some 56, false)⟩,
  ⟨some 58, .move, [.t 7], some (some 56, false)⟩,
  ⟨some 59, .call 30, [.t 57, .t 58], some (some 56, false)⟩,
  ⟨some 60, .un .not, [.t 59], some (some 56, false)⟩,
  ⟨some 61, .pick, [.t 56, .c (.val (.bool true)), .t 60], none⟩,
  ⟨some 62, .move, [.t 61], none⟩,
  ⟨some 63, .move, [.t 10], some (some 62, false)⟩,
  ⟨some 64, .call 39, [.t 63], some (some 62, false)⟩,
  ⟨some 65, .move, [.t 7], some (some 62, false)⟩,
  ⟨some 66, .len, [.t 65], some (some 62, false)⟩,
  ⟨some 67, .bin .neq, [.t 64, .t 66], some (some 62, false)⟩,
  ⟨some 68, .pick, [.t 62, .c (.val (.bool true)), .t 67], none⟩] [] [] [5, 6, 7, 9, 10, 38, 39, 40, 68] true [] []
noncomputable def c10_34 : ACode := .region false [⟨some 4, .move, [.c (.val (.bool false))], none⟩] [] [] [4] false [] []
noncomputable def c10_33 : ACode := .seq c10_34 .ret
noncomputable def c10_32 : ACode := .cond (.t 68) c10_33 .skip
noncomputable def c10_30 : ACode := .seq c10_31 c10_32
noncomputable def c10_36 : ACode := .region false [⟨some 70, .move, [.t 9], none⟩,
  ⟨some 71, .call 25, [.t 70], none⟩,
  ⟨some 69, .move, [.t 71], none⟩,
  ⟨some 72, .ext 0, [.t 69], none⟩,
  ⟨some 73, .ext 1, [.t 69], none⟩,
  ⟨some 13, .move, [.t 72], none⟩,
  ⟨some 14, .move, [.t 73], none⟩] [] [] [5, 6, 7, 9, 10, 13, 14, 38, 39, 40] true [] []
noncomputable def c10_39 : ACode := .region false [⟨some 74, .move, [.t 10], none⟩,
  ⟨some 75, .move, [.t 9], none⟩,
  ⟨some 76, .call 40, [.t 74, .t 75], none⟩,
  ⟨some 77, .move, [.t 14], none⟩,
  ⟨some 78, .bin .neq, [.t 76, .t 77], none⟩] [] [] [5, 6, 7, 9, 13, 14, 38, 39, 40, 78] true [] []
noncomputable def c10_42 : ACode := .region false [⟨some 4, .move, [.c (.val (.bool false))], none⟩] [] [] [4] false [] []
noncomputable def c10_41 : ACode := .seq c10_42 .ret
noncomputable def c10_40 : ACode := .cond (.t 78) c10_41 .skip
noncomputable def c10_38 : ACode := .seq c10_39 c10_40
noncomputable def c10_44 : ACode := .region false [⟨some 79, .move, [.t 14], none⟩,
  ⟨some 80, .bin .eql, [.t 79, .c (.val (.int .i64 0))], none⟩] [] [] [5, 6, 7, 9, 13, 38, 39, 40, 80] false [] []
noncomputable def c10_47 : ACode := .region false [⟨some 81, .move, [.t 6], none⟩,
  ⟨some 82, .move, [.t 13], none⟩,
  ⟨some 83, .append 1 1 false, [.t 81, .t 82], none⟩,
  ⟨some 6, .move, [.t 83], none⟩] [] [] [5, 6, 7, 9, 38, 39, 40] true [] []
noncomputable def c10_48 : ACode := .region false [⟨some 84, .move, [.t 7], none⟩,
  ⟨some 85, .move, [.t 9], none⟩,
  ⟨some 86, .buildSl 1 1 [(.slice none 0 0)] [(0, 1)], [.t 85], none⟩,
  ⟨some 87, .append 1 24 false, [.t 84, .t 86], none⟩,
  ⟨some 7, .move, [.t 87], none⟩] [] [] [5, 6, 7, 38, 39, 40] true [] []
noncomputable def c10_46 : ACode := .seq c10_47 c10_48
noncomputable def c10_45 : ACode := .cond (.t 80) c10_46 .skip
noncomputable def c10_43 : ACode := .seq c10_44 c10_45
noncomputable def c10_37 : ACode := .seq c10_38 c10_43
noncomputable def c10_35 : ACode := .seq c10_36 c10_37
noncomputable def c10_29 : ACode := .seq c10_30 c10_35
noncomputable def c10_27 : ACode := .seq c10_28 c10_29
noncomputable def c10_25 : ACode := .seq c10_26 c10_27
noncomputable def c10_24 : ACode := .block 1 c10_25
noncomputable def c10_49 : ACode := .region false [⟨some 88, .bin .add, [.t 40, .c (.val (.int .i64 1))], none⟩,
  ⟨some 40, .move, [.t 88], none⟩] [] [] [5, 6, 7, 38, 39, 40] false [] []
noncomputable def c10_23 : ACode := .seq c10_24 c10_49
noncomputable def c10_21 : ACode := .seq c10_22 c10_23
noncomputable def c10_19 : ACode := .seq c10_20 c10_21
noncomputable def c10_18 : ACode := .loop c10_19
noncomputable def c10_17 : ACode := .block 0 c10_18
noncomputable def c10_15 : ACode := .seq c10_16 c10_17
noncomputable def c10_51 : ACode := .region false [⟨some 90, .move, [.t 6], none⟩,
  ⟨some 91, .call 28, [.t 90], none⟩,
  ⟨some 89, .move, [.t 91], none⟩,
  ⟨some 92, .ext 0, [.t 89], none⟩,
  ⟨some 93, .ext 1, [.t 89], none⟩,
  ⟨some 94, .ext 2, [.t 89], none⟩,
  ⟨some 15, .move, [.t 92], none⟩,
  ⟨some 16, .move, [.t 93], none⟩,
  ⟨some 17, .move, [.t 94], none⟩] [] [] [5, 6, 7, 15, 16, 17] true [] []
noncomputable def c10_53 : ACode := .region false [⟨some 96, .move, [.t 5], none⟩,
  ⟨some 97, .call 38, [.t 96], none⟩,
  ⟨some 95, .move, [.t 97], none⟩,
  ⟨some 98, .ext 0, [.t 95], none⟩,
  ⟨some 99, .ext 1, [.t 95], none⟩,
  ⟨some 18, .move, [.t 98], none⟩,
  ⟨some 19, .move, [.t 99], none⟩] [] [] [5, 6, 7, 15, 16, 17, 18, 19] true [] []
noncomputable def c10_55 : ACode := .region false [⟨some 100, .move, [.t 17], none⟩,
  ⟨some 101, .bin .eql, [.t 100, .c (.val (.int .i64 0))], none⟩,
  ⟨some 102, .move, [.t 101], none⟩,
  ⟨some 103, .move, [.t 16], some (some 102, true)⟩,
  ⟨some 104, .move, [.t 6], some (some 102, true)⟩,
  ⟨some 105, .len, [.t 104], some (some 102, true)⟩,
  ⟨some 106, .bin .eql, [.t 103, .t 105], some (some 102, true)⟩,
  ⟨some 107, .pick, [.t 102, .t 106, .c (.val (.bool false))], none⟩,
  ⟨some 108, .move, [.t 107], none⟩,
  ⟨some 109, .move, [.t 15], some (some 108, true)⟩,
  ⟨some 110, .move, [.t 7], some (some 108, true)⟩,
  ⟨some 111, .call 30, [.t 109, .t 110], some (some 108, true)⟩,
  ⟨some 112, .pick, [.t 108, .t 111, .c (.val (.bool false))], none⟩,
  ⟨some 113, .move, [.t 112], none⟩,
  ⟨some 114, .move, [.t 19], some (some 113, true)⟩,
  ⟨some 115, .bin .eql, [.t 114, .c (.val (.int .i64 0))], some (some 113, true)⟩,
  ⟨some 116, .pick, [.t 113, .t 115, .c (.val (.bool false))], none⟩,
  ⟨some 117, .move, [.t 116], none⟩,
  ⟨some 118, .move, [.t 18], some (some 117, true)⟩,
  ⟨some 119, .toStr, [.t 118], some (some 117, true)⟩,
  ⟨some 120, .move, [.t 6], some (some 117, true)⟩,
  ⟨some 121, .toStr, [.t 120], some (some 117, true)⟩,
  ⟨some 122, .bin .eql, [.t 119, .t 121], some (some 117, true)⟩,
  ⟨some 123, .pick, [.t 117, .t 122, .c (.val (.bool false))], none⟩,
  ⟨some 124, .move, [.t 123], none⟩,
  ⟨some 125, .move, [.t 5], some (some 124, true)⟩,
  ⟨some 126, .call 41, [.t 125], some (some 124, true)⟩,
  ⟨some 127, .move, [.t 6], some (some 124, true)⟩,
  ⟨some 128, .len, [.t 127], some (some 124, true)⟩,
  ⟨some 129, .bin .eql, [.t 126, .t 128], some (some 124, true)⟩,
  ⟨some 130, .pick, [.t 124, .t 129, .c (.val (.bool false))], none⟩,
  ⟨some 4, .move, [.t 130], none⟩] [] [] [4] true [] []
noncomputable def c10_54 : ACode := .seq c10_55 .ret
noncomputable def c10_52 : ACode := .seq c10_53 c10_54
noncomputable def c10_50 : ACode := .seq c10_51 c10_52
noncomputable def c10_14 : ACode := .seq c10_15 c10_50
noncomputable def c10_12 : ACode := .seq c10_13 c10_14
noncomputable def c10_10 : ACode := .seq c10_11 c10_12
noncomputable def c10_8 : ACode := .seq c10_9 c10_10
noncomputable def c10_2 : ACode := .seq c10_3 c10_8
noncomputable def c10_0 : ACode := .seq c10_1 c10_2
noncomputable def code10 : Code := (Try.f10.body).getD .skip
theorem c10_ok : compC Try.prog 131 code10 = some (strip c10_0) := by kernel_rfl
theorem res10_ok : Try.f10.results.toList.mapM (resC Try.prog) = some [(4, none)] := by kernel_rfl
/-- The first told by what it holds. -/
theorem jsame2_any {P Q : List AV} {o o' : Nat} {l m : List (List Int)} (s : SegR P o l) (t : SegR Q o' m) (hl : ∀ r ∈ l, ∀ x ∈ r, 0 ≤ x ∧ x ≤ 255) (hm : ∀ r ∈ m, ∀ x ∈ r, 0 ≤ x ∧ x ≤ 255) :
    ACall Try.prog 30 [.sl 1 o l.length 1 none, .sl 0 o' m.length 1 none] [.cells true Q, .cells true P] (Det (Bo (decide (l = m))) [.cells true Q, .cells true P]) := by
  have s1 := s.le
  have s2 := t.le
  have s3 := s.small
  have s4 := t.small
  by_cases hlen : l.length = m.length
  · have g0 : ((l.length : Int) != (m.length : Int)) = false := by simp [hlen]
    refine ACall.startA c30_ok Try.func30 rfl Try.ntmps30 (by kernel_rfl) res30_ok rfl rfl rfl ?_; simp (maxSteps := 9999999) (disch := omega) only [go_sem]
    (have k9 := And.intro @s.ren (And.intro @t.ren (And.intro @g0 (k0))); (repeat' (first | refine AWpA.seq ?_ | refine AWpA.block ?_ | (with_reducible refine CondP.tt ?_) | (with_reducible refine CondP.ff ?_) | refine AWpA.cg ?_ | ((first | refine AWpA.rg ?_ | refine AWpA.dg [] [] follows ?_ | refine TailK.tg ?_ | refine AWpA.skip ?_ | refine AWpA.exit ?_ | refine AWpA.ret ?_ | (with_reducible refine ARoundsA.succ ?_) | ((first | refine Runs.gkt (fun h9 => ?_) | refine Runs.gkf (fun h9 => ?_) | refine Runs.gnt (fun h9 => ?_) | refine Runs.gnf (fun h9 => ?_) | refine CondP.gt (fun h9 => ?_) | refine CondP.gf (fun h9 => ?_) | refine CondP.gnt (fun h9 => ?_) | refine CondP.gnf (fun h9 => ?_)); (try simp only [h9]); clear h9)); (try simp (maxSteps := 9999999) (disch := omega) only [go_sem, k9]); (try refine cnd ?_)) | ((first | refine CondP.split (fun hif => ?_) (fun hif => ?_) | refine Runs.part (fun hif => ?_) (fun hif => ?_)) <;> ((try simp only [hif]); (try simp only [BL] at hif); (try (have h9 : _ = true := hif; simp only [h9])); (try (have h9 : _ = false := hif; simp only [h9])); (try simp (maxSteps := 9999999) (disch := omega) only [go_sem, k9]); (try refine cnd ?_); (try (exfalso; omega; done)))))); (all_goals (try clear k9)))
    (apply AWpA.loopL (fun i : Nat => [(0, .sl 1 o l.length 1 none), (1, .sl 0 o' m.length 1 none), (5, I i)]) (fun i => [.cells true Q, .cells true P]) (fun i => l.length - i) (fun i => i ≤ l.length ∧ l.take i = m.take i) (0) [0, 1]; rotate_left; (focus (simp (maxSteps := 9999999) (disch := omega) only [go_sem, s.ren, t.ren]; (try (repeat' (first | done | trivial | rfl | exact leAs_rfl _ | decide | (refine And.intro ?_ ?_) | (simp; done) | omega | (simp; decide)))))); rotate_right)
    · exact ⟨Nat.zero_le _, rfl⟩
    rintro i ⟨hi, hp⟩
    (try simp only at hi)
    by_cases hin : i < l.length
    · have g1 : ((i : Int) < (l.length : Int)) = True := eq_true (by omega)
      have g6 : ((i : Int) < (m.length : Int)) = True := eq_true (by omega)
      have hin2 : i < m.length := by omega
      have g2 := s.at i hin
      have g3 := t.at i hin2
      have e1 : l.take (i + 1) = l.take i ++ [l[i]] := by rw [List.take_add_one, List.getElem?_eq_getElem hin]; rfl
      have e2 : m.take (i + 1) = m.take i ++ [m[i]] := by rw [List.take_add_one, List.getElem?_eq_getElem hin2]; rfl
      have e3 : l = m → l[i] = m[i] := fun h => by subst h; rfl
      have hb1 := hl _ (List.getElem_mem hin)
      have hb2 := hm _ (List.getElem_mem hin2)
      generalize l[i] = x at g2 e1 e3 hb1
      generalize m[i] = y at g3 e2 e3 hb2
      have g4 : (ByteArray.mk (toB x).toArray != ByteArray.mk (toB y).toArray) = !decide (x = y) := by unfold bne; rw [ba_beq hb1 hb2]
      by_cases hxy : x = y
      · rw [decide_eq_true hxy] at g4
        (try simp (maxSteps := 9999999) (disch := omega) only [go_sem])
        (have k9 := And.intro @g1 (And.intro @g6 (And.intro @s.ren (And.intro @t.ren (And.intro @g2 (And.intro @g3 (And.intro @g4 (k0))))))); (repeat' (first | refine AWpA.seq ?_ | refine AWpA.block ?_ | (with_reducible refine CondP.tt ?_) | (with_reducible refine CondP.ff ?_) | refine AWpA.cg ?_ | ((first | refine AWpA.rg ?_ | refine AWpA.dg [] [] follows ?_ | refine TailK.tg ?_ | refine AWpA.skip ?_ | refine AWpA.exit ?_ | refine AWpA.ret ?_ | (with_reducible refine ARoundsA.succ ?_) | ((first | refine Runs.gkt (fun h9 => ?_) | refine Runs.gkf (fun h9 => ?_) | refine Runs.gnt (fun h9 => ?_) | refine Runs.gnf (fun h9 => ?_) | refine CondP.gt (fun h9 => ?_) | refine CondP.gf (fun h9 => ?_) | refine CondP.gnt (fun h9 => ?_) | refine CondP.gnf (fun h9 => ?_)); (try simp only [h9]); clear h9)); (try simp (maxSteps := 9999999) (disch := omega) only [go_sem, k9]); (try refine cnd ?_)) | ((first | refine CondP.split (fun hif => ?_) (fun hif => ?_) | refine Runs.part (fun hif => ?_) (fun hif => ?_)) <;> ((try simp only [hif]); (try simp only [BL] at hif); (try (have h9 : _ = true := hif; simp only [h9])); (try (have h9 : _ = false := hif; simp only [h9])); (try simp (maxSteps := 9999999) (disch := omega) only [go_sem, k9]); (try refine cnd ?_); (try (exfalso; omega; done)))))); (all_goals (try clear k9)))
        (apply Back.to (i + 1) [0, 1]; (focus ((try simp (maxSteps := 9999999) (disch := omega) only [go_sem, s.ren, t.ren]); first | done | omega)); rotate_left; (focus (simp (maxSteps := 9999999) (disch := omega) only [go_sem, s.ren, t.ren]; (try (repeat' (first | done | trivial | rfl | exact leAs_rfl _ | decide | (refine And.intro ?_ ?_) | (simp; done) | omega | (simp; decide)))))))
        exact ⟨by omega, by rw [e1, e2, hp, hxy]⟩
      · have g5 : decide (l = m) = false := decide_eq_false fun h => hxy (e3 h)
        rw [decide_eq_false hxy] at g4
        (try simp (maxSteps := 9999999) (disch := omega) only [go_sem])
        (have k9 := And.intro @g1 (And.intro @g6 (And.intro @s.ren (And.intro @t.ren (And.intro @g2 (And.intro @g3 (And.intro @g4 (k0))))))); (repeat' (first | refine AWpA.seq ?_ | refine AWpA.block ?_ | (with_reducible refine CondP.tt ?_) | (with_reducible refine CondP.ff ?_) | refine AWpA.cg ?_ | ((first | refine AWpA.rg ?_ | refine AWpA.dg [] [] follows ?_ | refine TailK.tg ?_ | refine AWpA.skip ?_ | refine AWpA.exit ?_ | refine AWpA.ret ?_ | (with_reducible refine ARoundsA.succ ?_) | ((first | refine Runs.gkt (fun h9 => ?_) | refine Runs.gkf (fun h9 => ?_) | refine Runs.gnt (fun h9 => ?_) | refine Runs.gnf (fun h9 => ?_) | refine CondP.gt (fun h9 => ?_) | refine CondP.gf (fun h9 => ?_) | refine CondP.gnt (fun h9 => ?_) | refine CondP.gnf (fun h9 => ?_)); (try simp only [h9]); clear h9)); (try simp (maxSteps := 9999999) (disch := omega) only [go_sem, k9]); (try refine cnd ?_)) | ((first | refine CondP.split (fun hif => ?_) (fun hif => ?_) | refine Runs.part (fun hif => ?_) (fun hif => ?_)) <;> ((try simp only [hif]); (try simp only [BL] at hif); (try (have h9 : _ = true := hif; simp only [h9])); (try (have h9 : _ = false := hif; simp only [h9])); (try simp (maxSteps := 9999999) (disch := omega) only [go_sem, k9]); (try refine cnd ?_); (try (exfalso; omega; done)))))); (all_goals (try clear k9)))
        (apply Ret.det [0, 1]; (focus (first | exact .inl rfl | exact .inr rfl)); (focus (simp (maxSteps := 9999999) (disch := omega) only [go_sem, s.ren, t.ren, g5]; rfl)); (simp (maxSteps := 9999999) (disch := omega) only [go_sem, s.ren, t.ren, g5]; (try (repeat' (first | done | trivial | rfl | exact leAs_rfl _ | decide | (refine And.intro ?_ ?_) | (simp; done) | omega | (simp; decide))))))
    · obtain rfl : i = l.length := by omega
      have g5 : decide (l = m) = true := decide_eq_true (by rw [List.take_length, hlen, List.take_length] at hp; exact hp)
      (try simp (maxSteps := 9999999) (disch := omega) only [go_sem])
      (have k9 := k0; (repeat' (first | refine AWpA.seq ?_ | refine AWpA.block ?_ | (with_reducible refine CondP.tt ?_) | (with_reducible refine CondP.ff ?_) | refine AWpA.cg ?_ | ((first | refine AWpA.rg ?_ | refine AWpA.dg [] [] follows ?_ | refine TailK.tg ?_ | refine AWpA.skip ?_ | refine AWpA.exit ?_ | refine AWpA.ret ?_ | (with_reducible refine ARoundsA.succ ?_) | ((first | refine Runs.gkt (fun h9 => ?_) | refine Runs.gkf (fun h9 => ?_) | refine Runs.gnt (fun h9 => ?_) | refine Runs.gnf (fun h9 => ?_) | refine CondP.gt (fun h9 => ?_) | refine CondP.gf (fun h9 => ?_) | refine CondP.gnt (fun h9 => ?_) | refine CondP.gnf (fun h9 => ?_)); (try simp only [h9]); clear h9)); (try simp (maxSteps := 9999999) (disch := omega) only [go_sem, k9]); (try refine cnd ?_)) | ((first | refine CondP.split (fun hif => ?_) (fun hif => ?_) | refine Runs.part (fun hif => ?_) (fun hif => ?_)) <;> ((try simp only [hif]); (try simp only [BL] at hif); (try (have h9 : _ = true := hif; simp only [h9])); (try (have h9 : _ = false := hif; simp only [h9])); (try simp (maxSteps := 9999999) (disch := omega) only [go_sem, k9]); (try refine cnd ?_); (try (exfalso; omega; done)))))); (all_goals (try clear k9)))
      (apply Ret.det [0, 1]; (focus (first | exact .inl rfl | exact .inr rfl)); (focus (simp (maxSteps := 9999999) (disch := omega) only [go_sem, s.ren, t.ren, g5]; rfl)); (simp (maxSteps := 9999999) (disch := omega) only [go_sem, s.ren, t.ren, g5]; (try (repeat' (first | done | trivial | rfl | exact leAs_rfl _ | decide | (refine And.intro ?_ ?_) | (simp; done) | omega | (simp; decide))))))
  · have g0 : ((l.length : Int) != (m.length : Int)) = true := by simp; omega
    have g5 : decide (l = m) = false := decide_eq_false fun h => hlen (by rw [h])
    refine ACall.startA c30_ok Try.func30 rfl Try.ntmps30 (by kernel_rfl) res30_ok rfl rfl rfl ?_; simp (maxSteps := 9999999) (disch := omega) only [go_sem]
    (have k9 := And.intro @s.ren (And.intro @t.ren (And.intro @g0 (k0))); (repeat' (first | refine AWpA.seq ?_ | refine AWpA.block ?_ | (with_reducible refine CondP.tt ?_) | (with_reducible refine CondP.ff ?_) | refine AWpA.cg ?_ | ((first | refine AWpA.rg ?_ | refine AWpA.dg [] [] follows ?_ | refine TailK.tg ?_ | refine AWpA.skip ?_ | refine AWpA.exit ?_ | refine AWpA.ret ?_ | (with_reducible refine ARoundsA.succ ?_) | ((first | refine Runs.gkt (fun h9 => ?_) | refine Runs.gkf (fun h9 => ?_) | refine Runs.gnt (fun h9 => ?_) | refine Runs.gnf (fun h9 => ?_) | refine CondP.gt (fun h9 => ?_) | refine CondP.gf (fun h9 => ?_) | refine CondP.gnt (fun h9 => ?_) | refine CondP.gnf (fun h9 => ?_)); (try simp only [h9]); clear h9)); (try simp (maxSteps := 9999999) (disch := omega) only [go_sem, k9]); (try refine cnd ?_)) | ((first | refine CondP.split (fun hif => ?_) (fun hif => ?_) | refine Runs.part (fun hif => ?_) (fun hif => ?_)) <;> ((try simp only [hif]); (try simp only [BL] at hif); (try (have h9 : _ = true := hif; simp only [h9])); (try (have h9 : _ = false := hif; simp only [h9])); (try simp (maxSteps := 9999999) (disch := omega) only [go_sem, k9]); (try refine cnd ?_); (try (exfalso; omega; done)))))); (all_goals (try clear k9)))
    (apply Ret.det [0, 1]; (focus (first | exact .inl rfl | exact .inr rfl)); (focus (simp (maxSteps := 9999999) (disch := omega) only [go_sem, s.ren, t.ren, g5]; rfl)); (simp (maxSteps := 9999999) (disch := omega) only [go_sem, s.ren, t.ren, g5]; (try (repeat' (first | done | trivial | rfl | exact leAs_rfl _ | decide | (refine And.intro ?_ ?_) | (simp; done) | omega | (simp; decide))))))
theorem same_fs {Q : List AV} {o : Nat} {l m : List (List Int)} (hs : l.length ≤ 1099511627776) (t : SegR Q o m) (hl : ∀ r ∈ l, ∀ x ∈ r, 0 ≤ x ∧ x ≤ 255) (hm : ∀ r ∈ m, ∀ x ∈ r, 0 ≤ x ∧ x ≤ 255) :
    ACall Try.prog 30 [FL l, .sl 0 o m.length 1 none] [.cells true Q] (Det (Bo (decide (l = m))) [.cells true Q, .gone]) := by
  refine ACall.fzD (v := Bo (decide (l = m))) (H1 := [.cells true Q]) (H1' := [.cells true Q]) (N := []) (N' := []) 1 0 (by kernel_rfl) rfl rfl (fun n _ o ho hw => ?_) (fun off => ?_) rfl rfl ?_ rfl
  · simp only [List.mem_singleton] at ho; subst ho; simp only [renO, t.ren]
  · exact jsame2_any (SegR.zz off (by omega)) t hl hm
  · simp only [List.map_cons, List.map_nil, renO, t.ren]
theorem jjoins_loop (W : World) (LM : List (List Int)) (hLM : LM.length ≤ 40) (h600 : ∀ l ∈ LM, l.length ≤ 600) (hby : ∀ l ∈ LM, ∀ x ∈ l, 0 ≤ x ∧ x ≤ 255) :
    AWpA Try.prog 131 (topN W) c10_18 (ABlock 0 (AThen (fun x => AWpA Try.prog 131 (topN W) c10_50 (TopPost [(4, none)]) x) (TopPost [(4, none)])))
      (Am.mk [(5, .ptr 0 0), (6, .sl 2 0 0 1 none), (7, .sl 3 0 0 1 none), (38, .sl 4 0 LM.length 1 none), (39, I LM.length), (40, I 0)] none0 (zipI 0 [DkO 1 (DG []), .cells false [], .cells false [], .cells false [], .cells false (rowsB LM)]) gone0 [DkO 1 (DG []), .cells false [], .cells false [], .cells false [], .cells false (rowsB LM)].length) := by
  (try simp (maxSteps := 9999999) (disch := omega) only [go_sem])
  (apply AWpA.loopL (fun i : Nat => [(5, .ptr 0 0), (6, .sl 2 0 (catR (gd (LM.take i))).length 1 none), (7, .sl 3 0 (gd (LM.take i)).length 1 none), (38, .sl 4 0 LM.length 1 none), (39, I LM.length), (40, I i)]) (fun i => [DkO 1 (DG (gd (LM.take i))), .cells false (bA (catR (gd (LM.take i)))), .cells false (bA (catR (gd (LM.take i)))), .cells false (rowsB (gd (LM.take i))), .cells false (rowsB LM)]) (fun i => LM.length - i) (fun i => i ≤ LM.length) (0) [0, 1, 2, 3, 4]; rotate_left; (focus (simp (maxSteps := 9999999) (disch := omega) only [go_sem, List.take_zero, gd_nil, catR_nil, bA_nil, rowsB_nil, List.length_nil]; (try (repeat' (first | done | trivial | rfl | exact leAs_rfl _ | decide | (refine And.intro ?_ ?_) | (simp; done) | omega | (simp; decide)))))); rotate_right)
  · exact Nat.zero_le _
  rintro i hi
  (try simp only at hi)
  have hgl := gd_len (LM.take i)
  have htl : (LM.take i).length = i := by rw [List.length_take]; omega
  have hgg : ∀ l ∈ gd (LM.take i), goodR l := gd_good fun l hl => hby l (List.mem_of_mem_take hl)
  have hcb := catR_bound hgg
  have hge : ∀ l ∈ gd (LM.take i), recE l = 0 := fun l hl => (hgg l hl).1
  have hgb : ∀ r ∈ gd (LM.take i), ∀ x ∈ r, 0 ≤ x ∧ x ≤ 255 := fun r hr => (hgg r hr).2
  by_cases hin : i < LM.length
  · have g2 : ((i : Int) < (LM.length : Int)) = True := eq_true (by omega)
    have g3 := rowsB_getD hin
    have g4 := gd_take hin
    have hb := hby LM[i] (List.getElem_mem hin)
    have hl6 := h600 LM[i] (List.getElem_mem hin)
    generalize LM[i] = c at g3 g4 hb hl6
    generalize gd (LM.take i) = g at *
    have c1 := rec_any c (by omega) hb
    obtain ⟨q1, q2, q3⟩ := open_good hge
    have o1 := opens_ok (DG g) (DG_ok (by omega)) rfl (catR_bytes hgg) q1
    rw [q2, q3] at o1
    have sm := same_fs (l := g) (m := g) (by omega) (SegR.all g (by omega)) hgb hgb
    rw [decide_eq_true rfl] at sm
    have n1 := jlen_any g.length
    have ha := jadd_any (DG g) (DG_ok (by omega)) c g.length (by omega) (by omega) hb
    obtain ⟨p1, p2⟩ := add_good (g := g) (b := c) (by omega)
    rw [p1, p2] at ha
    by_cases hr : recE c = 0
    · rw [if_pos hr] at g4
      have e2 : recR c = recB c := by unfold recR; rw [if_pos hr]
      simp only [if_pos hr, hr, e2] at c1 ha
      have hrl := recB_len c
      have h5 := (recE_0 hr).2
      have g5 : catR g ++ recB c = catR (g ++ [c]) := by rw [catR_app, catR_one]
      have g6 : (catR (g ++ [c])).length = (catR g).length + (c.length + 10) := by rw [← g5, List.length_append, hrl]
      generalize recB c = B at *
      clear q1 q2 q3 p1 p2
      (try simp (maxSteps := 9999999) (disch := omega) only [go_sem])
      (have k9 := And.intro @g2 (And.intro @g3 (And.intro @hrl (k0))); (repeat' (first | refine AWpA.seq ?_ | refine AWpA.block ?_ | (with_reducible refine CondP.tt ?_) | (with_reducible refine CondP.ff ?_) | refine AWpA.cg ?_ | ((first | refine AWpA.rg ?_ | refine AWpA.dg [] [] follows ?_ | refine TailK.tg ?_ | refine AWpA.skip ?_ | refine AWpA.exit ?_ | refine AWpA.ret ?_ | (with_reducible refine ARoundsA.succ ?_) | ((first | refine Runs.gkt (fun h9 => ?_) | refine Runs.gkf (fun h9 => ?_) | refine Runs.gnt (fun h9 => ?_) | refine Runs.gnf (fun h9 => ?_) | refine CondP.gt (fun h9 => ?_) | refine CondP.gf (fun h9 => ?_) | refine CondP.gnt (fun h9 => ?_) | refine CondP.gnf (fun h9 => ?_)); (try simp only [h9]); clear h9) | refine CallG.pg [0, 1] (o1) ?_ | refine CallG.pg [3] (sm) ?_ | refine CallG.pg [85] (n1) ?_ | refine CallG.pg [] (c1) ?_ | refine CallG.pg [85, 0, 1] (ha) ?_ | refine CallG.dg [0, 1] (o1) ?_ | refine CallG.dg [3] (sm) ?_ | refine CallG.dg [85] (n1) ?_ | refine CallG.dg [] (c1) ?_ | refine CallG.dg [85, 0, 1] (ha) ?_); (try simp (maxSteps := 9999999) (disch := omega) only [go_sem, k9]); (try refine cnd ?_)) | ((first | refine CondP.split (fun hif => ?_) (fun hif => ?_) | refine Runs.part (fun hif => ?_) (fun hif => ?_)) <;> ((try simp only [hif]); (try simp only [BL] at hif); (try (have h9 : _ = true := hif; simp only [h9])); (try (have h9 : _ = false := hif; simp only [h9])); (try simp (maxSteps := 9999999) (disch := omega) only [go_sem, k9]); (try refine cnd ?_); (try (exfalso; omega; done)))))); (all_goals (try clear k9)))
      (apply Back.to (i + 1) [0, 661, 773, 853, 4]; (focus ((try simp (maxSteps := 9999999) (disch := omega) only [go_sem, g4, g5, g6]); first | done | omega)); rotate_left; (focus (simp (maxSteps := 9999999) (disch := omega) only [go_sem, g4, g5, g6]; (try (repeat' (first | done | trivial | rfl | exact leAs_rfl _ | decide | (refine And.intro ?_ ?_) | (simp; done) | omega | (simp; decide)))))))
      all_goals omega
    · rw [if_neg hr] at g4
      have e2 : recR c = [] := by unfold recR; rw [if_neg hr]
      simp only [if_neg hr, e2] at c1 ha
      have g5 : (recE c == 0) = false := by rw [beq_eq_false_iff_ne]; exact hr
      generalize recE c = E at *
      clear q1 q2 q3 p1 p2
      (try simp (maxSteps := 9999999) (disch := omega) only [go_sem])
      (have k9 := And.intro @g2 (And.intro @g3 (And.intro @g5 (k0))); (repeat' (first | refine AWpA.seq ?_ | refine AWpA.block ?_ | (with_reducible refine CondP.tt ?_) | (with_reducible refine CondP.ff ?_) | refine AWpA.cg ?_ | ((first | refine AWpA.rg ?_ | refine AWpA.dg [] [] follows ?_ | refine TailK.tg ?_ | refine AWpA.skip ?_ | refine AWpA.exit ?_ | refine AWpA.ret ?_ | (with_reducible refine ARoundsA.succ ?_) | ((first | refine Runs.gkt (fun h9 => ?_) | refine Runs.gkf (fun h9 => ?_) | refine Runs.gnt (fun h9 => ?_) | refine Runs.gnf (fun h9 => ?_) | refine CondP.gt (fun h9 => ?_) | refine CondP.gf (fun h9 => ?_) | refine CondP.gnt (fun h9 => ?_) | refine CondP.gnf (fun h9 => ?_)); (try simp only [h9]); clear h9) | refine CallG.pg [0, 1] (o1) ?_ | refine CallG.pg [3] (sm) ?_ | refine CallG.pg [85] (n1) ?_ | refine CallG.pg [] (c1) ?_ | refine CallG.pg [85, 0, 1] (ha) ?_ | refine CallG.dg [0, 1] (o1) ?_ | refine CallG.dg [3] (sm) ?_ | refine CallG.dg [85] (n1) ?_ | refine CallG.dg [] (c1) ?_ | refine CallG.dg [85, 0, 1] (ha) ?_); (try simp (maxSteps := 9999999) (disch := omega) only [go_sem, k9]); (try refine cnd ?_)) | ((first | refine CondP.split (fun hif => ?_) (fun hif => ?_) | refine Runs.part (fun hif => ?_) (fun hif => ?_)) <;> ((try simp only [hif]); (try simp only [BL] at hif); (try (have h9 : _ = true := hif; simp only [h9])); (try (have h9 : _ = false := hif; simp only [h9])); (try simp (maxSteps := 9999999) (disch := omega) only [go_sem, k9]); (try refine cnd ?_); (try (exfalso; omega; done)))))); (all_goals (try clear k9)))
      (apply Back.to (i + 1) [0, 661, 2, 3, 4]; (focus ((try simp (maxSteps := 9999999) (disch := omega) only [go_sem, g4]); first | done | omega)); rotate_left; (focus (simp (maxSteps := 9999999) (disch := omega) only [go_sem, g4]; (try (repeat' (first | done | trivial | rfl | exact leAs_rfl _ | decide | (refine And.intro ?_ ?_) | (simp; done) | omega | (simp; decide)))))))
      all_goals omega
  · obtain rfl : i = LM.length := by omega
    rw [List.take_length] at *
    generalize gd LM = g at *
    have c1 := jread_any (catR g) (by omega) (catR_bytes hgg)
    rw [jread_all hge] at c1
    have c2 := dread_to (DG_ok (g := g) (by omega)) (l := catR g) (e := 0) rfl rfl
    have sm := same_fs (l := g) (m := g) (by omega) (SegR.all g (by omega)) hgb hgb
    rw [decide_eq_true rfl] at sm
    have s1 := dsafe_any (DG g)
    have hs := ba_self (catR g)
    (try simp (maxSteps := 9999999) (disch := omega) only [go_sem])
    (have k9 := And.intro @hs (k0); (repeat' (first | (refine AWpA.freeze0 2 6 rfl rfl ?_ ?_; (focus ((try simp (maxSteps := 9999999) (disch := omega) only [go_sem, k9]); first | done | omega))) | (refine AWpA.freeze0 165 18 rfl rfl ?_ ?_; (focus ((try simp (maxSteps := 9999999) (disch := omega) only [go_sem, k9]); first | done | omega))) | refine AWpA.seq ?_ | refine AWpA.block ?_ | (with_reducible refine CondP.tt ?_) | (with_reducible refine CondP.ff ?_) | refine AWpA.cg ?_ | ((first | refine AWpA.rg ?_ | refine AWpA.dg [] [] follows ?_ | refine TailK.tg ?_ | refine AWpA.skip ?_ | refine AWpA.exit ?_ | refine AWpA.ret ?_ | (with_reducible refine ARoundsA.succ ?_) | ((first | refine Runs.gkt (fun h9 => ?_) | refine Runs.gkf (fun h9 => ?_) | refine Runs.gnt (fun h9 => ?_) | refine Runs.gnf (fun h9 => ?_) | refine CondP.gt (fun h9 => ?_) | refine CondP.gf (fun h9 => ?_) | refine CondP.gnt (fun h9 => ?_) | refine CondP.gnf (fun h9 => ?_)); (try simp only [h9]); clear h9) | refine CallG.pg [] (c1) ?_ | refine CallG.pg [0, 1] (c2) ?_ | refine CallG.pg [3] (sm) ?_ | refine CallG.pg [0] (s1) ?_ | refine CallG.dg [] (c1) ?_ | refine CallG.dg [0, 1] (c2) ?_ | refine CallG.dg [3] (sm) ?_ | refine CallG.dg [0] (s1) ?_); (try simp (maxSteps := 9999999) (disch := omega) only [go_sem, k9]); (try refine cnd ?_)) | ((first | refine CondP.split (fun hif => ?_) (fun hif => ?_) | refine Runs.part (fun hif => ?_) (fun hif => ?_)) <;> ((try simp only [hif]); (try simp only [BL] at hif); (try (have h9 : _ = true := hif; simp only [h9])); (try (have h9 : _ = false := hif; simp only [h9])); (try simp (maxSteps := 9999999) (disch := omega) only [go_sem, k9]); (try refine cnd ?_); (try (exfalso; omega; done)))))); (all_goals (try clear k9)))
    all_goals (refine TopPost.of (by first | exact .inl rfl | exact .inr rfl) (by (try simp (maxSteps := 9999999) (disch := omega) only [go_sem]); rfl) ?_; (try simp (maxSteps := 9999999) (disch := omega) only [go_sem]); (try (first | trivial | decide | (simp; done))))
theorem jjoins_walk (W : World) (x y : Sl (Sl Int)) (ht : x.ok W 1 (fun s : Sl Int => s.rep) (Sl.ok W 1 (fun n : Int => [.int .u8 n]) (fun n : Int => IntKind.u8.min ≤ n ∧ n ≤ IntKind.u8.max))) (hu : y.ok W 1 (fun s : Sl Int => s.rep) (Sl.ok W 1 (fun n : Int => [.int .u8 n]) (fun n : Int => IntKind.u8.min ≤ n ∧ n ≤ IntKind.u8.max))) :
    Calls Try.prog 10 #[.slice x.ad x.l.length x.cap, .slice y.ad y.l.length y.cap] W fun e W' => e = .returned (.bool true) ∧ Below W.heap.size W W' := by
  obtain ⟨ad, off, cap, l0⟩ := x
  obtain ⟨ad', off', cap', m0⟩ := y
  have hz := ht.fz
  have hall := ht.all
  have hln := ht.len
  have hz' := hu.fz
  have hall' := hu.all
  have hln' := hu.len
  simp only at hz hall hln hz' hall' hln'
  have sg : SegR (rowsC off (fun s : Sl Int => [fzB s.l]) l0) off (l0.map (·.l)) := SegR.rows (fun _ => rfl) (Nat.le_trans hln (by decide))
  have sh : SegR (rowsC off' (fun s : Sl Int => [fzB s.l]) m0) off' (m0.map (·.l)) := SegR.rows (fun _ => rfl) (Nat.le_trans hln' (by decide))
  have hby0 : ∀ l ∈ l0.map (·.l), ∀ x ∈ l, 0 ≤ x ∧ x ≤ 255 := by
    intro l hl
    obtain ⟨s, hs, rfl⟩ := List.mem_map.1 hl
    exact (hall s hs).all
  have hby1 : ∀ l ∈ m0.map (·.l), ∀ x ∈ l, 0 ≤ x ∧ x ≤ 255 := by
    intro l hl
    obtain ⟨s, hs, rfl⟩ := List.mem_map.1 hl
    exact (hall' s hs).all
  refine top_call c10_ok Try.func10 rfl Try.ntmps10 res10_ok [ .val (.slice ad l0.length cap), .val (.slice ad' m0.length cap')] (by simp) (by (repeat' (first | exact VRs_nil' _ | exact VR_val' _ _ | (refine VRs_cons' ?_ ?_) | (refine VR_agg' (by first | rfl | assumption) ?_; first | assumption | simp [Value.oneCell'])))) ?_; try simp (maxSteps := 9999999) (disch := omega) only [go_sem]
  refine AWpA.thawT 0 (fun s : Sl Int => [.val (.slice s.ad s.l.length s.cap)]) hz (fun _ => rfl) rfl ?_
  refine AWpA.frzO 0 rfl (frz_rows fun s hs => (hall s hs).fz) ?_
  refine AWpA.thawT 1 (fun s : Sl Int => [.val (.slice s.ad s.l.length s.cap)]) hz' (fun _ => rfl) rfl ?_
  refine AWpA.frzO 1 rfl (frz_rows fun s hs => (hall' s hs).fz) ?_
  have hl0 : l0.length = (l0.map (·.l)).length := by simp
  have hm0 : m0.length = (m0.map (·.l)).length := by simp
  rw [hl0, hm0]
  clear hz hall hln hl0 hz' hall' hln' hm0
  generalize rowsC off (fun s : Sl Int => [fzB s.l]) l0 = P at sg
  generalize rowsC off' (fun s : Sl Int => [fzB s.l]) m0 = P' at sh
  generalize l0.map (·.l) = ls at *
  generalize m0.map (·.l) = ms at *
  have hle := sg.le
  have hle' := sh.le
  have hfw := few_any sg
  have hfw' := few_any sh
  cases hf : fewB ls
  · rw [hf] at hfw
    (have k9 := And.intro @sg.ren (And.intro @sh.ren (k0)); (repeat' (first | refine AWpA.seq ?_ | refine AWpA.block ?_ | (with_reducible refine CondP.tt ?_) | (with_reducible refine CondP.ff ?_) | refine AWpA.cg ?_ | ((first | refine AWpA.rg ?_ | refine AWpA.dg [] [] follows ?_ | refine TailK.tg ?_ | refine AWpA.skip ?_ | refine AWpA.exit ?_ | refine AWpA.ret ?_ | (with_reducible refine ARoundsA.succ ?_) | ((first | refine Runs.gkt (fun h9 => ?_) | refine Runs.gkf (fun h9 => ?_) | refine Runs.gnt (fun h9 => ?_) | refine Runs.gnf (fun h9 => ?_) | refine CondP.gt (fun h9 => ?_) | refine CondP.gf (fun h9 => ?_) | refine CondP.gnt (fun h9 => ?_) | refine CondP.gnf (fun h9 => ?_)); (try simp only [h9]); clear h9) | refine CallG.pg [] (speaks07_any) ?_ | refine CallG.pg [0] (hfw) ?_ | refine CallG.dg [] (speaks07_any) ?_ | refine CallG.dg [0] (hfw) ?_); (try simp (maxSteps := 9999999) (disch := omega) only [go_sem, k9]); (try refine cnd ?_)) | ((first | refine CondP.split (fun hif => ?_) (fun hif => ?_) | refine Runs.part (fun hif => ?_) (fun hif => ?_)) <;> ((try simp only [hif]); (try simp only [BL] at hif); (try (have h9 : _ = true := hif; simp only [h9])); (try (have h9 : _ = false := hif; simp only [h9])); (try simp (maxSteps := 9999999) (disch := omega) only [go_sem, k9]); (try refine cnd ?_); (try (exfalso; omega; done)))))); (all_goals (try clear k9)))
    (refine TopPost.of (by first | exact .inl rfl | exact .inr rfl) (by (try simp (maxSteps := 9999999) (disch := omega) only [go_sem]); rfl) ?_; (try simp (maxSteps := 9999999) (disch := omega) only [go_sem]); (try (first | trivial | decide | (simp; done))))
  rw [hf] at hfw
  cases hf' : fewB ms
  · rw [hf'] at hfw'
    (have k9 := And.intro @sg.ren (And.intro @sh.ren (k0)); (repeat' (first | refine AWpA.seq ?_ | refine AWpA.block ?_ | (with_reducible refine CondP.tt ?_) | (with_reducible refine CondP.ff ?_) | refine AWpA.cg ?_ | ((first | refine AWpA.rg ?_ | refine AWpA.dg [] [] follows ?_ | refine TailK.tg ?_ | refine AWpA.skip ?_ | refine AWpA.exit ?_ | refine AWpA.ret ?_ | (with_reducible refine ARoundsA.succ ?_) | ((first | refine Runs.gkt (fun h9 => ?_) | refine Runs.gkf (fun h9 => ?_) | refine Runs.gnt (fun h9 => ?_) | refine Runs.gnf (fun h9 => ?_) | refine CondP.gt (fun h9 => ?_) | refine CondP.gf (fun h9 => ?_) | refine CondP.gnt (fun h9 => ?_) | refine CondP.gnf (fun h9 => ?_)); (try simp only [h9]); clear h9) | refine CallG.pg [] (speaks07_any) ?_ | refine CallG.pg [0] (hfw) ?_ | refine CallG.pg [1] (hfw') ?_ | refine CallG.dg [] (speaks07_any) ?_ | refine CallG.dg [0] (hfw) ?_ | refine CallG.dg [1] (hfw') ?_); (try simp (maxSteps := 9999999) (disch := omega) only [go_sem, k9]); (try refine cnd ?_)) | ((first | refine CondP.split (fun hif => ?_) (fun hif => ?_) | refine Runs.part (fun hif => ?_) (fun hif => ?_)) <;> ((try simp only [hif]); (try simp only [BL] at hif); (try (have h9 : _ = true := hif; simp only [h9])); (try (have h9 : _ = false := hif; simp only [h9])); (try simp (maxSteps := 9999999) (disch := omega) only [go_sem, k9]); (try refine cnd ?_); (try (exfalso; omega; done)))))); (all_goals (try clear k9)))
    (refine TopPost.of (by first | exact .inl rfl | exact .inr rfl) (by (try simp (maxSteps := 9999999) (disch := omega) only [go_sem]); rfl) ?_; (try simp (maxSteps := 9999999) (disch := omega) only [go_sem]); (try (first | trivial | decide | (simp; done))))
  rw [hf'] at hfw'
  obtain ⟨hf1, hf2⟩ := fewB_yes hf
  obtain ⟨hf3, hf4⟩ := fewB_yes hf'
  have hlm := jjoins_loop W (ls ++ ms) (by simp; omega) (fun l hl => by rcases List.mem_append.1 hl with hl | hl; exact hf1 l hl; exact hf3 l hl) (fun l hl => by rcases List.mem_append.1 hl with hl | hl; exact hby0 l hl; exact hby1 l hl)
  by_cases h1 : ls.length = 0
  · obtain rfl : ls = [] := List.length_eq_zero_iff.1 h1
    simp only [List.length_nil, List.nil_append] at hfw hlm
    by_cases h2 : ms.length = 0
    · obtain rfl : ms = [] := List.length_eq_zero_iff.1 h2
      simp only [List.length_nil, rowsB_nil] at hfw' hlm
      (have k9 := And.intro @sg.ren (And.intro @sh.ren (And.intro @sg.seg (And.intro @sg.noAny (And.intro @sh.seg (And.intro @sh.noAny (k0)))))); (repeat' (first | refine AWpA.seq ?_ | refine AWpA.block ?_ | (with_reducible refine CondP.tt ?_) | (with_reducible refine CondP.ff ?_) | refine AWpA.cg ?_ | ((first | refine AWpA.rg ?_ | refine AWpA.dg [] [] follows ?_ | refine TailK.tg ?_ | refine AWpA.skip ?_ | refine AWpA.exit ?_ | refine AWpA.ret ?_ | (with_reducible refine ARoundsA.succ ?_) | ((first | refine Runs.gkt (fun h9 => ?_) | refine Runs.gkf (fun h9 => ?_) | refine Runs.gnt (fun h9 => ?_) | refine Runs.gnf (fun h9 => ?_) | refine CondP.gt (fun h9 => ?_) | refine CondP.gf (fun h9 => ?_) | refine CondP.gnt (fun h9 => ?_) | refine CondP.gnf (fun h9 => ?_)); (try simp only [h9]); clear h9) | refine CallG.pg [] (speaks07_any) ?_ | refine CallG.pg [0] (hfw) ?_ | refine CallG.pg [1] (hfw') ?_ | refine CallG.pg [] (dnew_any) ?_ | refine CallG.dg [] (speaks07_any) ?_ | refine CallG.dg [0] (hfw) ?_ | refine CallG.dg [1] (hfw') ?_ | refine CallG.dg [] (dnew_any) ?_); (try simp (maxSteps := 9999999) (disch := omega) only [go_sem, k9]); (try refine cnd ?_)) | ((first | refine CondP.split (fun hif => ?_) (fun hif => ?_) | refine Runs.part (fun hif => ?_) (fun hif => ?_)) <;> ((try simp only [hif]); (try simp only [BL] at hif); (try (have h9 : _ = true := hif; simp only [h9])); (try (have h9 : _ = false := hif; simp only [h9])); (try simp (maxSteps := 9999999) (disch := omega) only [go_sem, k9]); (try refine cnd ?_); (try (exfalso; omega; done)))))); (all_goals (try clear k9)))
      refine AWpA.dummy ?_
      refine AWpA.dummy ?_
      (refine AWpA.to [210, 211, 386, 387, 274] (hlm) ?_; (focus (simp (maxSteps := 9999999) (disch := omega) only [go_sem, catR_nil, bA_nil]; (try (repeat' (first | done | trivial | rfl | exact leAs_rfl _ | decide | (refine And.intro ?_ ?_) | (simp; done) | omega | (simp; decide)))))))
    · have g2 : (ms.length ≤ 0) = False := eq_false (by omega)
      (have k9 := And.intro @sg.ren (And.intro @sh.ren (And.intro @sg.seg (And.intro @sg.noAny (And.intro @sh.seg (And.intro @sh.noAny (And.intro @g2 (k0))))))); (repeat' (first | refine AWpA.seq ?_ | refine AWpA.block ?_ | (with_reducible refine CondP.tt ?_) | (with_reducible refine CondP.ff ?_) | refine AWpA.cg ?_ | ((first | refine AWpA.rg ?_ | refine AWpA.dg [] [] follows ?_ | refine TailK.tg ?_ | refine AWpA.skip ?_ | refine AWpA.exit ?_ | refine AWpA.ret ?_ | (with_reducible refine ARoundsA.succ ?_) | ((first | refine Runs.gkt (fun h9 => ?_) | refine Runs.gkf (fun h9 => ?_) | refine Runs.gnt (fun h9 => ?_) | refine Runs.gnf (fun h9 => ?_) | refine CondP.gt (fun h9 => ?_) | refine CondP.gf (fun h9 => ?_) | refine CondP.gnt (fun h9 => ?_) | refine CondP.gnf (fun h9 => ?_)); (try simp only [h9]); clear h9) | refine CallG.pg [] (speaks07_any) ?_ | refine CallG.pg [0] (hfw) ?_ | refine CallG.pg [1] (hfw') ?_ | refine CallG.pg [] (dnew_any) ?_ | refine CallG.dg [] (speaks07_any) ?_ | refine CallG.dg [0] (hfw) ?_ | refine CallG.dg [1] (hfw') ?_ | refine CallG.dg [] (dnew_any) ?_); (try simp (maxSteps := 9999999) (disch := omega) only [go_sem, k9]); (try refine cnd ?_)) | ((first | refine CondP.split (fun hif => ?_) (fun hif => ?_) | refine Runs.part (fun hif => ?_) (fun hif => ?_)) <;> ((try simp only [hif]); (try simp only [BL] at hif); (try (have h9 : _ = true := hif; simp only [h9])); (try (have h9 : _ = false := hif; simp only [h9])); (try simp (maxSteps := 9999999) (disch := omega) only [go_sem, k9]); (try refine cnd ?_); (try (exfalso; omega; done)))))); (all_goals (try clear k9)))
      refine AWpA.dummy ?_
      refine AWpA.dummy ?_
      (refine AWpA.to [210, 211, 386, 387, 338] (hlm) ?_; (focus (simp (maxSteps := 9999999) (disch := omega) only [go_sem, catR_nil, bA_nil]; (try (repeat' (first | done | trivial | rfl | exact leAs_rfl _ | decide | (refine And.intro ?_ ?_) | (simp; done) | omega | (simp; decide)))))))
  · have g2 : (ls.length ≤ 0) = False := eq_false (by omega)
    (have k9 := And.intro @sg.ren (And.intro @sh.ren (And.intro @sg.seg (And.intro @sg.noAny (And.intro @sh.seg (And.intro @sh.noAny (And.intro @g2 (k0))))))); (repeat' (first | refine AWpA.seq ?_ | refine AWpA.block ?_ | (with_reducible refine CondP.tt ?_) | (with_reducible refine CondP.ff ?_) | refine AWpA.cg ?_ | ((first | refine AWpA.rg ?_ | refine AWpA.dg [] [] follows ?_ | refine TailK.tg ?_ | refine AWpA.skip ?_ | refine AWpA.exit ?_ | refine AWpA.ret ?_ | (with_reducible refine ARoundsA.succ ?_) | ((first | refine Runs.gkt (fun h9 => ?_) | refine Runs.gkf (fun h9 => ?_) | refine Runs.gnt (fun h9 => ?_) | refine Runs.gnf (fun h9 => ?_) | refine CondP.gt (fun h9 => ?_) | refine CondP.gf (fun h9 => ?_) | refine CondP.gnt (fun h9 => ?_) | refine CondP.gnf (fun h9 => ?_)); (try simp only [h9]); clear h9) | refine CallG.pg [] (speaks07_any) ?_ | refine CallG.pg [0] (hfw) ?_ | refine CallG.pg [1] (hfw') ?_ | refine CallG.pg [] (dnew_any) ?_ | refine CallG.dg [] (speaks07_any) ?_ | refine CallG.dg [0] (hfw) ?_ | refine CallG.dg [1] (hfw') ?_ | refine CallG.dg [] (dnew_any) ?_); (try simp (maxSteps := 9999999) (disch := omega) only [go_sem, k9]); (try refine cnd ?_)) | ((first | refine CondP.split (fun hif => ?_) (fun hif => ?_) | refine Runs.part (fun hif => ?_) (fun hif => ?_)) <;> ((try simp only [hif]); (try simp only [BL] at hif); (try (have h9 : _ = true := hif; simp only [h9])); (try (have h9 : _ = false := hif; simp only [h9])); (try simp (maxSteps := 9999999) (disch := omega) only [go_sem, k9]); (try refine cnd ?_); (try (exfalso; omega; done)))))); (all_goals (try clear k9)))
    refine AWpA.dummy ?_
    refine AWpA.dummy ?_
    (refine AWpA.to [210, 211, 386, 387, 338] (hlm) ?_; (focus (simp (maxSteps := 9999999) (disch := omega) only [go_sem, catR_nil, bA_nil]; (try (repeat' (first | done | trivial | rfl | exact leAs_rfl _ | decide | (refine And.intro ?_ ?_) | (simp; done) | omega | (simp; decide)))))))
end Go.Proofs.Ythbpdmlbfnjoiaa
