/- Contract: the message of a kind and a body. -/
import Derived.Test.YtopidfkmligljaaGreatWs2
import Derived.Test.YtopidfkmligljaaGreatWq5
namespace Go.Proofs.YtopidfkmligljaaGreat
noncomputable section
set_option linter.unusedSimpArgs false
set_option linter.unusedVariables false
set_option maxHeartbeats 4000000
open Go Go.Am Go.RowKit
set_option maxRecDepth 100000
set_option maxHeartbeats 8000000
/- quidnunc/wire.Decode -/
def c8_1 : ACode := .region false [⟨some 4, .alloc [(.int .i64 0), (.int .i64 0), (.int .i64 0), (.bool false), (.slice none 0 0), (.int .i64 0), (.int .u64 0), (.int .i64 0), (.int .i64 0), (.string ⟨#[]⟩), (.slice none 0 0), (.slice none 0 0)], [], none⟩,
  ⟨some 5, .move, [.c (.val (.int .i64 0))], none⟩] [] [] [0, 1, 4] true [] []
def c8_3 : ACode := .region false [⟨some 12, .move, [.t 0], none⟩,
  ⟨some 13, .call 21, [.t 12], none⟩,
  ⟨some 11, .move, [.t 13], none⟩,
  ⟨some 14, .ext 0, [.t 11], none⟩,
  ⟨some 15, .ext 1, [.t 11], none⟩,
  ⟨some 6, .alloc [(.string ⟨#[]⟩), (.int .i64 0), (.int .i64 0), (.int .i64 0), (.int .i64 0), (.int .i64 0)], [], none⟩,
  ⟨none, .store 6, [.t 6, .t 14], none⟩,
  ⟨some 7, .move, [.t 15], none⟩] [] [] [0, 1, 4, 6, 7] true [] []
def c8_6 : ACode := .region false [⟨some 16, .move, [.t 7], none⟩,
  ⟨some 17, .un .not, [.t 16], none⟩] [] [] [0, 1, 4, 6, 17] false [] []
def c8_9 : ACode := .region false [⟨some 18, .build [(.int .i64 0), (.int .i64 0), (.int .i64 0), (.bool false), (.slice none 0 0), (.int .i64 0), (.int .u64 0), (.int .i64 0), (.int .i64 0), (.string ⟨#[]⟩), (.slice none 0 0), (.slice none 0 0)] [], [], none⟩,
  ⟨none, .store 12, [.t 4, .t 18], none⟩,
  ⟨some 5, .move, [.c (.val (.int .i64 1))], none⟩] [] [] [4, 5] true [] []
def c8_8 : ACode := .seq c8_9 .ret
def c8_7 : ACode := .cond (.t 17) c8_8 .skip
def c8_5 : ACode := .seq c8_6 c8_7
def c8_11 : ACode := .region false [⟨some 19, .move, [.t 0], none⟩,
  ⟨some 20, .build [(.int .i64 0), (.int .i64 0), (.int .i64 0), (.bool false), (.slice none 0 0), (.int .i64 0), (.int .u64 0), (.int .i64 0), (.int .i64 0), (.string ⟨#[]⟩), (.slice none 0 0), (.slice none 0 0)] [(0, 1)], [.t 19], none⟩,
  ⟨some 8, .alloc [(.int .i64 0), (.int .i64 0), (.int .i64 0), (.bool false), (.slice none 0 0), (.int .i64 0), (.int .u64 0), (.int .i64 0), (.int .i64 0), (.string ⟨#[]⟩), (.slice none 0 0), (.slice none 0 0)], [], none⟩,
  ⟨none, .store 12, [.t 8, .t 20], none⟩] [] [] [1, 4, 6, 8] true [] []
def c8_13 : ACode := .region false [⟨some 21, .move, [.t 1], none⟩,
  ⟨some 22, .call 22, [.t 21], none⟩,
  ⟨some 9, .move, [.t 22], none⟩] [] [] [4, 6, 8, 9] true [] []
def c8_15 : ACode := .region true [⟨some 23, .addr 1, [.t 6], none⟩,
  ⟨some 24, .load false 1, [.t 23], none⟩,
  ⟨some 25, .move, [.t 9], none⟩,
  ⟨some 26, .call 24, [.t 25, .t 8], none⟩,
  ⟨some 27, .call 23, [.t 24, .t 26], none⟩] [] [] [4, 8, 9] true [] []
def c8_18 : ACode := .region false [⟨some 28, .move, [.t 9], none⟩,
  ⟨some 29, .nilChk, [.t 28], none⟩,
  ⟨some 30, .addr 0, [.t 29], none⟩,
  ⟨some 31, .call 25, [.t 30], none⟩,
  ⟨some 32, .bin .eql, [.t 31, .c (.val (.int .i64 0))], none⟩,
  ⟨some 33, .move, [.t 32], none⟩,
  ⟨some 34, .load true 12, [.t 8], some (some 33, true)⟩,
  ⟨some 35, .call 17, [.t 34], some (some 33, true)⟩,
  ⟨some 36, .bin .neq, [.t 35, .c (.val (.int .i64 0))], some (some 33, true)⟩,
  ⟨some 37, .pick, [.t 33, .t 36, .c (.val (.bool false))], none⟩] [] [] [4, 8, 9, 37] true [] []
def c8_20 : ACode := .region false [⟨some 38, .move, [.t 9], none⟩,
  ⟨some 39, .nilChk, [.t 38], none⟩,
  ⟨some 40, .addr 0, [.t 39], none⟩,
  ⟨some 41, .call 26, [.t 40, .c (.val (.int .i64 4))], none⟩] [] [] [4, 8, 9] true [] []
def c8_19 : ACode := .cond (.t 37) c8_20 .skip
def c8_17 : ACode := .seq c8_18 c8_19
def c8_23 : ACode := .region false [⟨some 42, .move, [.t 9], none⟩,
  ⟨some 43, .call 27, [.t 42], none⟩,
  ⟨some 10, .move, [.t 43], none⟩] [] [] [4, 8, 10] true [] []
def c8_25 : ACode := .region false [⟨some 44, .move, [.t 10], none⟩,
  ⟨some 45, .bin .neq, [.t 44, .c (.val (.int .i64 0))], none⟩] [] [] [4, 8, 10, 45] false [] []
def c8_28 : ACode := .region false [⟨some 46, .build [(.int .i64 0), (.int .i64 0), (.int .i64 0), (.bool false), (.slice none 0 0), (.int .i64 0), (.int .u64 0), (.int .i64 0), (.int .i64 0), (.string ⟨#[]⟩), (.slice none 0 0), (.slice none 0 0)] [], [], none⟩,
  ⟨some 47, .move, [.t 10], none⟩,
  ⟨none, .store 12, [.t 4, .t 46], none⟩,
  ⟨some 5, .move, [.t 47], none⟩] [] [] [4, 5] true [] []
def c8_27 : ACode := .seq c8_28 .ret
def c8_26 : ACode := .cond (.t 45) c8_27 .skip
def c8_24 : ACode := .seq c8_25 c8_26
def c8_22 : ACode := .seq c8_23 c8_24
def c8_30 : ACode := .region false [⟨some 48, .load true 12, [.t 8], none⟩,
  ⟨none, .store 12, [.t 4, .t 48], none⟩,
  ⟨some 5, .move, [.c (.val (.int .i64 0))], none⟩] [] [] [4, 5] true [] []
def c8_29 : ACode := .seq c8_30 .ret
def c8_21 : ACode := .seq c8_22 c8_29
def c8_16 : ACode := .seq c8_17 c8_21
def c8_14 : ACode := .seq c8_15 c8_16
def c8_12 : ACode := .seq c8_13 c8_14
def c8_10 : ACode := .seq c8_11 c8_12
def c8_4 : ACode := .seq c8_5 c8_10
def c8_2 : ACode := .seq c8_3 c8_4
def c8_0 : ACode := .seq c8_1 c8_2
def code8 : Code := (Tryz.f8.body).getD .skip
theorem c8_ok : compC Tryz.prog 49 code8 = some (strip c8_0) := by kernel_rfl
theorem res8_ok : Tryz.f8.results.toList.mapM (resC Tryz.prog) = some [(4, some (true, 12)), (5, none)] := by kernel_rfl
theorem st_len {L : List Int} {k : Int} (hb : bytesB L) : ∀ i, i ≤ 9 → (stP L k i).2.peers.length ≤ 255 ∧ (stP L k i).2.marks.length ≤ 255 ∧ (stP L k i).2.ents.length ≤ 255
  | 0, _ => ⟨Nat.zero_le _, Nat.zero_le _, Nat.zero_le _⟩
  | i + 1, h => by
    have ih := st_len (k := k) hb i (by omega)
    cases hh : hasF k i with
    | false => rw [stP_no hh]; exact ih
    | true =>
      rw [stP_yes hh]
      have hv := numV_256 hb (stP L k i).1
      have hn : (numV L 1 (stP L k i).1).toNat ≤ 255 := by omega
      generalize stP L k i = p at *
      match i, h with
      | 0, _ | 1, _ | 2, _ | 4, _ | 5, _ | 6, _ => exact ih
      | 3, _ => exact ⟨Nat.le_trans (lsP_len (numR 1) _) hn, ih.2⟩
      | 7, _ => exact ⟨ih.1, Nat.le_trans (lsP_len mkR _) hn, ih.2.2⟩
      | 8, _ => exact ⟨ih.1, ih.2.1, Nat.le_trans (lsP_len enR _) hn⟩
theorem finE_no {L : List Int} {k : Int} (h : kindB k = false) : finE L k = 1 ∧ finW L k = noW := by
  have e : finE L k = 1 := by
    unfold finE
    rw [if_pos]
    simp only [kindB, Bool.and_eq_false_iff, decide_eq_false_iff_not] at h
    omega
  exact ⟨e, by unfold finW; rw [e]; rfl⟩
theorem finE_yes {L : List Int} {k : Int} (h : kindB k = true) : finE L k = (doneC L (endC L k)).e := by
  unfold finE
  rw [if_neg]
  simp only [kindB, Bool.and_eq_true, decide_eq_true_eq] at h
  omega
theorem wdecode_any {P : List AV} {off : Nat} {L : List Int} (s : Seg P off L) (hb : bytesB L) (k : Int) : ACall Tryz.prog 8 [I k, .sl 0 off L.length 1 none] [.cells true P] (Det (.tup [WmA (finW L k) 1 0 2 0 3 0, I (finE L k)]) [.cells true P, .cells false (Ri 0 (finW L k).peers), .cells false (Rm 0 (finW L k).marks), .cells false (Re 0 (finW L k).ents)]) := by
  have hi := ri_ren
  have hm := rm_ren
  have he := re_ren
  have hP := s.ren
  have hL := s.small
  have f1 := formof_any k
  unfold formV at f1
  cases hk : kindB k with
  | false =>
    rw [hk] at f1
    simp only [cond_false] at f1
    obtain ⟨e1, e2⟩ := finE_no (L := L) hk
    rw [e1, e2]
    refine ACall.startA c8_ok Tryz.func8 rfl Tryz.ntmps8 (by kernel_rfl) res8_ok rfl rfl rfl ?_; simp (maxSteps := 9999999) (disch := omega) only [go_sem]
    refine AWpA.dummy ?_
    refine AWpA.dummy ?_
    refine AWpA.dummy ?_
    (have k9 := And.intro @hi (And.intro @hm (And.intro @he (And.intro @hP (k0)))); have a1 := Arm.mk [] f1; refine goK ?_; (try clear k9); (try clear a1))
    (have k9 := And.intro @hi (And.intro @hm (And.intro @he (And.intro @hP (And.intro @ri_nil (And.intro @rm_nil (And.intro @re_nil (k0))))))); exact Ret.dk [0, 1, 2, 3])
  | true =>
    rw [hk] at f1
    simp only [cond_true] at f1
    have r1 := read_any s
    have t1 := takes_any L ⟨0, 0⟩ { noW with kind := k }
    have x1 := eachT_any hL hb k hk
    have hl := st_len (k := k) hb 9 (Nat.le_refl _)
    have g1 := wgood_any (stP L k 9).2 0 0 0 (by omega)
    have hE := finE_yes (L := L) hk
    have hW : finW L k = if finE L k = 0 then (stP L k 9).2 else noW := rfl
    have herr := fun e : Int => rerr_any e
    have d1 := rdone_any L (endC L k)
    have f4 := rfail_r (stP L k 9).1.a L (stP L k 9).1.e 4
    rw [← hE] at d1
    have hC : endC L k = ⟨(stP L k 9).1.a, if (stP L k 9).1.e = 0 ∧ goodW (stP L k 9).2 ≠ 0 then 4 else (stP L k 9).1.e⟩ := rfl
    have hD : finE L k = doneE (endC L k).e (L.length - (endC L k).a) := hE
    simp only [List.length_nil, ri_nil, rm_nil, re_nil] at t1
    have hd0 : ∀ (e : Int) (n : Nat), e ≠ 0 → doneE e n ≠ 0 := fun e n h => by
      unfold doneE
      rw [failI_stick h]
      cases decide (0 < n) <;> exact h
    generalize stP L k 9 = p at *
    generalize doneC L (endC L k) = dc at *
    generalize endC L k = ec at *
    generalize finE L k = E at *
    generalize finW L k = y at *
    clear hE hk
    obtain ⟨⟨pa, pe⟩, z⟩ := p
    simp only at hl g1 hW f4 hC x1
    generalize goodW z = q at *
    by_cases h1 : pe = 0
    · subst h1
      by_cases h2 : q = 0
      · rw [if_neg (by simp [h2])] at hC
        subst hC
        subst h2
        by_cases h3 : E = 0
        · rw [if_pos h3] at hW
          subst hW
          subst h3
          clear hD hd0 f4
          refine ACall.startA c8_ok Tryz.func8 rfl Tryz.ntmps8 (by kernel_rfl) res8_ok rfl rfl rfl ?_; simp (maxSteps := 9999999) (disch := omega) only [go_sem]
          refine AWpA.dummy ?_
          refine AWpA.dummy ?_
          refine AWpA.dummy ?_
          (have k9 := And.intro @hi (And.intro @hm (And.intro @he (And.intro @hP (And.intro @bA_ren (And.intro @hi (And.intro @hm (And.intro @he (And.intro @hP (And.intro @bA_ren (k0)))))))))); have x9 := Xs.mk [276, 228, 1, 2, 3] []; have a1 := Arm.mk [] f1; have a2 := Arm.mk [0] r1; have a3 := Arm.mk [276, 277, 228, 1, 2, 3] t1; have a4 := Arm.mk [356, 357, 276, 277, 228, 1, 2, 3] x1; have a5 := Arm.mk [276] (herr 0); have a6 := Arm.mk [372, 373, 374] g1; have a7 := Arm.mk [276, 277] d1; have e9 := Ends.mk [0, 372, 373, 374]; exact goE)
        · rw [if_neg h3] at hW
          subst hW
          have g3 : (E == 0) = false := by simpa using h3
          clear hD hd0 f4
          refine ACall.startA c8_ok Tryz.func8 rfl Tryz.ntmps8 (by kernel_rfl) res8_ok rfl rfl rfl ?_; simp (maxSteps := 9999999) (disch := omega) only [go_sem]
          refine AWpA.dummy ?_
          refine AWpA.dummy ?_
          refine AWpA.dummy ?_
          refine AWpA.dummy ?_
          refine AWpA.dummy ?_
          refine AWpA.dummy ?_
          (have k9 := And.intro @hi (And.intro @hm (And.intro @he (And.intro @hP (And.intro @bA_ren (And.intro @g3 (And.intro @hi (And.intro @hm (And.intro @he (And.intro @hP (And.intro @bA_ren (And.intro @ri_nil (And.intro @rm_nil (And.intro @re_nil (k0)))))))))))))); have x9 := Xs.mk [279, 231, 1, 2, 3] []; have a1 := Arm.mk [] f1; have a2 := Arm.mk [0] r1; have a3 := Arm.mk [279, 280, 231, 1, 2, 3] t1; have a4 := Arm.mk [359, 360, 279, 280, 231, 1, 2, 3] x1; have a5 := Arm.mk [279] (herr 0); have a6 := Arm.mk [375, 376, 377] g1; have a7 := Arm.mk [279, 280] d1; have e9 := Ends.mk [0, 4, 5, 6]; exact goE)
      · rw [if_pos ⟨rfl, h2⟩] at hC
        subst hC
        have h3 : E ≠ 0 := by rw [hD]; exact hd0 4 _ (by decide)
        rw [if_neg h3] at hW
        subst hW
        have g2 : (q == 0) = false := by simpa using h2
        have g3 : (E == 0) = false := by simpa using h3
        rw [show failI 0 4 = 4 from rfl] at f4
        clear hD hd0
        refine ACall.startA c8_ok Tryz.func8 rfl Tryz.ntmps8 (by kernel_rfl) res8_ok rfl rfl rfl ?_; simp (maxSteps := 9999999) (disch := omega) only [go_sem]
        refine AWpA.dummy ?_
        refine AWpA.dummy ?_
        refine AWpA.dummy ?_
        refine AWpA.dummy ?_
        refine AWpA.dummy ?_
        refine AWpA.dummy ?_
        (have k9 := And.intro @hi (And.intro @hm (And.intro @he (And.intro @hP (And.intro @bA_ren (And.intro @g2 (And.intro @g3 (And.intro @hi (And.intro @hm (And.intro @he (And.intro @hP (And.intro @bA_ren (And.intro @ri_nil (And.intro @rm_nil (And.intro @re_nil (k0))))))))))))))); have x9 := Xs.mk [279, 231, 1, 2, 3] []; have a1 := Arm.mk [] f1; have a2 := Arm.mk [0] r1; have a3 := Arm.mk [279, 280, 231, 1, 2, 3] t1; have a4 := Arm.mk [359, 360, 279, 280, 231, 1, 2, 3] x1; have a5 := Arm.mk [279] (herr 0); have a6 := Arm.mk [375, 376, 377] g1; have a7 := Arm.mk [279, 280] f4; have a8 := Arm.mk [279, 280] d1; have e9 := Ends.mk [0, 4, 5, 6]; exact goE)
    · rw [if_neg fun h => h1 h.1] at hC
      subst hC
      have h3 : E ≠ 0 := by rw [hD]; exact hd0 _ _ h1
      rw [if_neg h3] at hW
      subst hW
      have g1' : (pe == 0) = false := by simpa using h1
      have g3 : (E == 0) = false := by simpa using h3
      clear hD hd0 f4 g1
      refine ACall.startA c8_ok Tryz.func8 rfl Tryz.ntmps8 (by kernel_rfl) res8_ok rfl rfl rfl ?_; simp (maxSteps := 9999999) (disch := omega) only [go_sem]
      refine AWpA.dummy ?_
      refine AWpA.dummy ?_
      refine AWpA.dummy ?_
      refine AWpA.dummy ?_
      refine AWpA.dummy ?_
      refine AWpA.dummy ?_
      (have k9 := And.intro @hi (And.intro @hm (And.intro @he (And.intro @hP (And.intro @bA_ren (And.intro @g1' (And.intro @g3 (And.intro @hi (And.intro @hm (And.intro @he (And.intro @hP (And.intro @bA_ren (And.intro @ri_nil (And.intro @rm_nil (And.intro @re_nil (k0))))))))))))))); have x9 := Xs.mk [279, 231, 1, 2, 3] []; have a1 := Arm.mk [] f1; have a2 := Arm.mk [0] r1; have a3 := Arm.mk [279, 280, 231, 1, 2, 3] t1; have a4 := Arm.mk [359, 360, 279, 280, 231, 1, 2, 3] x1; have a5 := Arm.mk [279] (herr pe); have a6 := Arm.mk [279, 280] d1; have e9 := Ends.mk [0, 4, 5, 6]; exact goE)
end
end Go.Proofs.YtopidfkmligljaaGreat
