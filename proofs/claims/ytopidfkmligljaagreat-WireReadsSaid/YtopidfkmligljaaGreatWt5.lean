/- Contract: the message of a kind and a body, as the document says. -/
import Derived.Test.YtopidfkmligljaaGreatWt4
import Derived.Test.YtopidfkmligljaaGreatWt3
namespace Go.Proofs.YtopidfkmligljaaGreat
noncomputable section
set_option linter.unusedSimpArgs false
set_option linter.unusedVariables false
set_option maxHeartbeats 4000000
open Go Go.Am Go.RowKit
set_option maxRecDepth 100000
set_option maxHeartbeats 8000000
/- quidnunc/quidnuncref16.Decode -/
def c9_1 : ACode := .region false [⟨some 4, .alloc [(.int .i64 0), (.int .i64 0), (.int .i64 0), (.bool false), (.slice none 0 0), (.int .i64 0), (.int .u64 0), (.int .i64 0), (.int .i64 0), (.string ⟨#[]⟩), (.slice none 0 0), (.slice none 0 0)], [], none⟩,
  ⟨some 5, .move, [.c (.val (.int .i64 0))], none⟩] [] [] [0, 1, 4] true [] []
def c9_4 : ACode := .region false [⟨some 9, .move, [.t 0], none⟩,
  ⟨some 10, .bin .lss, [.t 9, .c (.val (.int .i64 1))], none⟩,
  ⟨some 11, .move, [.t 10], none⟩,
  ⟨some 12, .move, [.t 0], some (some 11, false)⟩,
  ⟨some 13, .bin .gtr, [.t 12, .c (.val (.int .i64 19))], some (some 11, false)⟩,
  ⟨some 14, .pick, [.t 11, .c (.val (.bool true)), .t 13], none⟩] [] [] [0, 1, 4, 14] false [] []
def c9_7 : ACode := .region false [⟨some 15, .build [(.int .i64 0), (.int .i64 0), (.int .i64 0), (.bool false), (.slice none 0 0), (.int .i64 0), (.int .u64 0), (.int .i64 0), (.int .i64 0), (.string ⟨#[]⟩), (.slice none 0 0), (.slice none 0 0)] [], [], none⟩,
  ⟨none, .store 12, [.t 4, .t 15], none⟩,
  ⟨some 5, .move, [.c (.val (.int .i64 1))], none⟩] [] [] [4, 5] true [] []
def c9_6 : ACode := .seq c9_7 .ret
def c9_5 : ACode := .cond (.t 14) c9_6 .skip
def c9_3 : ACode := .seq c9_4 c9_5
def c9_9 : ACode := .region false [⟨some 16, .move, [.t 1], none⟩,
  ⟨some 17, .build [(.slice none 0 0), (.int .i64 0), (.int .i64 0)] [(0, 1)], [.t 16], none⟩,
  ⟨some 6, .alloc [(.slice none 0 0), (.int .i64 0), (.int .i64 0)], [], none⟩,
  ⟨none, .store 3, [.t 6, .t 17], none⟩] [] [] [0, 4, 6] true [] []
def c9_11 : ACode := .region false [⟨some 18, .move, [.t 0], none⟩,
  ⟨some 19, .build [(.int .i64 0), (.int .i64 0), (.int .i64 0), (.bool false), (.slice none 0 0), (.int .i64 0), (.int .u64 0), (.int .i64 0), (.int .i64 0), (.string ⟨#[]⟩), (.slice none 0 0), (.slice none 0 0)] [(0, 1)], [.t 18], none⟩,
  ⟨some 7, .alloc [(.int .i64 0), (.int .i64 0), (.int .i64 0), (.bool false), (.slice none 0 0), (.int .i64 0), (.int .u64 0), (.int .i64 0), (.int .i64 0), (.string ⟨#[]⟩), (.slice none 0 0), (.slice none 0 0)], [], none⟩,
  ⟨none, .store 12, [.t 7, .t 19], none⟩] [] [] [0, 4, 6, 7] true [] []
def c9_14 : ACode := .region false [⟨some 8, .move, [.c (.val (.int .i64 0))], none⟩] [] [] [0, 4, 6, 7, 8] false [] []
def c9_19 : ACode := .region false [⟨some 20, .move, [.t 8], none⟩,
  ⟨some 21, .bin .lss, [.t 20, .c (.val (.int .i64 9))], none⟩] [] [] [0, 4, 6, 7, 8, 21] false [] []
def c9_20 : ACode := .cond (.t 21) .skip (.exit 0)
def c9_18 : ACode := .seq c9_19 c9_20
def c9_24 : ACode := .region false [⟨some 24, .move, [.t 0], none⟩,
  ⟨some 25, .move, [.t 8], none⟩,
  ⟨some 26, .call 28, [.t 24, .t 25], none⟩] [] [] [0, 4, 6, 7, 8, 26] true [] []
def c9_26 : ACode := .region false [⟨some 28, .load true 3, [.t 6], none⟩,
  ⟨some 29, .load true 12, [.t 7], none⟩,
  ⟨some 30, .move, [.t 8], none⟩,
  ⟨some 31, .call 29, [.t 28, .t 29, .t 30], none⟩,
  ⟨some 27, .move, [.t 31], none⟩,
  ⟨some 32, .ext 0, [.t 27], none⟩,
  ⟨some 33, .ext 1, [.t 27], none⟩,
  ⟨none, .store 3, [.t 6, .t 32], none⟩,
  ⟨none, .store 12, [.t 7, .t 33], none⟩] [] [] [0, 4, 6, 7, 8] true [] []
def c9_25 : ACode := .cond (.t 26) c9_26 .skip
def c9_23 : ACode := .seq c9_24 c9_25
def c9_22 : ACode := .block 1 c9_23
def c9_27 : ACode := .region false [⟨some 22, .move, [.t 8], none⟩,
  ⟨some 23, .bin .add, [.t 22, .c (.val (.int .i64 1))], none⟩,
  ⟨some 8, .move, [.t 23], none⟩] [] [] [0, 4, 6, 7, 8] false [] []
def c9_21 : ACode := .seq c9_22 c9_27
def c9_17 : ACode := .seq c9_18 c9_21
def c9_16 : ACode := .loop c9_17
def c9_15 : ACode := .block 0 c9_16
def c9_13 : ACode := .seq c9_14 c9_15
def c9_30 : ACode := .region false [⟨some 34, .addr 2, [.t 6], none⟩,
  ⟨some 35, .load false 1, [.t 34], none⟩,
  ⟨some 36, .bin .eql, [.t 35, .c (.val (.int .i64 0))], none⟩,
  ⟨some 37, .move, [.t 36], none⟩,
  ⟨some 38, .load true 12, [.t 7], some (some 37, true)⟩,
  ⟨some 39, .call 15, [.t 38], some (some 37, true)⟩,
  ⟨some 40, .bin .neq, [.t 39, .c (.val (.int .i64 0))], some (some 37, true)⟩,
  ⟨some 41, .pick, [.t 37, .t 40, .c (.val (.bool false))], none⟩] [] [] [4, 6, 7, 41] true [] []
def c9_32 : ACode := .region false [⟨some 42, .addr 2, [.t 6], none⟩,
  ⟨none, .store 1, [.t 42, .c (.val (.int .i64 4))], none⟩] [] [] [4, 6, 7] true [] []
def c9_31 : ACode := .cond (.t 41) c9_32 .skip
def c9_29 : ACode := .seq c9_30 c9_31
def c9_34 : ACode := .region false [⟨some 43, .load true 3, [.t 6], none⟩,
  ⟨some 44, .call 30, [.t 43], none⟩,
  ⟨none, .store 3, [.t 6, .t 44], none⟩] [] [] [4, 6, 7] true [] []
def c9_37 : ACode := .region false [⟨some 45, .addr 2, [.t 6], none⟩,
  ⟨some 46, .load false 1, [.t 45], none⟩,
  ⟨some 47, .bin .neq, [.t 46, .c (.val (.int .i64 0))], none⟩] [] [] [4, 6, 7, 47] false [] []
def c9_40 : ACode := .region true [⟨some 48, .build [(.int .i64 0), (.int .i64 0), (.int .i64 0), (.bool false), (.slice none 0 0), (.int .i64 0), (.int .u64 0), (.int .i64 0), (.int .i64 0), (.string ⟨#[]⟩), (.slice none 0 0), (.slice none 0 0)] [], [], none⟩,
  ⟨some 49, .addr 2, [.t 6], none⟩,
  ⟨some 50, .load false 1, [.t 49], none⟩,
  ⟨none, .store 12, [.t 4, .t 48], none⟩,
  ⟨some 5, .move, [.t 50], none⟩] [] [] [4, 5] true [4] []
def c9_39 : ACode := .seq c9_40 .ret
def c9_38 : ACode := .cond (.t 47) c9_39 .skip
def c9_36 : ACode := .seq c9_37 c9_38
def c9_42 : ACode := .region false [⟨some 51, .load true 12, [.t 7], none⟩,
  ⟨none, .store 12, [.t 4, .t 51], none⟩,
  ⟨some 5, .move, [.c (.val (.int .i64 0))], none⟩] [] [] [4, 5] true [] []
def c9_41 : ACode := .seq c9_42 .ret
def c9_35 : ACode := .seq c9_36 c9_41
def c9_33 : ACode := .seq c9_34 c9_35
def c9_28 : ACode := .seq c9_29 c9_33
def c9_12 : ACode := .seq c9_13 c9_28
def c9_10 : ACode := .seq c9_11 c9_12
def c9_8 : ACode := .seq c9_9 c9_10
def c9_2 : ACode := .seq c9_3 c9_8
def c9_0 : ACode := .seq c9_1 c9_2
def code9 : Code := (Tryz.f9.body).getD .skip
theorem c9_ok : compC Tryz.prog 52 code9 = some (strip c9_0) := by kernel_rfl
theorem res9_ok : Tryz.f9.results.toList.mapM (resC Tryz.prog) = some [(4, some (true, 12)), (5, none)] := by kernel_rfl
theorem stD_yes {L : List Int} {k : Int} {i : Nat} (h : hasF k i = true) : stD L k (i + 1) = ((fRD i).cur L (stD L k i).1, setF i (stD L k i).2 ((fRD i).val L (stD L k i).1)) := by rw [stD, if_pos h]
theorem stD_no {L : List Int} {k : Int} {i : Nat} (h : hasF k i = false) : stD L k (i + 1) = stD L k i := by rw [stD, if_neg (by rw [h]; decide)]
theorem stD_nil {L : List Int} {k : Int} : ∀ i, i ≤ 9 → (i ≤ 3 → (stD L k i).2.peers = []) ∧ (i ≤ 7 → (stD L k i).2.marks = []) ∧ (i ≤ 8 → (stD L k i).2.ents = [])
  | 0, _ => ⟨fun _ => rfl, fun _ => rfl, fun _ => rfl⟩
  | i + 1, h => by
    obtain ⟨h1, h2, h3⟩ := stD_nil (L := L) (k := k) i (by omega)
    cases hh : hasF k i with
    | false => rw [stD_no hh]; exact ⟨fun h => h1 (by omega), fun h => h2 (by omega), fun h => h3 (by omega)⟩
    | true =>
      rw [stD_yes hh]
      match i, h with
      | 0, _ | 1, _ | 2, _ => exact ⟨fun _ => h1 (by omega), fun _ => h2 (by omega), fun _ => h3 (by omega)⟩
      | 3, _ => exact ⟨fun h => by omega, fun _ => h2 (by omega), fun _ => h3 (by omega)⟩
      | 4, _ | 5, _ | 6, _ => exact ⟨fun h => by omega, fun _ => h2 (by omega), fun _ => h3 (by omega)⟩
      | 7, _ => exact ⟨fun h => by omega, fun h => by omega, fun _ => h3 (by omega)⟩
      | 8, _ => exact ⟨fun h => by omega, fun h => by omega, fun h => by omega⟩
theorem manyN_le {L : List Int} (hb : bytesB L) (c : Cu) : manyN L c ≤ 255 := by
  have := numV_lt hb 1 c
  simp only [show (1 : Int).toNat = 1 from rfl, Int.reducePow] at this
  unfold manyN
  split <;> omega
theorem stD_len {L : List Int} {k : Int} (hb : bytesB L) : ∀ i, i ≤ 9 → (stD L k i).2.peers.length ≤ 255 ∧ (stD L k i).2.marks.length ≤ 255 ∧ (stD L k i).2.ents.length ≤ 255
  | 0, _ => ⟨Nat.zero_le _, Nat.zero_le _, Nat.zero_le _⟩
  | i + 1, h => by
    have ih := stD_len (k := k) hb i (by omega)
    cases hh : hasF k i with
    | false => rw [stD_no hh]; exact ih
    | true =>
      rw [stD_yes hh]
      have hn := manyN_le hb (stD L k i).1
      generalize stD L k i = p at *
      match i, h with
      | 0, _ | 1, _ | 2, _ | 4, _ | 5, _ | 6, _ => exact ih
      | 3, _ => exact ⟨by show (lsD (numR 1) L _ _).2.length ≤ 255; rw [lsD_len]; exact hn, ih.2⟩
      | 7, _ => exact ⟨ih.1, by show (lsD mkR L _ _).2.length ≤ 255; rw [lsD_len]; exact hn, ih.2.2⟩
      | 8, _ => exact ⟨ih.1, ih.2.1, by show (lsD enR L _ _).2.length ≤ 255; rw [lsD_len]; exact hn⟩
theorem rdecode16_any {P : List AV} {off : Nat} {L : List Int} (s : Seg P off L) (hb : bytesB L) (k : Int) : ACall Tryz.prog 9 [I k, .sl 0 off L.length 1 none] [.cells true P] (Det (.tup [WmA (finW L k) 1 0 2 0 3 0, I (finE L k)]) [.cells true P, .cells false (Ri 0 (finW L k).peers), .cells false (Rm 0 (finW L k).marks), .cells false (Re 0 (finW L k).ents)]) := by
  have hi := ri_ren
  have hm := rm_ren
  have he := re_ren
  have hP := s.ren
  have hL := s.small
  by_cases k1 : k < 1
  · have g1 : (k < 1) = True := eq_true k1
    have e1 : finE L k = 1 := by unfold finE; rw [if_pos (.inl k1)]
    have e2 : finW L k = noW := by unfold finW; rw [e1]; rfl
    rw [e1, e2]
    refine ACall.startA c9_ok Tryz.func9 rfl Tryz.ntmps9 (by kernel_rfl) res9_ok rfl rfl rfl ?_; simp (maxSteps := 9999999) (disch := omega) only [go_sem]
    refine AWpA.dummy ?_
    refine AWpA.dummy ?_
    refine AWpA.dummy ?_
    (have k9 := And.intro @hi (And.intro @hm (And.intro @he (And.intro @hP (And.intro @g1 (k0))))); refine goK ?_; (try clear k9))
    (have k9 := And.intro @hi (And.intro @hm (And.intro @he (And.intro @hP (And.intro @ri_nil (And.intro @rm_nil (And.intro @re_nil (k0))))))); exact Ret.dk [0, 1, 2, 3])
  by_cases k2 : 19 < k
  · have g1 : (k < 1) = False := eq_false k1
    have g2 : (19 < k) = True := eq_true k2
    have e1 : finE L k = 1 := by unfold finE; rw [if_pos (.inr k2)]
    have e2 : finW L k = noW := by unfold finW; rw [e1]; rfl
    rw [e1, e2]
    refine ACall.startA c9_ok Tryz.func9 rfl Tryz.ntmps9 (by kernel_rfl) res9_ok rfl rfl rfl ?_; simp (maxSteps := 9999999) (disch := omega) only [go_sem]
    refine AWpA.dummy ?_
    refine AWpA.dummy ?_
    refine AWpA.dummy ?_
    (have k9 := And.intro @hi (And.intro @hm (And.intro @he (And.intro @hP (And.intro @g1 (And.intro @g2 (k0)))))); refine goK ?_; (try clear k9))
    (have k9 := And.intro @hi (And.intro @hm (And.intro @he (And.intro @hP (And.intro @ri_nil (And.intro @rm_nil (And.intro @re_nil (k0))))))); exact Ret.dk [0, 1, 2, 3])
  have g1 : (k < 1) = False := eq_false k1
  have g2 : (19 < k) = False := eq_false k2
  have hss := fun i h => (st_same L k i h).1
  have hs9 := st_same L k 9 (Nat.le_refl _)
  have hle : ∀ i, i ≤ 9 → (stD L k i).1.a ≤ L.length := fun i h => by rw [← hss i h]; exact stP_le hb i h
  have hnil := fun i h => stD_nil (L := L) (k := k) i h
  have h0 : stD L k 0 = (⟨0, 0⟩, { noW with kind := k }) := rfl
  refine ACall.startA c9_ok Tryz.func9 rfl Tryz.ntmps9 (by kernel_rfl) res9_ok rfl rfl rfl ?_; simp (maxSteps := 9999999) (disch := omega) only [go_sem]
  refine AWpA.dummy ?_
  refine AWpA.dummy ?_
  refine AWpA.dummy ?_
  (have k9 := And.intro @hi (And.intro @hm (And.intro @he (And.intro @hP (And.intro @g1 (And.intro @g2 (k0)))))); refine goK ?_; (try clear k9))
  (apply AWpA.loopL (fun i : Nat => [(0, I k), (4, .ptr 6 0), (6, .ptr 4 0), (7, .ptr 5 0), (8, I i)]) (fun i => [.cells true P, .cells false (Ri 0 (stD L k i).2.peers), .cells false (Rm 0 (stD L k i).2.marks), .cells false (Re 0 (stD L k i).2.ents), .cells false [.sl 0 off L.length 1 none, I ((stD L k i).1.a : Int), I (stD L k i).1.e], .cells false (WmL (stD L k i).2 1 0 2 0 3 0), .cells false [I 0, I 0, I 0, Bo false, .val (.slice none 0 0), I 0, U64 0, I 0, I 0, Str ⟨#[]⟩, .val (.slice none 0 0), .val (.slice none 0 0)]]) (fun i => 9 - i) (fun i => i ≤ 9) (0) [0, 1, 2, 3, 164, 228, 4]; rotate_left; (focus (simp (maxSteps := 9999999) (disch := omega) only [go_sem, hi, hm, he, hP, h0, ri_nil, rm_nil, re_nil, List.length_nil]; (try (repeat' (first | done | trivial | rfl | exact leAs_rfl _ | decide | (refine And.intro ?_ ?_) | (simp; done) | omega | (simp; decide)))))); rotate_right)
  · exact Nat.zero_le _
  rintro i hi9
  (try simp only at hi9)
  have hle := hle i hi9
  by_cases hin : i < 9
  · have hY := fun (h : hasF k i = true) => stD_yes (L := L) h
    have hN := fun (h : hasF k i = false) => stD_no (L := L) h
    obtain ⟨nl1, nl2, nl3⟩ := hnil i hi9
    clear hnil hs9 hss h0
    rcases (show i = 0 ∨ i = 1 ∨ i = 2 ∨ i = 3 ∨ i = 4 ∨ i = 5 ∨ i = 6 ∨ i = 7 ∨ i = 8 by omega) with rfl | rfl | rfl | rfl | rfl | rfl | rfl | rfl | rfl
    · have c0 := has0_any k
      cases hh : hasF k 0 with
      | false =>
        rw [hh] at c0
        have hS := hN hh
        clear hY hN hle nl1 nl2 nl3
        simp only [Nat.reduceAdd] at hS
        generalize stD L k 0 = p at *
        (try simp (maxSteps := 9999999) (disch := omega) only [go_sem])
        (have k9 := And.intro @hi (And.intro @hm (And.intro @he (And.intro @hP (k0)))); have a1 := Arm.mk [] c0; refine goK ?_; (try clear k9); (try clear a1))
        (have k9 := And.intro @hi (And.intro @hm (And.intro @he (And.intro @hP (And.intro @hS (k0))))); refine Back.tk 1 [0, 1, 2, 3, 4, 5, 6] ?_)
        omega
      | true =>
        rw [hh] at c0
        have hS := hY hh
        have c1 := one0_any s hb (stD L k 0).1 hle (stD L k 0).2 _ rfl _ rfl
        have e1 : (setF 0 (stD L k 0).2 ((fRD 0).val L (stD L k 0).1)).peers = (stD L k 0).2.peers := rfl
        have e2 : (setF 0 (stD L k 0).2 ((fRD 0).val L (stD L k 0).1)).marks = (stD L k 0).2.marks := rfl
        have e3 : (setF 0 (stD L k 0).2 ((fRD 0).val L (stD L k 0).1)).ents = (stD L k 0).2.ents := rfl
        clear hY hN hle nl1 nl2 nl3
        simp only [Nat.reduceAdd] at hS
        generalize (fRD 0).cur L (stD L k 0).1 = d at *
        generalize setF 0 (stD L k 0).2 ((fRD 0).val L (stD L k 0).1) = y at *
        generalize stD L k 0 = p at *
        (try simp (maxSteps := 9999999) (disch := omega) only [go_sem])
        (have k9 := And.intro @hi (And.intro @hm (And.intro @he (And.intro @hP (k0)))); have a1 := Arm.mk [] c0; have a2 := Arm.mk [0, 1, 2, 3] c1; refine goK ?_; (try clear k9); (try clear a1); (try clear a2))
        (have k9 := And.intro @hi (And.intro @hm (And.intro @he (And.intro @hP (And.intro @hS (And.intro @e1 (And.intro @e2 (And.intro @e3 (k0)))))))); refine Back.tk 1 [0, 1, 2, 3, 4, 5, 6] ?_)
        omega
    · have c0 := has1_any k
      cases hh : hasF k 1 with
      | false =>
        rw [hh] at c0
        have hS := hN hh
        clear hY hN hle nl1 nl2 nl3
        simp only [Nat.reduceAdd] at hS
        generalize stD L k 1 = p at *
        (try simp (maxSteps := 9999999) (disch := omega) only [go_sem])
        (have k9 := And.intro @hi (And.intro @hm (And.intro @he (And.intro @hP (k0)))); have a1 := Arm.mk [] c0; refine goK ?_; (try clear k9); (try clear a1))
        (have k9 := And.intro @hi (And.intro @hm (And.intro @he (And.intro @hP (And.intro @hS (k0))))); refine Back.tk 2 [0, 1, 2, 3, 4, 5, 6] ?_)
        omega
      | true =>
        rw [hh] at c0
        have hS := hY hh
        have c1 := one1_any s hb (stD L k 1).1 hle (stD L k 1).2 _ rfl _ rfl
        have e1 : (setF 1 (stD L k 1).2 ((fRD 1).val L (stD L k 1).1)).peers = (stD L k 1).2.peers := rfl
        have e2 : (setF 1 (stD L k 1).2 ((fRD 1).val L (stD L k 1).1)).marks = (stD L k 1).2.marks := rfl
        have e3 : (setF 1 (stD L k 1).2 ((fRD 1).val L (stD L k 1).1)).ents = (stD L k 1).2.ents := rfl
        clear hY hN hle nl1 nl2 nl3
        simp only [Nat.reduceAdd] at hS
        generalize (fRD 1).cur L (stD L k 1).1 = d at *
        generalize setF 1 (stD L k 1).2 ((fRD 1).val L (stD L k 1).1) = y at *
        generalize stD L k 1 = p at *
        (try simp (maxSteps := 9999999) (disch := omega) only [go_sem])
        (have k9 := And.intro @hi (And.intro @hm (And.intro @he (And.intro @hP (k0)))); have a1 := Arm.mk [] c0; have a2 := Arm.mk [0, 1, 2, 3] c1; refine goK ?_; (try clear k9); (try clear a1); (try clear a2))
        (have k9 := And.intro @hi (And.intro @hm (And.intro @he (And.intro @hP (And.intro @hS (And.intro @e1 (And.intro @e2 (And.intro @e3 (k0)))))))); refine Back.tk 2 [0, 1, 2, 3, 4, 5, 6] ?_)
        omega
    · have c0 := has2_any k
      cases hh : hasF k 2 with
      | false =>
        rw [hh] at c0
        have hS := hN hh
        clear hY hN hle nl1 nl2 nl3
        simp only [Nat.reduceAdd] at hS
        generalize stD L k 2 = p at *
        (try simp (maxSteps := 9999999) (disch := omega) only [go_sem])
        (have k9 := And.intro @hi (And.intro @hm (And.intro @he (And.intro @hP (k0)))); have a1 := Arm.mk [] c0; refine goK ?_; (try clear k9); (try clear a1))
        (have k9 := And.intro @hi (And.intro @hm (And.intro @he (And.intro @hP (And.intro @hS (k0))))); refine Back.tk 3 [0, 1, 2, 3, 4, 5, 6] ?_)
        omega
      | true =>
        rw [hh] at c0
        have hS := hY hh
        have c1 := one2_any s hb (stD L k 2).1 hle (stD L k 2).2 _ rfl _ rfl
        have e1 : (setF 2 (stD L k 2).2 ((fRD 2).val L (stD L k 2).1)).peers = (stD L k 2).2.peers := rfl
        have e2 : (setF 2 (stD L k 2).2 ((fRD 2).val L (stD L k 2).1)).marks = (stD L k 2).2.marks := rfl
        have e3 : (setF 2 (stD L k 2).2 ((fRD 2).val L (stD L k 2).1)).ents = (stD L k 2).2.ents := rfl
        clear hY hN hle nl1 nl2 nl3
        simp only [Nat.reduceAdd] at hS
        generalize (fRD 2).cur L (stD L k 2).1 = d at *
        generalize setF 2 (stD L k 2).2 ((fRD 2).val L (stD L k 2).1) = y at *
        generalize stD L k 2 = p at *
        (try simp (maxSteps := 9999999) (disch := omega) only [go_sem])
        (have k9 := And.intro @hi (And.intro @hm (And.intro @he (And.intro @hP (k0)))); have a1 := Arm.mk [] c0; have a2 := Arm.mk [0, 1, 2, 3] c1; refine goK ?_; (try clear k9); (try clear a1); (try clear a2))
        (have k9 := And.intro @hi (And.intro @hm (And.intro @he (And.intro @hP (And.intro @hS (And.intro @e1 (And.intro @e2 (And.intro @e3 (k0)))))))); refine Back.tk 3 [0, 1, 2, 3, 4, 5, 6] ?_)
        omega
    · have c0 := has3_any k
      cases hh : hasF k 3 with
      | false =>
        rw [hh] at c0
        have hS := hN hh
        clear hY hN hle nl1 nl2 nl3
        simp only [Nat.reduceAdd] at hS
        generalize stD L k 3 = p at *
        (try simp (maxSteps := 9999999) (disch := omega) only [go_sem])
        (have k9 := And.intro @hi (And.intro @hm (And.intro @he (And.intro @hP (k0)))); have a1 := Arm.mk [] c0; refine goK ?_; (try clear k9); (try clear a1))
        (have k9 := And.intro @hi (And.intro @hm (And.intro @he (And.intro @hP (And.intro @hS (k0))))); refine Back.tk 4 [0, 1, 2, 3, 4, 5, 6] ?_)
        omega
      | true =>
        rw [hh] at c0
        have hS := hY hh
        have c1 := one3_any s hb (stD L k 3).1 hle (stD L k 3).2 (nl1 (by decide)) _ rfl _ rfl
        have e2 : (setF 3 (stD L k 3).2 ((fRD 3).val L (stD L k 3).1)).marks = (stD L k 3).2.marks := rfl
        have e3 : (setF 3 (stD L k 3).2 ((fRD 3).val L (stD L k 3).1)).ents = (stD L k 3).2.ents := rfl
        clear hY hN hle nl1 nl2 nl3
        simp only [Nat.reduceAdd] at hS
        generalize (fRD 3).cur L (stD L k 3).1 = d at *
        generalize setF 3 (stD L k 3).2 ((fRD 3).val L (stD L k 3).1) = y at *
        generalize stD L k 3 = p at *
        (try simp (maxSteps := 9999999) (disch := omega) only [go_sem])
        (have k9 := And.intro @hi (And.intro @hm (And.intro @he (And.intro @hP (k0)))); have a1 := Arm.mk [] c0; have a2 := Arm.mk [0, 1, 2, 3] c1; refine goK ?_; (try clear k9); (try clear a1); (try clear a2))
        (have k9 := And.intro @hi (And.intro @hm (And.intro @he (And.intro @hP (And.intro @hS (And.intro @e2 (And.intro @e3 (k0))))))); refine Back.tk 4 [0, 135, 2, 3, 4, 5, 6] ?_)
        omega
    · have c0 := has4_any k
      cases hh : hasF k 4 with
      | false =>
        rw [hh] at c0
        have hS := hN hh
        clear hY hN hle nl1 nl2 nl3
        simp only [Nat.reduceAdd] at hS
        generalize stD L k 4 = p at *
        (try simp (maxSteps := 9999999) (disch := omega) only [go_sem])
        (have k9 := And.intro @hi (And.intro @hm (And.intro @he (And.intro @hP (k0)))); have a1 := Arm.mk [] c0; refine goK ?_; (try clear k9); (try clear a1))
        (have k9 := And.intro @hi (And.intro @hm (And.intro @he (And.intro @hP (And.intro @hS (k0))))); refine Back.tk 5 [0, 1, 2, 3, 4, 5, 6] ?_)
        omega
      | true =>
        rw [hh] at c0
        have hS := hY hh
        have c1 := one4_any s hb (stD L k 4).1 hle (stD L k 4).2 _ rfl _ rfl
        have e1 : (setF 4 (stD L k 4).2 ((fRD 4).val L (stD L k 4).1)).peers = (stD L k 4).2.peers := rfl
        have e2 : (setF 4 (stD L k 4).2 ((fRD 4).val L (stD L k 4).1)).marks = (stD L k 4).2.marks := rfl
        have e3 : (setF 4 (stD L k 4).2 ((fRD 4).val L (stD L k 4).1)).ents = (stD L k 4).2.ents := rfl
        clear hY hN hle nl1 nl2 nl3
        simp only [Nat.reduceAdd] at hS
        generalize (fRD 4).cur L (stD L k 4).1 = d at *
        generalize setF 4 (stD L k 4).2 ((fRD 4).val L (stD L k 4).1) = y at *
        generalize stD L k 4 = p at *
        (try simp (maxSteps := 9999999) (disch := omega) only [go_sem])
        (have k9 := And.intro @hi (And.intro @hm (And.intro @he (And.intro @hP (k0)))); have a1 := Arm.mk [] c0; have a2 := Arm.mk [0, 1, 2, 3] c1; refine goK ?_; (try clear k9); (try clear a1); (try clear a2))
        (have k9 := And.intro @hi (And.intro @hm (And.intro @he (And.intro @hP (And.intro @hS (And.intro @e1 (And.intro @e2 (And.intro @e3 (k0)))))))); refine Back.tk 5 [0, 1, 2, 3, 4, 5, 6] ?_)
        omega
    · have c0 := has5_any k
      cases hh : hasF k 5 with
      | false =>
        rw [hh] at c0
        have hS := hN hh
        clear hY hN hle nl1 nl2 nl3
        simp only [Nat.reduceAdd] at hS
        generalize stD L k 5 = p at *
        (try simp (maxSteps := 9999999) (disch := omega) only [go_sem])
        (have k9 := And.intro @hi (And.intro @hm (And.intro @he (And.intro @hP (k0)))); have a1 := Arm.mk [] c0; refine goK ?_; (try clear k9); (try clear a1))
        (have k9 := And.intro @hi (And.intro @hm (And.intro @he (And.intro @hP (And.intro @hS (k0))))); refine Back.tk 6 [0, 1, 2, 3, 4, 5, 6] ?_)
        omega
      | true =>
        rw [hh] at c0
        have hS := hY hh
        have c1 := one5_any s hb (stD L k 5).1 hle (stD L k 5).2 _ rfl _ rfl
        have e1 : (setF 5 (stD L k 5).2 ((fRD 5).val L (stD L k 5).1)).peers = (stD L k 5).2.peers := rfl
        have e2 : (setF 5 (stD L k 5).2 ((fRD 5).val L (stD L k 5).1)).marks = (stD L k 5).2.marks := rfl
        have e3 : (setF 5 (stD L k 5).2 ((fRD 5).val L (stD L k 5).1)).ents = (stD L k 5).2.ents := rfl
        clear hY hN hle nl1 nl2 nl3
        simp only [Nat.reduceAdd] at hS
        generalize (fRD 5).cur L (stD L k 5).1 = d at *
        generalize setF 5 (stD L k 5).2 ((fRD 5).val L (stD L k 5).1) = y at *
        generalize stD L k 5 = p at *
        (try simp (maxSteps := 9999999) (disch := omega) only [go_sem])
        (have k9 := And.intro @hi (And.intro @hm (And.intro @he (And.intro @hP (k0)))); have a1 := Arm.mk [] c0; have a2 := Arm.mk [0, 1, 2, 3] c1; refine goK ?_; (try clear k9); (try clear a1); (try clear a2))
        (have k9 := And.intro @hi (And.intro @hm (And.intro @he (And.intro @hP (And.intro @hS (And.intro @e1 (And.intro @e2 (And.intro @e3 (k0)))))))); refine Back.tk 6 [0, 1, 2, 3, 4, 5, 6] ?_)
        omega
    · have c0 := has6_any k
      cases hh : hasF k 6 with
      | false =>
        rw [hh] at c0
        have hS := hN hh
        clear hY hN hle nl1 nl2 nl3
        simp only [Nat.reduceAdd] at hS
        generalize stD L k 6 = p at *
        (try simp (maxSteps := 9999999) (disch := omega) only [go_sem])
        (have k9 := And.intro @hi (And.intro @hm (And.intro @he (And.intro @hP (k0)))); have a1 := Arm.mk [] c0; refine goK ?_; (try clear k9); (try clear a1))
        (have k9 := And.intro @hi (And.intro @hm (And.intro @he (And.intro @hP (And.intro @hS (k0))))); refine Back.tk 7 [0, 1, 2, 3, 4, 5, 6] ?_)
        omega
      | true =>
        rw [hh] at c0
        have hS := hY hh
        have c1 := one6_any s hb (stD L k 6).1 hle (stD L k 6).2 _ rfl _ rfl
        have e1 : (setF 6 (stD L k 6).2 ((fRD 6).val L (stD L k 6).1)).peers = (stD L k 6).2.peers := rfl
        have e2 : (setF 6 (stD L k 6).2 ((fRD 6).val L (stD L k 6).1)).marks = (stD L k 6).2.marks := rfl
        have e3 : (setF 6 (stD L k 6).2 ((fRD 6).val L (stD L k 6).1)).ents = (stD L k 6).2.ents := rfl
        clear hY hN hle nl1 nl2 nl3
        simp only [Nat.reduceAdd] at hS
        generalize (fRD 6).cur L (stD L k 6).1 = d at *
        generalize setF 6 (stD L k 6).2 ((fRD 6).val L (stD L k 6).1) = y at *
        generalize stD L k 6 = p at *
        (try simp (maxSteps := 9999999) (disch := omega) only [go_sem])
        (have k9 := And.intro @hi (And.intro @hm (And.intro @he (And.intro @hP (k0)))); have a1 := Arm.mk [] c0; have a2 := Arm.mk [0, 1, 2, 3] c1; refine goK ?_; (try clear k9); (try clear a1); (try clear a2))
        (have k9 := And.intro @hi (And.intro @hm (And.intro @he (And.intro @hP (And.intro @hS (And.intro @e1 (And.intro @e2 (And.intro @e3 (k0)))))))); refine Back.tk 7 [0, 1, 2, 3, 4, 5, 6] ?_)
        omega
    · have c0 := has7_any k
      cases hh : hasF k 7 with
      | false =>
        rw [hh] at c0
        have hS := hN hh
        clear hY hN hle nl1 nl2 nl3
        simp only [Nat.reduceAdd] at hS
        generalize stD L k 7 = p at *
        (try simp (maxSteps := 9999999) (disch := omega) only [go_sem])
        (have k9 := And.intro @hi (And.intro @hm (And.intro @he (And.intro @hP (k0)))); have a1 := Arm.mk [] c0; refine goK ?_; (try clear k9); (try clear a1))
        (have k9 := And.intro @hi (And.intro @hm (And.intro @he (And.intro @hP (And.intro @hS (k0))))); refine Back.tk 8 [0, 1, 2, 3, 4, 5, 6] ?_)
        omega
      | true =>
        rw [hh] at c0
        have hS := hY hh
        have c1 := one7_any s hb (stD L k 7).1 hle (stD L k 7).2 (nl2 (by decide)) _ rfl _ rfl
        have e1 : (setF 7 (stD L k 7).2 ((fRD 7).val L (stD L k 7).1)).peers = (stD L k 7).2.peers := rfl
        have e3 : (setF 7 (stD L k 7).2 ((fRD 7).val L (stD L k 7).1)).ents = (stD L k 7).2.ents := rfl
        clear hY hN hle nl1 nl2 nl3
        simp only [Nat.reduceAdd] at hS
        generalize (fRD 7).cur L (stD L k 7).1 = d at *
        generalize setF 7 (stD L k 7).2 ((fRD 7).val L (stD L k 7).1) = y at *
        generalize stD L k 7 = p at *
        (try simp (maxSteps := 9999999) (disch := omega) only [go_sem])
        (have k9 := And.intro @hi (And.intro @hm (And.intro @he (And.intro @hP (k0)))); have a1 := Arm.mk [] c0; have a2 := Arm.mk [0, 1, 2, 3] c1; refine goK ?_; (try clear k9); (try clear a1); (try clear a2))
        (have k9 := And.intro @hi (And.intro @hm (And.intro @he (And.intro @hP (And.intro @hS (And.intro @e1 (And.intro @e3 (k0))))))); refine Back.tk 8 [0, 1, 135, 3, 4, 5, 6] ?_)
        omega
    · have c0 := has8_any k
      cases hh : hasF k 8 with
      | false =>
        rw [hh] at c0
        have hS := hN hh
        clear hY hN hle nl1 nl2 nl3
        simp only [Nat.reduceAdd] at hS
        generalize stD L k 8 = p at *
        (try simp (maxSteps := 9999999) (disch := omega) only [go_sem])
        (have k9 := And.intro @hi (And.intro @hm (And.intro @he (And.intro @hP (k0)))); have a1 := Arm.mk [] c0; refine goK ?_; (try clear k9); (try clear a1))
        (have k9 := And.intro @hi (And.intro @hm (And.intro @he (And.intro @hP (And.intro @hS (k0))))); refine Back.tk 9 [0, 1, 2, 3, 4, 5, 6] ?_)
        omega
      | true =>
        rw [hh] at c0
        have hS := hY hh
        have c1 := one8_any s hb (stD L k 8).1 hle (stD L k 8).2 (nl3 (by decide)) _ rfl _ rfl
        have e1 : (setF 8 (stD L k 8).2 ((fRD 8).val L (stD L k 8).1)).peers = (stD L k 8).2.peers := rfl
        have e2 : (setF 8 (stD L k 8).2 ((fRD 8).val L (stD L k 8).1)).marks = (stD L k 8).2.marks := rfl
        clear hY hN hle nl1 nl2 nl3
        simp only [Nat.reduceAdd] at hS
        generalize (fRD 8).cur L (stD L k 8).1 = d at *
        generalize setF 8 (stD L k 8).2 ((fRD 8).val L (stD L k 8).1) = y at *
        generalize stD L k 8 = p at *
        (try simp (maxSteps := 9999999) (disch := omega) only [go_sem])
        (have k9 := And.intro @hi (And.intro @hm (And.intro @he (And.intro @hP (k0)))); have a1 := Arm.mk [] c0; have a2 := Arm.mk [0, 1, 2, 3] c1; refine goK ?_; (try clear k9); (try clear a1); (try clear a2))
        (have k9 := And.intro @hi (And.intro @hm (And.intro @he (And.intro @hP (And.intro @hS (And.intro @e1 (And.intro @e2 (k0))))))); refine Back.tk 9 [0, 1, 2, 135, 4, 5, 6] ?_)
        omega
  · obtain rfl : i = 9 := by omega
    have hlen := stD_len (k := k) hb 9 (Nat.le_refl _)
    have hm9 := hs9.2
    rw [hs9.1] at hm9
    have hE : finE L k = doneE (if (stD L k 9).1.e = 0 ∧ goodW (stP L k 9).2 ≠ 0 then 4 else (stD L k 9).1.e) (L.length - (stD L k 9).1.a) := by
      unfold finE
      rw [if_neg (by omega)]
      unfold endC doneC
      rw [hs9.1]
    have hW : finW L k = if finE L k = 0 then (stP L k 9).2 else noW := rfl
    have hd0 : ∀ (e : Int) (n : Nat), e ≠ 0 → doneE e n ≠ 0 := fun e n h => by
      unfold doneE
      rw [failI_stick h]
      cases decide (0 < n) <;> exact h
    clear hnil hs9 hss h0
    generalize finE L k = E at *
    generalize finW L k = W at *
    generalize stP L k 9 = pp at *
    generalize stD L k 9 = p at *
    obtain ⟨⟨pa, pe⟩, m⟩ := p
    obtain ⟨pc, m'⟩ := pp
    simp only at *
    have r1 := rgood16_any m 0 0 0 (by omega)
    have g9 : ((9 : Int) < 9) = False := eq_false (by omega)
    by_cases h1 : pe = 0
    · subst h1
      obtain rfl := hm9 rfl
      by_cases h2 : goodW m' = 0
      · rw [if_neg fun h => h.2 h2] at hE
        have d1 := cdone_any s ⟨pa, 0⟩ hle
        unfold doneC at d1
        simp only at d1
        rw [← hE] at d1
        rw [h2] at r1
        by_cases h3 : E = 0
        · rw [if_pos h3] at hW
          subst hW
          subst h3
          clear hd0
          (try simp (maxSteps := 9999999) (disch := omega) only [go_sem])
          (have k9 := And.intro @hi (And.intro @hm (And.intro @he (And.intro @hP (And.intro @hi (And.intro @hm (And.intro @he (And.intro @hP (k0)))))))); have a1 := Arm.mk [1, 2, 3] r1; have a2 := Arm.mk [0] d1; have e9 := Ends.mk [0, 1, 2, 3]; exact goE)
        · rw [if_neg h3] at hW
          subst hW
          have g3 : (E == 0) = false := by simpa using h3
          clear hd0
          (try simp (maxSteps := 9999999) (disch := omega) only [go_sem])
          refine AWpA.dummy ?_
          refine AWpA.dummy ?_
          refine AWpA.dummy ?_
          (have k9 := And.intro @hi (And.intro @hm (And.intro @he (And.intro @hP (And.intro @g3 (And.intro @hi (And.intro @hm (And.intro @he (And.intro @hP (And.intro @ri_nil (And.intro @rm_nil (And.intro @re_nil (k0)))))))))))); have a1 := Arm.mk [1, 2, 3] r1; have a2 := Arm.mk [0] d1; have e9 := Ends.mk [0, 7, 8, 9]; exact goE)
      · rw [if_pos ⟨rfl, h2⟩] at hE
        have h3 : E ≠ 0 := by rw [hE]; exact hd0 4 _ (by decide)
        have d1 := cdone_any s ⟨pa, 4⟩ hle
        unfold doneC at d1
        simp only at d1
        rw [← hE] at d1
        rw [if_neg h3] at hW
        subst hW
        have g3 : (E == 0) = false := by simpa using h3
        have g2 : (goodW m' == 0) = false := by simpa using h2
        generalize goodW m' = q at *
        clear hd0
        (try simp (maxSteps := 9999999) (disch := omega) only [go_sem])
        refine AWpA.dummy ?_
        refine AWpA.dummy ?_
        refine AWpA.dummy ?_
        (have k9 := And.intro @hi (And.intro @hm (And.intro @he (And.intro @hP (And.intro @g2 (And.intro @g3 (And.intro @hi (And.intro @hm (And.intro @he (And.intro @hP (And.intro @ri_nil (And.intro @rm_nil (And.intro @re_nil (k0))))))))))))); have a1 := Arm.mk [1, 2, 3] r1; have a2 := Arm.mk [0] d1; have e9 := Ends.mk [0, 7, 8, 9]; exact goE)
    · rw [if_neg fun h => h1 h.1] at hE
      have h3 : E ≠ 0 := by rw [hE]; exact hd0 _ _ h1
      have d1 := cdone_any s ⟨pa, pe⟩ hle
      unfold doneC at d1
      simp only at d1
      rw [← hE] at d1
      rw [if_neg h3] at hW
      subst hW
      have g3 : (E == 0) = false := by simpa using h3
      have g1' : (pe == 0) = false := by simpa using h1
      clear hd0 hm9 r1
      (try simp (maxSteps := 9999999) (disch := omega) only [go_sem])
      refine AWpA.dummy ?_
      refine AWpA.dummy ?_
      refine AWpA.dummy ?_
      (have k9 := And.intro @hi (And.intro @hm (And.intro @he (And.intro @hP (And.intro @g1' (And.intro @g3 (And.intro @hi (And.intro @hm (And.intro @he (And.intro @hP (And.intro @ri_nil (And.intro @rm_nil (And.intro @re_nil (k0))))))))))))); have a1 := Arm.mk [0] d1; have e9 := Ends.mk [0, 7, 8, 9]; exact goE)
end
end Go.Proofs.YtopidfkmligljaaGreat
