/- Contracts: numbers, marks and lists are taken. -/
import Derived.Test.YtopidfkmligljaaGreatEg5
import Derived.Test.YtopidfkmligljaaGreatWq3
import Derived.Test.YtopidfkmligljaaGreatAb
namespace Go.Proofs.YtopidfkmligljaaGreat
noncomputable section
set_option linter.unusedSimpArgs false
set_option linter.unusedVariables false
set_option maxHeartbeats 4000000
open Go Go.Am Go.RowKit
set_option maxRecDepth 100000
set_option maxHeartbeats 8000000
/- quidnunc/wire.takeNode -/
def c63_1 : ACode := .region false [⟨some 2, .move, [.c (.val (.int .i64 0))], none⟩] [] [] [0] false [] []
def c63_3 : ACode := .region false [⟨some 3, .move, [.t 0], none⟩,
  ⟨some 4, .call 70, [.t 3, .c (.val (.int .i64 1))], none⟩,
  ⟨some 5, .conv .i64, [.t 4], none⟩,
  ⟨some 2, .move, [.t 5], none⟩] [] [] [2] true [] []
def c63_2 : ACode := .seq c63_3 .ret
def c63_0 : ACode := .seq c63_1 c63_2
def code63 : Code := (Tryz.f63.body).getD .skip
theorem c63_ok : compC Tryz.prog 6 code63 = some (strip c63_0) := by kernel_rfl
theorem res63_ok : Tryz.f63.results.toList.mapM (resC Tryz.prog) = some [(2, none)] := by kernel_rfl
/- quidnunc/wire.takeMark -/
def c73_1 : ACode := .region false [⟨some 2, .alloc [(.int .i64 0), (.int .i64 0), (.string ⟨#[]⟩)], [], none⟩] [] [] [0, 2] true [] []
def c73_3 : ACode := .region false [⟨some 3, .alloc [(.int .i64 0), (.int .i64 0), (.string ⟨#[]⟩)], [], none⟩] [] [] [0, 2, 3] true [] []
def c73_5 : ACode := .region false [⟨some 4, .move, [.t 0], none⟩,
  ⟨some 5, .call 70, [.t 4, .c (.val (.int .i64 4))], none⟩,
  ⟨some 6, .conv .i64, [.t 5], none⟩,
  ⟨some 7, .addr 0, [.t 3], none⟩,
  ⟨some 8, .addr 0, [.t 7], none⟩,
  ⟨none, .store 1, [.t 8, .t 6], none⟩] [] [] [0, 2, 3] true [] []
def c73_7 : ACode := .region false [⟨some 9, .move, [.t 0], none⟩,
  ⟨some 10, .call 70, [.t 9, .c (.val (.int .i64 1))], none⟩,
  ⟨some 11, .conv .i64, [.t 10], none⟩,
  ⟨some 12, .addr 0, [.t 3], none⟩,
  ⟨some 13, .addr 1, [.t 12], none⟩,
  ⟨none, .store 1, [.t 13, .t 11], none⟩] [] [] [0, 2, 3] true [] []
def c73_9 : ACode := .region false [⟨some 14, .move, [.t 0], none⟩,
  ⟨some 15, .call 128, [.t 14, .c (.val (.int .i64 16))], none⟩,
  ⟨some 16, .addr 2, [.t 3], none⟩,
  ⟨none, .store 1, [.t 16, .t 15], none⟩] [] [] [2, 3] true [] []
def c73_11 : ACode := .region false [⟨some 17, .load true 3, [.t 3], none⟩,
  ⟨none, .store 3, [.t 2, .t 17], none⟩] [] [] [2] true [] []
def c73_10 : ACode := .seq c73_11 .ret
def c73_8 : ACode := .seq c73_9 c73_10
def c73_6 : ACode := .seq c73_7 c73_8
def c73_4 : ACode := .seq c73_5 c73_6
def c73_2 : ACode := .seq c73_3 c73_4
def c73_0 : ACode := .seq c73_1 c73_2
def code73 : Code := (Tryz.f73.body).getD .skip
theorem c73_ok : compC Tryz.prog 18 code73 = some (strip c73_0) := by kernel_rfl
theorem res73_ok : Tryz.f73.results.toList.mapM (resC Tryz.prog) = some [(2, some (true, 3))] := by kernel_rfl
theorem numV_256 {L : List Int} (hb : bytesB L) (c : Cu) : 0 ≤ numV L 1 c ∧ numV L 1 c < 256 := by
  have := numV_lt hb 1 c
  simpa using this
theorem takenode_any {L : List Int} (hL : L.length ≤ 1099511627776) (hb : bytesB L) (c : Cu) (ha : c.a ≤ L.length) : ACall Tryz.prog 63 [.ptr 0 0] [RdO 1 c.a L.length c.e, .cells true (bA L)] (Det (I ((numR 1).val L c)) [RdO 1 ((numR 1).cur L c).a L.length ((numR 1).cur L c).e, .cells true (bA L)]) := by
  have r1 := rnum_any hL hb c ha 1
  have b1 := numV_256 hb c
  show ACall Tryz.prog _ _ _ (Det (I (numV L 1 c)) [RdO 1 (numC L 1 c).a L.length (numC L 1 c).e, .cells true (bA L)])
  generalize numV L 1 c = v at *
  generalize numC L 1 c = d at *
  refine ACall.startA c63_ok Tryz.func63 rfl Tryz.ntmps63 (by kernel_rfl) res63_ok rfl rfl rfl ?_; simp (maxSteps := 9999999) (disch := omega) only [go_sem]
  (have k9 := k0; have a1 := Arm.mk [0, 1] r1; have e9 := Ends.mk [0, 1]; exact goE)
theorem takemark_any {L : List Int} (hL : L.length ≤ 1099511627776) (hb : bytesB L) (c : Cu) (ha : c.a ≤ L.length) : ACall Tryz.prog 73 [.ptr 0 0] [RdO 1 c.a L.length c.e, .cells true (bA L)] (Det (MkG (mkR.val L c)) [RdO 1 (mkR.cur L c).a L.length (mkR.cur L c).e, .cells true (bA L)]) := by
  have l1 : (numC L 4 c).a ≤ L.length := numC_le ha
  have l2 : (numC L 1 (numC L 4 c)).a ≤ L.length := numC_le l1
  have r1 := rnum_any hL hb c ha 4
  have r2 := rnum_any hL hb (numC L 4 c) l1 1
  have r3 := rtext_any hL hb (numC L 1 (numC L 4 c)) l2 16
  have b0 := numV_lt hb 4 c
  have b1 := numV_256 hb (numC L 4 c)
  simp only [show (4 : Int).toNat = 4 from rfl, Int.reducePow] at b0
  show ACall Tryz.prog _ _ _ (Det (MkG ⟨⟨numV L 4 c, numV L 1 (numC L 4 c)⟩, textV L 16 (numC L 1 (numC L 4 c))⟩) [RdO 1 (textC L 16 (numC L 1 (numC L 4 c))).a L.length (textC L 16 (numC L 1 (numC L 4 c))).e, .cells true (bA L)])
  generalize numV L 4 c = v1 at *
  generalize numV L 1 (numC L 4 c) = v2 at *
  generalize textV L 16 (numC L 1 (numC L 4 c)) = v3 at *
  generalize textC L 16 (numC L 1 (numC L 4 c)) = c3 at *
  generalize numC L 1 (numC L 4 c) = c2 at *
  generalize numC L 4 c = c1 at *
  refine ACall.startA c73_ok Tryz.func73 rfl Tryz.ntmps73 (by kernel_rfl) res73_ok rfl rfl rfl ?_; simp (maxSteps := 9999999) (disch := omega) only [go_sem]
  (have k9 := k0; have a1 := Arm.mk [0, 1] r1; have a2 := Arm.mk [0, 1] r2; have a3 := Arm.mk [0, 1] r3; have e9 := Ends.mk [0, 1]; exact goE)
/- quidnunc/wire.takeAll[int] -/
def c68_1 : ACode := .region false [⟨some 4, .move, [.c (.val (.slice none 0 0))], none⟩] [] [] [0, 1] false [] []
def c68_3 : ACode := .region false [⟨some 8, .move, [.t 0], none⟩,
  ⟨some 9, .call 70, [.t 8, .c (.val (.int .i64 1))], none⟩,
  ⟨some 10, .conv .i64, [.t 9], none⟩,
  ⟨some 5, .move, [.t 10], none⟩] [] [] [0, 1, 5] true [] []
def c68_6 : ACode := .region false [⟨some 11, .move, [.t 5], none⟩,
  ⟨some 12, .bin .gtr, [.t 11, .c (.val (.int .i64 8))], none⟩] [] [] [0, 1, 5, 12] false [] []
def c68_8 : ACode := .region false [⟨some 13, .move, [.t 0], none⟩,
  ⟨some 14, .nilChk, [.t 13], none⟩,
  ⟨some 15, .addr 0, [.t 14], none⟩,
  ⟨some 16, .call 26, [.t 15, .c (.val (.int .i64 4))], none⟩] [] [] [0, 1, 5] true [] []
def c68_7 : ACode := .cond (.t 12) c68_8 .skip
def c68_5 : ACode := .seq c68_6 c68_7
def c68_10 : ACode := .region false [⟨some 6, .move, [.c (.val (.slice none 0 0))], none⟩] [] [] [0, 1, 5, 6] false [] []
def c68_13 : ACode := .region false [⟨some 7, .move, [.c (.val (.int .i64 0))], none⟩] [] [] [0, 1, 5, 6, 7] false [] []
def c68_18 : ACode := .region false [⟨some 17, .move, [.t 7], none⟩,
  ⟨some 18, .move, [.t 5], none⟩,
  ⟨some 19, .bin .lss, [.t 17, .t 18], none⟩,
  ⟨some 20, .move, [.t 19], none⟩,
  ⟨some 21, .move, [.t 0], some (some 20, true)⟩,
  ⟨some 22, .nilChk, [.t 21], some (some 20, true)⟩,
  ⟨some 23, .addr 0, [.t 22], some (some 20, true)⟩,
  ⟨some 24, .call 25, [.t 23], some (some 20, true)⟩,
  ⟨some 25, .bin .eql, [.t 24, .c (.val (.int .i64 0))], some (some 20, true)⟩,
  ⟨some 26, .pick, [.t 20, .t 25, .c (.val (.bool false))], none⟩] [] [] [0, 1, 5, 6, 7, 26] true [] []
def c68_19 : ACode := .cond (.t 26) .skip (.exit 0)
def c68_17 : ACode := .seq c68_18 c68_19
def c68_22 : ACode := .region false [⟨some 29, .move, [.t 6], none⟩,
  ⟨some 30, .move, [.t 1], none⟩,
  ⟨some 31, .move, [.t 0], none⟩,
  ⟨some 32, .callv, [.t 30, .t 31], none⟩,
  ⟨some 33, .buildSl 1 1 [(.int .i64 0)] [(0, 1)], [.t 32], none⟩,
  ⟨some 34, .append 1 8 false, [.t 29, .t 33], none⟩,
  ⟨some 6, .move, [.t 34], none⟩] [] [] [0, 1, 5, 6, 7] true [] []
def c68_21 : ACode := .block 1 c68_22
def c68_23 : ACode := .region false [⟨some 27, .move, [.t 7], none⟩,
  ⟨some 28, .bin .add, [.t 27, .c (.val (.int .i64 1))], none⟩,
  ⟨some 7, .move, [.t 28], none⟩] [] [] [0, 1, 5, 6, 7] false [] []
def c68_20 : ACode := .seq c68_21 c68_23
def c68_16 : ACode := .seq c68_17 c68_20
def c68_15 : ACode := .loop c68_16
def c68_14 : ACode := .block 0 c68_15
def c68_12 : ACode := .seq c68_13 c68_14
def c68_25 : ACode := .region false [⟨some 35, .move, [.t 6], none⟩,
  ⟨some 4, .move, [.t 35], none⟩] [] [] [4] false [] []
def c68_24 : ACode := .seq c68_25 .ret
def c68_11 : ACode := .seq c68_12 c68_24
def c68_9 : ACode := .seq c68_10 c68_11
def c68_4 : ACode := .seq c68_5 c68_9
def c68_2 : ACode := .seq c68_3 c68_4
def c68_0 : ACode := .seq c68_1 c68_2
def code68 : Code := (Tryz.f68.body).getD .skip
theorem c68_ok : compC Tryz.prog 36 code68 = some (strip c68_0) := by kernel_rfl
theorem res68_ok : Tryz.f68.results.toList.mapM (resC Tryz.prog) = some [(4, none)] := by kernel_rfl
theorem takealli_any {F : Nat} {Q : Rd Int} {enc : Int → List Int} {ok : Int → Prop} (hQ : RdOk Q enc ok) {L : List Int} (hL : L.length ≤ 1099511627776) (hb : bytesB L)
    (hp : ∀ c : Cu, c.a ≤ L.length → ACall Tryz.prog F [.ptr 0 0] [RdO 1 c.a L.length c.e, .cells true (bA L)] (Det (I (Q.val L c)) [RdO 1 (Q.cur L c).a L.length (Q.cur L c).e, .cells true (bA L)])) (c : Cu) (ha : c.a ≤ L.length) :
    ACall Tryz.prog 68 [.ptr 0 0, .fn F [] []] [RdO 1 c.a L.length c.e, .cells true (bA L)] (Det (.sl 2 0 ((lsR Q).val L c).length 1 none) [RdO 1 ((lsR Q).cur L c).a L.length ((lsR Q).cur L c).e, .cells true (bA L), .cells false (Ri 0 ((lsR Q).val L c))]) := by
  have hr := ri_ren
  have r1 := rnum_any hL hb c ha 1
  have b1 := numV_256 hb c
  have hle := many_le (L := L) ha
  have hd := lsP_le hQ hb hle
  show ACall Tryz.prog _ _ _ (Det (.sl 2 0 (lsP Q L (manyC L c) (numV L 1 c).toNat).2.length 1 none) [RdO 1 (lsP Q L (manyC L c) (numV L 1 c).toNat).1.a L.length (lsP Q L (manyC L c) (numV L 1 c).toNat).1.e, .cells true (bA L), .cells false (Ri 0 (lsP Q L (manyC L c) (numV L 1 c).toNat).2)])
  have hbig : 8 < numV L 1 c → manyC L c = ⟨(numC L 1 c).a, failI (numC L 1 c).e 4⟩ := fun h => by unfold manyC; rw [if_pos h]
  have hsml : ¬ 8 < numV L 1 c → manyC L c = numC L 1 c := fun h => many_ok (by omega)
  have hfl := rfail_r (numC L 1 c).a L (numC L 1 c).e 4
  have herr := fun e : Int => rerr_any e
  have hS : ∀ n, lsP Q L (manyC L c) (n + 1) = if (lsP Q L (manyC L c) n).1.e = 0 then (Q.cur L (lsP Q L (manyC L c) n).1, (lsP Q L (manyC L c) n).2 ++ [Q.val L (lsP Q L (manyC L c) n).1]) else lsP Q L (manyC L c) n := fun n => rfl
  have h0 : lsP Q L (manyC L c) 0 = (manyC L c, []) := rfl
  have hend := fun i (h : (lsP Q L (manyC L c) i).1.e ≠ 0) => lsP_end h (numV L 1 c).toNat
  have hbd := fun n => lsP_len Q (L := L) (c := manyC L c) n
  obtain ⟨v, hv⟩ : ∃ v : Nat, (numV L 1 c) = (v : Int) := ⟨(numV L 1 c).toNat, by omega⟩
  rw [hv] at r1 b1 hbig hsml hend ⊢
  simp only [Int.toNat_natCast] at hend ⊢
  generalize numC L 1 c = c1 at *
  generalize manyC L c = c2 at *
  clear hle hv
  have hrest : AWpA Tryz.prog 36 (NN.plain 2) c68_15 (ABlock 0 (AThen (fun x => AWpA Tryz.prog 36 (NN.plain 2) c68_24 (RetPost (NN.plain 2) [(4, none)] [RdO 1 c.a L.length c.e, .cells true (bA L)] (Det (.sl 2 0 (lsP Q L c2 v).2.length 1 none) [RdO 1 (lsP Q L c2 v).1.a L.length (lsP Q L c2 v).1.e, .cells true (bA L), .cells false (Ri 0 (lsP Q L c2 v).2)])) x) (RetPost (NN.plain 2) [(4, none)] [RdO 1 c.a L.length c.e, .cells true (bA L)] (Det (.sl 2 0 (lsP Q L c2 v).2.length 1 none) [RdO 1 (lsP Q L c2 v).1.a L.length (lsP Q L c2 v).1.e, .cells true (bA L), .cells false (Ri 0 (lsP Q L c2 v).2)]))))
      (Am.mk [(0, .ptr 0 0), (1, .fn F [] []), (5, I v), (6, .sl 2 0 0 1 none), (7, I 0)] none0 (zipI 0 [RdO 1 c2.a L.length c2.e, .cells true (bA L), .cells false []]) gone0 [RdO 1 c2.a L.length c2.e, AObj.cells true (bA L), .cells false []].length) := by
    clear r1 hfl hbig hsml
    (try simp (maxSteps := 9999999) (disch := omega) only [go_sem])
    (apply AWpA.loopL (fun i : Nat => [(0, .ptr 0 0), (1, .fn F [] []), (5, I v), (6, .sl 2 0 (lsP Q L c2 i).2.length 1 none), (7, I i)]) (fun i => [RdO 1 (lsP Q L c2 i).1.a L.length (lsP Q L c2 i).1.e, .cells true (bA L), .cells false (Ri 0 (lsP Q L c2 i).2)]) (fun i => v - i) (fun i => i ≤ v) (0) [0, 1, 2]; rotate_left; (focus (simp (maxSteps := 9999999) (disch := omega) only [go_sem, hr, h0, ri_nil, bA_ren, List.length_nil]; (try (repeat' (first | done | trivial | rfl | exact leAs_rfl _ | decide | (refine And.intro ?_ ?_) | (simp; done) | omega | (simp; decide)))))); rotate_right)
    · exact Nat.zero_le _
    rintro i hi
    (try simp only at hi)
    have hS := hS i
    have hp := hp _ (hd i)
    have hend := hend i
    have hbd := hbd i
    by_cases hin : i < v
    · have g1 : ((i : Int) < (v : Int)) = True := eq_true (by omega)
      by_cases he : (lsP Q L c2 i).1.e = 0
      · rw [if_pos he] at hS
        clear hend
        have happ := ri_app (lsP Q L c2 i).2 [Q.val L (lsP Q L c2 i).1]
        rw [ri_one] at happ
        have hfu := ri_all (lsP Q L c2 i).2 rfl
        have hlen := ri_len 0 (lsP Q L c2 i).2
        generalize Q.val L (lsP Q L c2 i).1 = x at *
        generalize Q.cur L (lsP Q L c2 i).1 = d at *
        generalize lsP Q L c2 i = p at *
        obtain ⟨⟨pa, pe⟩, pl⟩ := p
        simp only at he hp hS happ hfu hlen hbd
        subst he
        (try simp (maxSteps := 9999999) (disch := omega) only [go_sem])
        (have k9 := And.intro @hr (And.intro @g1 (And.intro @hlen (k0))); have a1 := Arm.mk [0, 1] hp; have a2 := Arm.mk [0] (herr 0); refine goK ?_; (try clear k9); (try clear a1); (try clear a2))
        (have k9 := And.intro @hr (And.intro @hS (And.intro @happ (And.intro @hfu (And.intro @renL_append (And.intro @bA_ren (k0)))))); refine Back.tk (i + 1) [0, 1, 243] ?_)
        omega
      · have hend := hend he (by omega)
        rw [hend]
        clear hp hS
        generalize lsP Q L c2 i = p at *
        obtain ⟨⟨pa, pe⟩, pl⟩ := p
        simp only at he hbd
        have g2 : (pe == 0) = false := by simpa using he
        (try simp (maxSteps := 9999999) (disch := omega) only [go_sem])
        (have k9 := And.intro @hr (And.intro @g1 (And.intro @g2 (k0))); have a1 := Arm.mk [0] (herr pe); refine goK ?_; (try clear k9); (try clear a1))
        (have k9 := And.intro @hr (And.intro @bA_ren (k0)); exact Ret.dk [0, 1, 2])
    · obtain rfl : i = v := by omega
      have g1 : ((i : Int) < (i : Int)) = False := eq_false (by omega)
      clear hp hS hend
      generalize lsP Q L c2 i = p at *
      (try simp (maxSteps := 9999999) (disch := omega) only [go_sem])
      (have k9 := And.intro @hr (And.intro @g1 (k0)); refine goK ?_; (try clear k9))
      (have k9 := And.intro @hr (And.intro @bA_ren (k0)); exact Ret.dk [0, 1, 2])
  clear hS h0 hend hbd hd
  generalize lsP Q L c2 v = p at *
  by_cases h8 : 8 < (v : Int)
  · have g8 : ((8 : Int) < (v : Int)) = True := eq_true h8
    rw [hbig h8] at hrest
    clear hbig hsml
    refine ACall.startA c68_ok Tryz.func68 rfl Tryz.ntmps68 (by kernel_rfl) res68_ok rfl rfl rfl ?_; simp (maxSteps := 9999999) (disch := omega) only [go_sem]
    refine AWpA.dummy ?_
    (have k9 := And.intro @hr (And.intro @g8 (k0)); have a1 := Arm.mk [0, 1] r1; have a2 := Arm.mk [0, 1] hfl; (repeat' (first | refine goM ?_ | ((first | refine CondP.split (fun hif => ?_) (fun hif => ?_) | refine Runs.part (fun hif => ?_) (fun hif => ?_)) <;> ((try simp only [BL] at hif); first | (exfalso; omega; done) | refine goI ?_)))); (all_goals (try clear k9)); (all_goals (try clear a1)); (all_goals (try clear a2)))
    all_goals (refine AWpA.to [0, 1, 2] (hrest) ?_; (focus (simp (maxSteps := 9999999) (disch := omega) only [go_sem, hr]; (try (repeat' (first | done | trivial | rfl | exact leAs_rfl _ | decide | (refine And.intro ?_ ?_) | (simp; done) | omega | (simp; decide)))))))
  · have g8 : ((8 : Int) < (v : Int)) = False := eq_false h8
    rw [hsml h8] at hrest
    clear hbig hsml
    refine ACall.startA c68_ok Tryz.func68 rfl Tryz.ntmps68 (by kernel_rfl) res68_ok rfl rfl rfl ?_; simp (maxSteps := 9999999) (disch := omega) only [go_sem]
    refine AWpA.dummy ?_
    (have k9 := And.intro @hr (And.intro @g8 (k0)); have a1 := Arm.mk [0, 1] r1; (repeat' (first | refine goM ?_ | ((first | refine CondP.split (fun hif => ?_) (fun hif => ?_) | refine Runs.part (fun hif => ?_) (fun hif => ?_)) <;> ((try simp only [BL] at hif); first | (exfalso; omega; done) | refine goI ?_)))); (all_goals (try clear k9)); (all_goals (try clear a1)))
    all_goals (refine AWpA.to [0, 1, 2] (hrest) ?_; (focus (simp (maxSteps := 9999999) (disch := omega) only [go_sem, hr]; (try (repeat' (first | done | trivial | rfl | exact leAs_rfl _ | decide | (refine And.intro ?_ ?_) | (simp; done) | omega | (simp; decide)))))))
/- quidnunc/wire.takeAll[quidnunc/api.Mark] -/
def c75_1 : ACode := .region false [⟨some 4, .move, [.c (.val (.slice none 0 0))], none⟩] [] [] [0, 1] false [] []
def c75_3 : ACode := .region false [⟨some 8, .move, [.t 0], none⟩,
  ⟨some 9, .call 70, [.t 8, .c (.val (.int .i64 1))], none⟩,
  ⟨some 10, .conv .i64, [.t 9], none⟩,
  ⟨some 5, .move, [.t 10], none⟩] [] [] [0, 1, 5] true [] []
def c75_6 : ACode := .region false [⟨some 11, .move, [.t 5], none⟩,
  ⟨some 12, .bin .gtr, [.t 11, .c (.val (.int .i64 8))], none⟩] [] [] [0, 1, 5, 12] false [] []
def c75_8 : ACode := .region false [⟨some 13, .move, [.t 0], none⟩,
  ⟨some 14, .nilChk, [.t 13], none⟩,
  ⟨some 15, .addr 0, [.t 14], none⟩,
  ⟨some 16, .call 26, [.t 15, .c (.val (.int .i64 4))], none⟩] [] [] [0, 1, 5] true [] []
def c75_7 : ACode := .cond (.t 12) c75_8 .skip
def c75_5 : ACode := .seq c75_6 c75_7
def c75_10 : ACode := .region false [⟨some 6, .move, [.c (.val (.slice none 0 0))], none⟩] [] [] [0, 1, 5, 6] false [] []
def c75_13 : ACode := .region false [⟨some 7, .move, [.c (.val (.int .i64 0))], none⟩] [] [] [0, 1, 5, 6, 7] false [] []
def c75_18 : ACode := .region false [⟨some 17, .move, [.t 7], none⟩,
  ⟨some 18, .move, [.t 5], none⟩,
  ⟨some 19, .bin .lss, [.t 17, .t 18], none⟩,
  ⟨some 20, .move, [.t 19], none⟩,
  ⟨some 21, .move, [.t 0], some (some 20, true)⟩,
  ⟨some 22, .nilChk, [.t 21], some (some 20, true)⟩,
  ⟨some 23, .addr 0, [.t 22], some (some 20, true)⟩,
  ⟨some 24, .call 25, [.t 23], some (some 20, true)⟩,
  ⟨some 25, .bin .eql, [.t 24, .c (.val (.int .i64 0))], some (some 20, true)⟩,
  ⟨some 26, .pick, [.t 20, .t 25, .c (.val (.bool false))], none⟩] [] [] [0, 1, 5, 6, 7, 26] true [] []
def c75_19 : ACode := .cond (.t 26) .skip (.exit 0)
def c75_17 : ACode := .seq c75_18 c75_19
def c75_22 : ACode := .region false [⟨some 29, .move, [.t 6], none⟩,
  ⟨some 30, .move, [.t 1], none⟩,
  ⟨some 31, .move, [.t 0], none⟩,
  ⟨some 32, .callv, [.t 30, .t 31], none⟩,
  ⟨some 33, .buildSl 3 1 [(.int .i64 0), (.int .i64 0), (.string ⟨#[]⟩)] [(0, 3)], [.t 32], none⟩,
  ⟨some 34, .append 3 32 false, [.t 29, .t 33], none⟩,
  ⟨some 6, .move, [.t 34], none⟩] [] [] [0, 1, 5, 6, 7] true [] []
def c75_21 : ACode := .block 1 c75_22
def c75_23 : ACode := .region false [⟨some 27, .move, [.t 7], none⟩,
  ⟨some 28, .bin .add, [.t 27, .c (.val (.int .i64 1))], none⟩,
  ⟨some 7, .move, [.t 28], none⟩] [] [] [0, 1, 5, 6, 7] false [] []
def c75_20 : ACode := .seq c75_21 c75_23
def c75_16 : ACode := .seq c75_17 c75_20
def c75_15 : ACode := .loop c75_16
def c75_14 : ACode := .block 0 c75_15
def c75_12 : ACode := .seq c75_13 c75_14
def c75_25 : ACode := .region false [⟨some 35, .move, [.t 6], none⟩,
  ⟨some 4, .move, [.t 35], none⟩] [] [] [4] false [] []
def c75_24 : ACode := .seq c75_25 .ret
def c75_11 : ACode := .seq c75_12 c75_24
def c75_9 : ACode := .seq c75_10 c75_11
def c75_4 : ACode := .seq c75_5 c75_9
def c75_2 : ACode := .seq c75_3 c75_4
def c75_0 : ACode := .seq c75_1 c75_2
def code75 : Code := (Tryz.f75.body).getD .skip
theorem c75_ok : compC Tryz.prog 36 code75 = some (strip c75_0) := by kernel_rfl
theorem res75_ok : Tryz.f75.results.toList.mapM (resC Tryz.prog) = some [(4, none)] := by kernel_rfl
theorem takeallm_any {F : Nat} {Q : Rd Mk} {enc : Mk → List Int} {ok : Mk → Prop} (hQ : RdOk Q enc ok) {L : List Int} (hL : L.length ≤ 1099511627776) (hb : bytesB L)
    (hp : ∀ c : Cu, c.a ≤ L.length → ACall Tryz.prog F [.ptr 0 0] [RdO 1 c.a L.length c.e, .cells true (bA L)] (Det (MkG (Q.val L c)) [RdO 1 (Q.cur L c).a L.length (Q.cur L c).e, .cells true (bA L)])) (c : Cu) (ha : c.a ≤ L.length) :
    ACall Tryz.prog 75 [.ptr 0 0, .fn F [] []] [RdO 1 c.a L.length c.e, .cells true (bA L)] (Det (.sl 2 0 ((lsR Q).val L c).length 3 none) [RdO 1 ((lsR Q).cur L c).a L.length ((lsR Q).cur L c).e, .cells true (bA L), .cells false (Rm 0 ((lsR Q).val L c))]) := by
  have hr := rm_ren
  have r1 := rnum_any hL hb c ha 1
  have b1 := numV_256 hb c
  have hle := many_le (L := L) ha
  have hd := lsP_le hQ hb hle
  show ACall Tryz.prog _ _ _ (Det (.sl 2 0 (lsP Q L (manyC L c) (numV L 1 c).toNat).2.length 3 none) [RdO 1 (lsP Q L (manyC L c) (numV L 1 c).toNat).1.a L.length (lsP Q L (manyC L c) (numV L 1 c).toNat).1.e, .cells true (bA L), .cells false (Rm 0 (lsP Q L (manyC L c) (numV L 1 c).toNat).2)])
  have hbig : 8 < numV L 1 c → manyC L c = ⟨(numC L 1 c).a, failI (numC L 1 c).e 4⟩ := fun h => by unfold manyC; rw [if_pos h]
  have hsml : ¬ 8 < numV L 1 c → manyC L c = numC L 1 c := fun h => many_ok (by omega)
  have hfl := rfail_r (numC L 1 c).a L (numC L 1 c).e 4
  have herr := fun e : Int => rerr_any e
  have hS : ∀ n, lsP Q L (manyC L c) (n + 1) = if (lsP Q L (manyC L c) n).1.e = 0 then (Q.cur L (lsP Q L (manyC L c) n).1, (lsP Q L (manyC L c) n).2 ++ [Q.val L (lsP Q L (manyC L c) n).1]) else lsP Q L (manyC L c) n := fun n => rfl
  have h0 : lsP Q L (manyC L c) 0 = (manyC L c, []) := rfl
  have hend := fun i (h : (lsP Q L (manyC L c) i).1.e ≠ 0) => lsP_end h (numV L 1 c).toNat
  have hbd := fun n => lsP_len Q (L := L) (c := manyC L c) n
  obtain ⟨v, hv⟩ : ∃ v : Nat, (numV L 1 c) = (v : Int) := ⟨(numV L 1 c).toNat, by omega⟩
  rw [hv] at r1 b1 hbig hsml hend ⊢
  simp only [Int.toNat_natCast] at hend ⊢
  generalize numC L 1 c = c1 at *
  generalize manyC L c = c2 at *
  clear hle hv
  have hrest : AWpA Tryz.prog 36 (NN.plain 2) c75_15 (ABlock 0 (AThen (fun x => AWpA Tryz.prog 36 (NN.plain 2) c75_24 (RetPost (NN.plain 2) [(4, none)] [RdO 1 c.a L.length c.e, .cells true (bA L)] (Det (.sl 2 0 (lsP Q L c2 v).2.length 3 none) [RdO 1 (lsP Q L c2 v).1.a L.length (lsP Q L c2 v).1.e, .cells true (bA L), .cells false (Rm 0 (lsP Q L c2 v).2)])) x) (RetPost (NN.plain 2) [(4, none)] [RdO 1 c.a L.length c.e, .cells true (bA L)] (Det (.sl 2 0 (lsP Q L c2 v).2.length 3 none) [RdO 1 (lsP Q L c2 v).1.a L.length (lsP Q L c2 v).1.e, .cells true (bA L), .cells false (Rm 0 (lsP Q L c2 v).2)]))))
      (Am.mk [(0, .ptr 0 0), (1, .fn F [] []), (5, I v), (6, .sl 2 0 0 3 none), (7, I 0)] none0 (zipI 0 [RdO 1 c2.a L.length c2.e, .cells true (bA L), .cells false []]) gone0 [RdO 1 c2.a L.length c2.e, AObj.cells true (bA L), .cells false []].length) := by
    clear r1 hfl hbig hsml
    (try simp (maxSteps := 9999999) (disch := omega) only [go_sem])
    (apply AWpA.loopL (fun i : Nat => [(0, .ptr 0 0), (1, .fn F [] []), (5, I v), (6, .sl 2 0 (lsP Q L c2 i).2.length 3 none), (7, I i)]) (fun i => [RdO 1 (lsP Q L c2 i).1.a L.length (lsP Q L c2 i).1.e, .cells true (bA L), .cells false (Rm 0 (lsP Q L c2 i).2)]) (fun i => v - i) (fun i => i ≤ v) (0) [0, 1, 2]; rotate_left; (focus (simp (maxSteps := 9999999) (disch := omega) only [go_sem, hr, h0, rm_nil, bA_ren, List.length_nil]; (try (repeat' (first | done | trivial | rfl | exact leAs_rfl _ | decide | (refine And.intro ?_ ?_) | (simp; done) | omega | (simp; decide)))))); rotate_right)
    · exact Nat.zero_le _
    rintro i hi
    (try simp only at hi)
    have hS := hS i
    have hp := hp _ (hd i)
    have hend := hend i
    have hbd := hbd i
    by_cases hin : i < v
    · have g1 : ((i : Int) < (v : Int)) = True := eq_true (by omega)
      by_cases he : (lsP Q L c2 i).1.e = 0
      · rw [if_pos he] at hS
        clear hend
        have happ := rm_app (lsP Q L c2 i).2 [Q.val L (lsP Q L c2 i).1]
        rw [rm_one] at happ
        have hfu := rm_all (lsP Q L c2 i).2 rfl
        have hlen := rm_len 0 (lsP Q L c2 i).2
        generalize Q.val L (lsP Q L c2 i).1 = x at *
        generalize Q.cur L (lsP Q L c2 i).1 = d at *
        generalize lsP Q L c2 i = p at *
        obtain ⟨⟨pa, pe⟩, pl⟩ := p
        simp only at he hp hS happ hfu hlen hbd
        subst he
        (try simp (maxSteps := 9999999) (disch := omega) only [go_sem])
        (have k9 := And.intro @hr (And.intro @g1 (And.intro @hlen (k0))); have a1 := Arm.mk [0, 1] hp; have a2 := Arm.mk [0] (herr 0); refine goK ?_; (try clear k9); (try clear a1); (try clear a2))
        (have k9 := And.intro @hr (And.intro @hS (And.intro @happ (And.intro @hfu (And.intro @renL_append (And.intro @bA_ren (k0)))))); refine Back.tk (i + 1) [0, 1, 243] ?_)
        omega
      · have hend := hend he (by omega)
        rw [hend]
        clear hp hS
        generalize lsP Q L c2 i = p at *
        obtain ⟨⟨pa, pe⟩, pl⟩ := p
        simp only at he hbd
        have g2 : (pe == 0) = false := by simpa using he
        (try simp (maxSteps := 9999999) (disch := omega) only [go_sem])
        (have k9 := And.intro @hr (And.intro @g1 (And.intro @g2 (k0))); have a1 := Arm.mk [0] (herr pe); refine goK ?_; (try clear k9); (try clear a1))
        (have k9 := And.intro @hr (And.intro @bA_ren (k0)); exact Ret.dk [0, 1, 2])
    · obtain rfl : i = v := by omega
      have g1 : ((i : Int) < (i : Int)) = False := eq_false (by omega)
      clear hp hS hend
      generalize lsP Q L c2 i = p at *
      (try simp (maxSteps := 9999999) (disch := omega) only [go_sem])
      (have k9 := And.intro @hr (And.intro @g1 (k0)); refine goK ?_; (try clear k9))
      (have k9 := And.intro @hr (And.intro @bA_ren (k0)); exact Ret.dk [0, 1, 2])
  clear hS h0 hend hbd hd
  generalize lsP Q L c2 v = p at *
  by_cases h8 : 8 < (v : Int)
  · have g8 : ((8 : Int) < (v : Int)) = True := eq_true h8
    rw [hbig h8] at hrest
    clear hbig hsml
    refine ACall.startA c75_ok Tryz.func75 rfl Tryz.ntmps75 (by kernel_rfl) res75_ok rfl rfl rfl ?_; simp (maxSteps := 9999999) (disch := omega) only [go_sem]
    refine AWpA.dummy ?_
    (have k9 := And.intro @hr (And.intro @g8 (k0)); have a1 := Arm.mk [0, 1] r1; have a2 := Arm.mk [0, 1] hfl; (repeat' (first | refine goM ?_ | ((first | refine CondP.split (fun hif => ?_) (fun hif => ?_) | refine Runs.part (fun hif => ?_) (fun hif => ?_)) <;> ((try simp only [BL] at hif); first | (exfalso; omega; done) | refine goI ?_)))); (all_goals (try clear k9)); (all_goals (try clear a1)); (all_goals (try clear a2)))
    all_goals (refine AWpA.to [0, 1, 2] (hrest) ?_; (focus (simp (maxSteps := 9999999) (disch := omega) only [go_sem, hr]; (try (repeat' (first | done | trivial | rfl | exact leAs_rfl _ | decide | (refine And.intro ?_ ?_) | (simp; done) | omega | (simp; decide)))))))
  · have g8 : ((8 : Int) < (v : Int)) = False := eq_false h8
    rw [hsml h8] at hrest
    clear hbig hsml
    refine ACall.startA c75_ok Tryz.func75 rfl Tryz.ntmps75 (by kernel_rfl) res75_ok rfl rfl rfl ?_; simp (maxSteps := 9999999) (disch := omega) only [go_sem]
    refine AWpA.dummy ?_
    (have k9 := And.intro @hr (And.intro @g8 (k0)); have a1 := Arm.mk [0, 1] r1; (repeat' (first | refine goM ?_ | ((first | refine CondP.split (fun hif => ?_) (fun hif => ?_) | refine Runs.part (fun hif => ?_) (fun hif => ?_)) <;> ((try simp only [BL] at hif); first | (exfalso; omega; done) | refine goI ?_)))); (all_goals (try clear k9)); (all_goals (try clear a1)))
    all_goals (refine AWpA.to [0, 1, 2] (hrest) ?_; (focus (simp (maxSteps := 9999999) (disch := omega) only [go_sem, hr]; (try (repeat' (first | done | trivial | rfl | exact leAs_rfl _ | decide | (refine And.intro ?_ ?_) | (simp; done) | omega | (simp; decide)))))))
/- quidnunc/wire.takeAll[quidnunc/api.Entry] -/
def c77_1 : ACode := .region false [⟨some 4, .move, [.c (.val (.slice none 0 0))], none⟩] [] [] [0, 1] false [] []
def c77_3 : ACode := .region false [⟨some 8, .move, [.t 0], none⟩,
  ⟨some 9, .call 70, [.t 8, .c (.val (.int .i64 1))], none⟩,
  ⟨some 10, .conv .i64, [.t 9], none⟩,
  ⟨some 5, .move, [.t 10], none⟩] [] [] [0, 1, 5] true [] []
def c77_6 : ACode := .region false [⟨some 11, .move, [.t 5], none⟩,
  ⟨some 12, .bin .gtr, [.t 11, .c (.val (.int .i64 8))], none⟩] [] [] [0, 1, 5, 12] false [] []
def c77_8 : ACode := .region false [⟨some 13, .move, [.t 0], none⟩,
  ⟨some 14, .nilChk, [.t 13], none⟩,
  ⟨some 15, .addr 0, [.t 14], none⟩,
  ⟨some 16, .call 26, [.t 15, .c (.val (.int .i64 4))], none⟩] [] [] [0, 1, 5] true [] []
def c77_7 : ACode := .cond (.t 12) c77_8 .skip
def c77_5 : ACode := .seq c77_6 c77_7
def c77_10 : ACode := .region false [⟨some 6, .move, [.c (.val (.slice none 0 0))], none⟩] [] [] [0, 1, 5, 6] false [] []
def c77_13 : ACode := .region false [⟨some 7, .move, [.c (.val (.int .i64 0))], none⟩] [] [] [0, 1, 5, 6, 7] false [] []
def c77_18 : ACode := .region false [⟨some 17, .move, [.t 7], none⟩,
  ⟨some 18, .move, [.t 5], none⟩,
  ⟨some 19, .bin .lss, [.t 17, .t 18], none⟩,
  ⟨some 20, .move, [.t 19], none⟩,
  ⟨some 21, .move, [.t 0], some (some 20, true)⟩,
  ⟨some 22, .nilChk, [.t 21], some (some 20, true)⟩,
  ⟨some 23, .addr 0, [.t 22], some (some 20, true)⟩,
  ⟨some 24, .call 25, [.t 23], some (some 20, true)⟩,
  ⟨some 25, .bin .eql, [.t 24, .c (.val (.int .i64 0))], some (some 20, true)⟩,
  ⟨some 26, .pick, [.t 20, .t 25, .c (.val (.bool false))], none⟩] [] [] [0, 1, 5, 6, 7, 26] true [] []
def c77_19 : ACode := .cond (.t 26) .skip (.exit 0)
def c77_17 : ACode := .seq c77_18 c77_19
def c77_22 : ACode := .region false [⟨some 29, .move, [.t 6], none⟩,
  ⟨some 30, .move, [.t 1], none⟩,
  ⟨some 31, .move, [.t 0], none⟩,
  ⟨some 32, .callv, [.t 30, .t 31], none⟩,
  ⟨some 33, .buildSl 9 1 [(.string ⟨#[]⟩), (.string ⟨#[]⟩), (.bool false), (.int .i64 0), (.int .i64 0), (.int .i64 0), (.int .i64 0), (.int .i64 0), (.int .i64 0)] [(0, 9)], [.t 32], none⟩,
  ⟨some 34, .append 9 88 false, [.t 29, .t 33], none⟩,
  ⟨some 6, .move, [.t 34], none⟩] [] [] [0, 1, 5, 6, 7] true [] []
def c77_21 : ACode := .block 1 c77_22
def c77_23 : ACode := .region false [⟨some 27, .move, [.t 7], none⟩,
  ⟨some 28, .bin .add, [.t 27, .c (.val (.int .i64 1))], none⟩,
  ⟨some 7, .move, [.t 28], none⟩] [] [] [0, 1, 5, 6, 7] false [] []
def c77_20 : ACode := .seq c77_21 c77_23
def c77_16 : ACode := .seq c77_17 c77_20
def c77_15 : ACode := .loop c77_16
def c77_14 : ACode := .block 0 c77_15
def c77_12 : ACode := .seq c77_13 c77_14
def c77_25 : ACode := .region false [⟨some 35, .move, [.t 6], none⟩,
  ⟨some 4, .move, [.t 35], none⟩] [] [] [4] false [] []
def c77_24 : ACode := .seq c77_25 .ret
def c77_11 : ACode := .seq c77_12 c77_24
def c77_9 : ACode := .seq c77_10 c77_11
def c77_4 : ACode := .seq c77_5 c77_9
def c77_2 : ACode := .seq c77_3 c77_4
def c77_0 : ACode := .seq c77_1 c77_2
def code77 : Code := (Tryz.f77.body).getD .skip
theorem c77_ok : compC Tryz.prog 36 code77 = some (strip c77_0) := by kernel_rfl
theorem res77_ok : Tryz.f77.results.toList.mapM (resC Tryz.prog) = some [(4, none)] := by kernel_rfl
theorem takealle_any {F : Nat} {Q : Rd En} {enc : En → List Int} {ok : En → Prop} (hQ : RdOk Q enc ok) {L : List Int} (hL : L.length ≤ 1099511627776) (hb : bytesB L)
    (hp : ∀ c : Cu, c.a ≤ L.length → ACall Tryz.prog F [.ptr 0 0] [RdO 1 c.a L.length c.e, .cells true (bA L)] (Det (EnA (Q.val L c)) [RdO 1 (Q.cur L c).a L.length (Q.cur L c).e, .cells true (bA L)])) (c : Cu) (ha : c.a ≤ L.length) :
    ACall Tryz.prog 77 [.ptr 0 0, .fn F [] []] [RdO 1 c.a L.length c.e, .cells true (bA L)] (Det (.sl 2 0 ((lsR Q).val L c).length 9 none) [RdO 1 ((lsR Q).cur L c).a L.length ((lsR Q).cur L c).e, .cells true (bA L), .cells false (Re 0 ((lsR Q).val L c))]) := by
  have hr := re_ren
  have r1 := rnum_any hL hb c ha 1
  have b1 := numV_256 hb c
  have hle := many_le (L := L) ha
  have hd := lsP_le hQ hb hle
  show ACall Tryz.prog _ _ _ (Det (.sl 2 0 (lsP Q L (manyC L c) (numV L 1 c).toNat).2.length 9 none) [RdO 1 (lsP Q L (manyC L c) (numV L 1 c).toNat).1.a L.length (lsP Q L (manyC L c) (numV L 1 c).toNat).1.e, .cells true (bA L), .cells false (Re 0 (lsP Q L (manyC L c) (numV L 1 c).toNat).2)])
  have hbig : 8 < numV L 1 c → manyC L c = ⟨(numC L 1 c).a, failI (numC L 1 c).e 4⟩ := fun h => by unfold manyC; rw [if_pos h]
  have hsml : ¬ 8 < numV L 1 c → manyC L c = numC L 1 c := fun h => many_ok (by omega)
  have hfl := rfail_r (numC L 1 c).a L (numC L 1 c).e 4
  have herr := fun e : Int => rerr_any e
  have hS : ∀ n, lsP Q L (manyC L c) (n + 1) = if (lsP Q L (manyC L c) n).1.e = 0 then (Q.cur L (lsP Q L (manyC L c) n).1, (lsP Q L (manyC L c) n).2 ++ [Q.val L (lsP Q L (manyC L c) n).1]) else lsP Q L (manyC L c) n := fun n => rfl
  have h0 : lsP Q L (manyC L c) 0 = (manyC L c, []) := rfl
  have hend := fun i (h : (lsP Q L (manyC L c) i).1.e ≠ 0) => lsP_end h (numV L 1 c).toNat
  have hbd := fun n => lsP_len Q (L := L) (c := manyC L c) n
  obtain ⟨v, hv⟩ : ∃ v : Nat, (numV L 1 c) = (v : Int) := ⟨(numV L 1 c).toNat, by omega⟩
  rw [hv] at r1 b1 hbig hsml hend ⊢
  simp only [Int.toNat_natCast] at hend ⊢
  generalize numC L 1 c = c1 at *
  generalize manyC L c = c2 at *
  clear hle hv
  have hrest : AWpA Tryz.prog 36 (NN.plain 2) c77_15 (ABlock 0 (AThen (fun x => AWpA Tryz.prog 36 (NN.plain 2) c77_24 (RetPost (NN.plain 2) [(4, none)] [RdO 1 c.a L.length c.e, .cells true (bA L)] (Det (.sl 2 0 (lsP Q L c2 v).2.length 9 none) [RdO 1 (lsP Q L c2 v).1.a L.length (lsP Q L c2 v).1.e, .cells true (bA L), .cells false (Re 0 (lsP Q L c2 v).2)])) x) (RetPost (NN.plain 2) [(4, none)] [RdO 1 c.a L.length c.e, .cells true (bA L)] (Det (.sl 2 0 (lsP Q L c2 v).2.length 9 none) [RdO 1 (lsP Q L c2 v).1.a L.length (lsP Q L c2 v).1.e, .cells true (bA L), .cells false (Re 0 (lsP Q L c2 v).2)]))))
      (Am.mk [(0, .ptr 0 0), (1, .fn F [] []), (5, I v), (6, .sl 2 0 0 9 none), (7, I 0)] none0 (zipI 0 [RdO 1 c2.a L.length c2.e, .cells true (bA L), .cells false []]) gone0 [RdO 1 c2.a L.length c2.e, AObj.cells true (bA L), .cells false []].length) := by
    clear r1 hfl hbig hsml
    (try simp (maxSteps := 9999999) (disch := omega) only [go_sem])
    (apply AWpA.loopL (fun i : Nat => [(0, .ptr 0 0), (1, .fn F [] []), (5, I v), (6, .sl 2 0 (lsP Q L c2 i).2.length 9 none), (7, I i)]) (fun i => [RdO 1 (lsP Q L c2 i).1.a L.length (lsP Q L c2 i).1.e, .cells true (bA L), .cells false (Re 0 (lsP Q L c2 i).2)]) (fun i => v - i) (fun i => i ≤ v) (0) [0, 1, 2]; rotate_left; (focus (simp (maxSteps := 9999999) (disch := omega) only [go_sem, hr, h0, re_nil, bA_ren, List.length_nil]; (try (repeat' (first | done | trivial | rfl | exact leAs_rfl _ | decide | (refine And.intro ?_ ?_) | (simp; done) | omega | (simp; decide)))))); rotate_right)
    · exact Nat.zero_le _
    rintro i hi
    (try simp only at hi)
    have hS := hS i
    have hp := hp _ (hd i)
    have hend := hend i
    have hbd := hbd i
    by_cases hin : i < v
    · have g1 : ((i : Int) < (v : Int)) = True := eq_true (by omega)
      by_cases he : (lsP Q L c2 i).1.e = 0
      · rw [if_pos he] at hS
        clear hend
        have happ := re_app (lsP Q L c2 i).2 [Q.val L (lsP Q L c2 i).1]
        rw [re_one] at happ
        have hfu := re_all (lsP Q L c2 i).2 rfl
        have hlen := re_len 0 (lsP Q L c2 i).2
        generalize Q.val L (lsP Q L c2 i).1 = x at *
        generalize Q.cur L (lsP Q L c2 i).1 = d at *
        generalize lsP Q L c2 i = p at *
        obtain ⟨⟨pa, pe⟩, pl⟩ := p
        simp only at he hp hS happ hfu hlen hbd
        subst he
        (try simp (maxSteps := 9999999) (disch := omega) only [go_sem])
        (have k9 := And.intro @hr (And.intro @g1 (And.intro @hlen (k0))); have a1 := Arm.mk [0, 1] hp; have a2 := Arm.mk [0] (herr 0); refine goK ?_; (try clear k9); (try clear a1); (try clear a2))
        (have k9 := And.intro @hr (And.intro @hS (And.intro @happ (And.intro @hfu (And.intro @renL_append (And.intro @bA_ren (k0)))))); refine Back.tk (i + 1) [0, 1, 243] ?_)
        omega
      · have hend := hend he (by omega)
        rw [hend]
        clear hp hS
        generalize lsP Q L c2 i = p at *
        obtain ⟨⟨pa, pe⟩, pl⟩ := p
        simp only at he hbd
        have g2 : (pe == 0) = false := by simpa using he
        (try simp (maxSteps := 9999999) (disch := omega) only [go_sem])
        (have k9 := And.intro @hr (And.intro @g1 (And.intro @g2 (k0))); have a1 := Arm.mk [0] (herr pe); refine goK ?_; (try clear k9); (try clear a1))
        (have k9 := And.intro @hr (And.intro @bA_ren (k0)); exact Ret.dk [0, 1, 2])
    · obtain rfl : i = v := by omega
      have g1 : ((i : Int) < (i : Int)) = False := eq_false (by omega)
      clear hp hS hend
      generalize lsP Q L c2 i = p at *
      (try simp (maxSteps := 9999999) (disch := omega) only [go_sem])
      (have k9 := And.intro @hr (And.intro @g1 (k0)); refine goK ?_; (try clear k9))
      (have k9 := And.intro @hr (And.intro @bA_ren (k0)); exact Ret.dk [0, 1, 2])
  clear hS h0 hend hbd hd
  generalize lsP Q L c2 v = p at *
  by_cases h8 : 8 < (v : Int)
  · have g8 : ((8 : Int) < (v : Int)) = True := eq_true h8
    rw [hbig h8] at hrest
    clear hbig hsml
    refine ACall.startA c77_ok Tryz.func77 rfl Tryz.ntmps77 (by kernel_rfl) res77_ok rfl rfl rfl ?_; simp (maxSteps := 9999999) (disch := omega) only [go_sem]
    refine AWpA.dummy ?_
    (have k9 := And.intro @hr (And.intro @g8 (k0)); have a1 := Arm.mk [0, 1] r1; have a2 := Arm.mk [0, 1] hfl; (repeat' (first | refine goM ?_ | ((first | refine CondP.split (fun hif => ?_) (fun hif => ?_) | refine Runs.part (fun hif => ?_) (fun hif => ?_)) <;> ((try simp only [BL] at hif); first | (exfalso; omega; done) | refine goI ?_)))); (all_goals (try clear k9)); (all_goals (try clear a1)); (all_goals (try clear a2)))
    all_goals (refine AWpA.to [0, 1, 2] (hrest) ?_; (focus (simp (maxSteps := 9999999) (disch := omega) only [go_sem, hr]; (try (repeat' (first | done | trivial | rfl | exact leAs_rfl _ | decide | (refine And.intro ?_ ?_) | (simp; done) | omega | (simp; decide)))))))
  · have g8 : ((8 : Int) < (v : Int)) = False := eq_false h8
    rw [hsml h8] at hrest
    clear hbig hsml
    refine ACall.startA c77_ok Tryz.func77 rfl Tryz.ntmps77 (by kernel_rfl) res77_ok rfl rfl rfl ?_; simp (maxSteps := 9999999) (disch := omega) only [go_sem]
    refine AWpA.dummy ?_
    (have k9 := And.intro @hr (And.intro @g8 (k0)); have a1 := Arm.mk [0, 1] r1; (repeat' (first | refine goM ?_ | ((first | refine CondP.split (fun hif => ?_) (fun hif => ?_) | refine Runs.part (fun hif => ?_) (fun hif => ?_)) <;> ((try simp only [BL] at hif); first | (exfalso; omega; done) | refine goI ?_)))); (all_goals (try clear k9)); (all_goals (try clear a1)))
    all_goals (refine AWpA.to [0, 1, 2] (hrest) ?_; (focus (simp (maxSteps := 9999999) (disch := omega) only [go_sem, hr]; (try (repeat' (first | done | trivial | rfl | exact leAs_rfl _ | decide | (refine And.intro ?_ ?_) | (simp; done) | omega | (simp; decide)))))))
end
end Go.Proofs.YtopidfkmligljaaGreat
