/- Contracts: the document's table: what is asked. -/
import Derived.Test.YtodnlihbmgigjaaBt4
namespace Go.Proofs.Ytodnlihbmgigjaa
set_option linter.unusedSimpArgs false
set_option linter.unusedVariables false
set_option maxHeartbeats 4000000
open Go Go.Am Go.RowKit
set_option maxRecDepth 100000
theorem lt_rank {l : List Pi} (hs : Rise l) (k : ByteArray) : ∀ (i : Nat) (h : i < l.length), ltK l[i].key k = decide (i < rankP l k) := by
  induction l with
  | nil => intro i h; simp at h
  | cons p l ih =>
    intro i h
    have hs' : Rise l := (List.pairwise_cons.1 hs).2
    cases hp : ltK p.key k with
    | true =>
      have e : rankP (p :: l) k = rankP l k + 1 := by simp [rankP, List.takeWhile_cons, hp]
      rw [e]
      cases i with
      | zero => simp [hp]
      | succ i =>
        have := ih hs' i (by simpa using h)
        simp only [List.getElem_cons_succ, this]
        congr 1
        simp
    | false =>
      have e : rankP (p :: l) k = 0 := by simp [rankP, List.takeWhile_cons, hp]
      rw [e]
      cases i with
      | zero => simp [hp]
      | succ i =>
        have hi : i < l.length := by simpa using h
        have h2 : ltK p.key l[i].key = true := (List.pairwise_cons.1 hs).1 _ (List.getElem_mem hi)
        simp only [List.getElem_cons_succ]
        cases h3 : ltK l[i].key k with
        | false => simp
        | true => rw [ltK_trans h2 h3] at hp; cases hp
theorem rank_at {l : List Pi} (hs : Rise l) {i : Nat} (h : i < l.length) : rankP l l[i].key = i := by
  refine rankP_eq (by omega) (fun q hq hqi => hs.lt hq h hqi) (fun q hq hiq => ?_)
  cases e : ltK l[q].key l[i].key with
  | false => rfl
  | true =>
    rcases Nat.lt_or_eq_of_le hiq with h' | h'
    · have := ltK_trans (hs.lt h hq h') e
      rw [ltK_irr] at this; cases this
    · subst h'; rw [ltK_irr] at e; cases e
theorem has_at {l : List Pi} (hs : Rise l) {i : Nat} (h : i < l.length) : hasP' l l[i].key = true := by
  unfold hasP'
  rw [rank_at hs h, List.getElem?_eq_getElem h]
  simp
theorem has_none {l : List Pi} {k : ByteArray} (h : ∀ q (h : q < l.length), l[q].key ≠ k) : hasP' l k = false := by
  cases e : hasP' l k with
  | false => rfl
  | true => exact absurd (hasP_key e) (h _ (hasP_lt e))
theorem rp_k (l : List Pi) (i : Nat) (hi : i < l.length) : (Rp 0 l).getD (i * 2) AV.bad = .val (.string l[i].key) := by
  have hX := rp_lenT l i (by omega)
  rw [rp_split l i hi, List.getD_eq_getElem?_getD, List.append_assoc, List.getElem?_append_right (by omega), hX, Nat.sub_self]
  rfl
/-- The place of a key; -1. -/
def findP (l : List Pi) (k : ByteArray) : Int := match hasP' l k with | true => (rankP l k : Int) | false => -1
/- quidnunc/quidnuncref08.Find -/
noncomputable def c25_1 : ACode := .region false [⟨some 2, .box 0, [.t 0], none⟩,
  ⟨some 4, .move, [.c (.val (.int .i64 0))], none⟩] [] [] [1, 2] true [] []
noncomputable def c25_4 : ACode := .region false [⟨some 5, .move, [.c (.val (.int .i64 0))], none⟩] [] [] [1, 2, 5] false [] []
noncomputable def c25_9 : ACode := .region false [⟨some 6, .move, [.t 5], none⟩,
  ⟨some 7, .addr 1, [.t 2], none⟩,
  ⟨some 8, .load false 1, [.t 7], none⟩,
  ⟨some 9, .len, [.t 8], none⟩,
  ⟨some 10, .bin .lss, [.t 6, .t 9], none⟩] [] [] [1, 2, 5, 10] false [] []
noncomputable def c25_10 : ACode := .cond (.t 10) .skip (.exit 0)
noncomputable def c25_8 : ACode := .seq c25_9 c25_10
noncomputable def c25_14 : ACode := .region false [⟨some 13, .addr 1, [.t 2], none⟩,
  ⟨some 14, .load false 1, [.t 13], none⟩,
  ⟨some 15, .move, [.t 5], none⟩,
  ⟨some 16, .ixS 2, [.t 14, .t 15], none⟩,
  ⟨some 17, .addr 0, [.t 16], none⟩,
  ⟨some 18, .load false 1, [.t 17], none⟩,
  ⟨some 19, .move, [.t 1], none⟩,
  ⟨some 20, .bin .eql, [.t 18, .t 19], none⟩] [] [] [1, 2, 5, 20] false [] []
noncomputable def c25_17 : ACode := .region false [⟨some 21, .move, [.t 5], none⟩,
  ⟨some 4, .move, [.t 21], none⟩] [] [] [4] false [] []
noncomputable def c25_16 : ACode := .seq c25_17 .ret
noncomputable def c25_15 : ACode := .cond (.t 20) c25_16 .skip
noncomputable def c25_13 : ACode := .seq c25_14 c25_15
noncomputable def c25_12 : ACode := .block 1 c25_13
noncomputable def c25_18 : ACode := .region false [⟨some 11, .move, [.t 5], none⟩,
  ⟨some 12, .bin .add, [.t 11, .c (.val (.int .i64 1))], none⟩,
  ⟨some 5, .move, [.t 12], none⟩] [] [] [1, 2, 5] false [] []
noncomputable def c25_11 : ACode := .seq c25_12 c25_18
noncomputable def c25_7 : ACode := .seq c25_8 c25_11
noncomputable def c25_6 : ACode := .loop c25_7
noncomputable def c25_5 : ACode := .block 0 c25_6
noncomputable def c25_3 : ACode := .seq c25_4 c25_5
noncomputable def c25_20 : ACode := .region false [⟨some 4, .move, [.c (.val (.int .i64 (-1)))], none⟩] [] [] [4] false [] []
noncomputable def c25_19 : ACode := .seq c25_20 .ret
noncomputable def c25_2 : ACode := .seq c25_3 c25_19
noncomputable def c25_0 : ACode := .seq c25_1 c25_2
noncomputable def code25 : Code := (Try.f25.body).getD .skip
theorem c25_ok : compC Try.prog 22 code25 = some (strip c25_0) := by kernel_rfl
theorem res25_ok : Try.f25.results.toList.mapM (resC Try.prog) = some [(4, none)] := by kernel_rfl
/- quidnunc/quidnuncref08.Rank -/
noncomputable def c23_1 : ACode := .region false [⟨some 2, .box 0, [.t 0], none⟩,
  ⟨some 4, .move, [.c (.val (.int .i64 0))], none⟩] [] [] [1, 2] true [] []
noncomputable def c23_3 : ACode := .region false [⟨some 5, .move, [.c (.val (.int .i64 0))], none⟩] [] [] [1, 2, 5] false [] []
noncomputable def c23_6 : ACode := .region false [⟨some 6, .move, [.c (.val (.int .i64 0))], none⟩] [] [] [1, 2, 5, 6] false [] []
noncomputable def c23_11 : ACode := .region false [⟨some 7, .move, [.t 6], none⟩,
  ⟨some 8, .addr 1, [.t 2], none⟩,
  ⟨some 9, .load false 1, [.t 8], none⟩,
  ⟨some 10, .len, [.t 9], none⟩,
  ⟨some 11, .bin .lss, [.t 7, .t 10], none⟩] [] [] [1, 2, 5, 6, 11] false [] []
noncomputable def c23_12 : ACode := .cond (.t 11) .skip (.exit 0)
noncomputable def c23_10 : ACode := .seq c23_11 c23_12
noncomputable def c23_16 : ACode := .region false [⟨some 14, .addr 1, [.t 2], none⟩,
  ⟨some 15, .load false 1, [.t 14], none⟩,
  ⟨some 16, .move, [.t 6], none⟩,
  ⟨some 17, .ixS 2, [.t 15, .t 16], none⟩,
  ⟨some 18, .addr 0, [.t 17], none⟩,
  ⟨some 19, .load false 1, [.t 18], none⟩,
  ⟨some 20, .move, [.t 1], none⟩,
  ⟨some 21, .bin .lss, [.t 19, .t 20], none⟩] [] [] [1, 2, 5, 6, 21] false [] []
noncomputable def c23_18 : ACode := .region false [⟨some 22, .move, [.t 5], none⟩,
  ⟨some 23, .bin .add, [.t 22, .c (.val (.int .i64 1))], none⟩,
  ⟨some 5, .move, [.t 23], none⟩] [] [] [1, 2, 5, 6] false [] []
noncomputable def c23_17 : ACode := .cond (.t 21) c23_18 .skip
noncomputable def c23_15 : ACode := .seq c23_16 c23_17
noncomputable def c23_14 : ACode := .block 1 c23_15
noncomputable def c23_19 : ACode := .region false [⟨some 12, .move, [.t 6], none⟩,
  ⟨some 13, .bin .add, [.t 12, .c (.val (.int .i64 1))], none⟩,
  ⟨some 6, .move, [.t 13], none⟩] [] [] [1, 2, 5, 6] false [] []
noncomputable def c23_13 : ACode := .seq c23_14 c23_19
noncomputable def c23_9 : ACode := .seq c23_10 c23_13
noncomputable def c23_8 : ACode := .loop c23_9
noncomputable def c23_7 : ACode := .block 0 c23_8
noncomputable def c23_5 : ACode := .seq c23_6 c23_7
noncomputable def c23_21 : ACode := .region false [⟨some 24, .move, [.t 5], none⟩,
  ⟨some 4, .move, [.t 24], none⟩] [] [] [4] false [] []
noncomputable def c23_20 : ACode := .seq c23_21 .ret
noncomputable def c23_4 : ACode := .seq c23_5 c23_20
noncomputable def c23_2 : ACode := .seq c23_3 c23_4
noncomputable def c23_0 : ACode := .seq c23_1 c23_2
noncomputable def code23 : Code := (Try.f23.body).getD .skip
theorem c23_ok : compC Try.prog 25 code23 = some (strip c23_0) := by kernel_rfl
theorem res23_ok : Try.f23.results.toList.mapM (resC Try.prog) = some [(4, none)] := by kernel_rfl
/- quidnunc/quidnuncref08.New -/
noncomputable def c20_1 : ACode := .region false [⟨some 2, .alloc [(.int .i64 0), (.slice none 0 0)], [], none⟩,
  ⟨some 3, .move, [.c (.val (.int .i64 0))], none⟩] [] [] [0, 2] true [] []
noncomputable def c20_4 : ACode := .region false [⟨some 4, .move, [.t 0], none⟩,
  ⟨some 5, .bin .lss, [.t 4, .c (.val (.int .i64 1))], none⟩,
  ⟨some 6, .move, [.t 5], none⟩,
  ⟨some 7, .move, [.t 0], some (some 6, false)⟩,
  ⟨some 8, .bin .gtr, [.t 7, .c (.val (.int .i64 4096))], some (some 6, false)⟩,
  ⟨some 9, .pick, [.t 6, .c (.val (.bool true)), .t 8], none⟩] [] [] [0, 2, 9] false [] []
noncomputable def c20_7 : ACode := .region false [⟨some 10, .build [(.int .i64 0), (.slice none 0 0)] [], [], none⟩,
  ⟨none, .store 2, [.t 2, .t 10], none⟩,
  ⟨some 3, .move, [.c (.val (.int .i64 1))], none⟩] [] [] [2, 3] true [] []
noncomputable def c20_6 : ACode := .seq c20_7 .ret
noncomputable def c20_5 : ACode := .cond (.t 9) c20_6 .skip
noncomputable def c20_3 : ACode := .seq c20_4 c20_5
noncomputable def c20_9 : ACode := .region false [⟨some 11, .move, [.t 0], none⟩,
  ⟨some 12, .build [(.int .i64 0), (.slice none 0 0)] [(0, 1)], [.t 11], none⟩,
  ⟨none, .store 2, [.t 2, .t 12], none⟩,
  ⟨some 3, .move, [.c (.val (.int .i64 0))], none⟩] [] [] [2, 3] true [] []
noncomputable def c20_8 : ACode := .seq c20_9 .ret
noncomputable def c20_2 : ACode := .seq c20_3 c20_8
noncomputable def c20_0 : ACode := .seq c20_1 c20_2
noncomputable def code20 : Code := (Try.f20.body).getD .skip
theorem c20_ok : compC Try.prog 13 code20 = some (strip c20_0) := by kernel_rfl
theorem res20_ok : Try.f20.results.toList.mapM (resC Try.prog) = some [(2, some (true, 2)), (3, none)] := by kernel_rfl
/- quidnunc/quidnuncref08.Put -/
noncomputable def c37_1 : ACode := .region false [⟨some 3, .box 0, [.t 0], none⟩,
  ⟨some 6, .alloc [(.int .i64 0), (.slice none 0 0)], [], none⟩,
  ⟨some 7, .move, [.c (.val (.int .i64 0))], none⟩] [] [] [1, 2, 3, 6] true [] []
noncomputable def c37_3 : ACode := .region false [⟨some 12, .buildSl 2 0 [(.string ⟨#[]⟩), (.int .i64 0)] [], [], none⟩,
  ⟨some 13, .addr 1, [.t 3], none⟩,
  ⟨some 14, .load false 1, [.t 13], none⟩,
  ⟨some 15, .append 2 24 false, [.t 12, .t 14], none⟩,
  ⟨some 8, .move, [.t 15], none⟩] [] [] [1, 2, 3, 6, 8] true [] []
noncomputable def c37_5 : ACode := .region false [⟨some 16, .load true 2, [.t 3], none⟩,
  ⟨some 17, .move, [.t 1], none⟩,
  ⟨some 18, .call 25, [.t 16, .t 17], none⟩,
  ⟨some 9, .move, [.t 18], none⟩] [] [] [1, 2, 3, 6, 8, 9] true [] []
noncomputable def c37_8 : ACode := .region false [⟨some 19, .move, [.t 9], none⟩,
  ⟨some 20, .bin .geq, [.t 19, .c (.val (.int .i64 0))], none⟩] [] [] [1, 2, 3, 6, 8, 9, 20] false [] []
noncomputable def c37_11 : ACode := .region false [⟨some 21, .move, [.t 8], none⟩,
  ⟨some 22, .move, [.t 9], none⟩,
  ⟨some 23, .move, [.t 2], none⟩,
  ⟨some 24, .ixS 2, [.t 21, .t 22], none⟩,
  ⟨some 25, .addr 1, [.t 24], none⟩,
  ⟨none, .store 1, [.t 25, .t 23], none⟩] [] [] [3, 6, 8] true [] []
noncomputable def c37_13 : ACode := .region false [⟨some 26, .addr 0, [.t 3], none⟩,
  ⟨some 27, .load false 1, [.t 26], none⟩,
  ⟨some 28, .move, [.t 8], none⟩,
  ⟨some 29, .build [(.int .i64 0), (.slice none 0 0)] [(0, 1), (1, 1)], [.t 27, .t 28], none⟩,
  ⟨none, .store 2, [.t 6, .t 29], none⟩,
  ⟨some 7, .move, [.c (.val (.int .i64 0))], none⟩] [] [] [6, 7] true [] []
noncomputable def c37_12 : ACode := .seq c37_13 .ret
noncomputable def c37_10 : ACode := .seq c37_11 c37_12
noncomputable def c37_9 : ACode := .cond (.t 20) c37_10 .skip
noncomputable def c37_7 : ACode := .seq c37_8 c37_9
noncomputable def c37_16 : ACode := .region false [⟨some 30, .move, [.t 8], none⟩,
  ⟨some 31, .len, [.t 30], none⟩,
  ⟨some 32, .addr 0, [.t 3], none⟩,
  ⟨some 33, .load false 1, [.t 32], none⟩,
  ⟨some 34, .bin .geq, [.t 31, .t 33], none⟩] [] [] [1, 2, 3, 6, 8, 34] false [] []
noncomputable def c37_19 : ACode := .region false [⟨some 35, .load true 2, [.t 3], none⟩,
  ⟨none, .store 2, [.t 6, .t 35], none⟩,
  ⟨some 7, .move, [.c (.val (.int .i64 7))], none⟩] [] [] [6, 7] true [] []
noncomputable def c37_18 : ACode := .seq c37_19 .ret
noncomputable def c37_17 : ACode := .cond (.t 34) c37_18 .skip
noncomputable def c37_15 : ACode := .seq c37_16 c37_17
noncomputable def c37_21 : ACode := .region false [⟨some 36, .load true 2, [.t 3], none⟩,
  ⟨some 37, .move, [.t 1], none⟩,
  ⟨some 38, .call 23, [.t 36, .t 37], none⟩,
  ⟨some 10, .move, [.t 38], none⟩] [] [] [1, 2, 3, 6, 8, 10] true [] []
noncomputable def c37_23 : ACode := .region false [⟨some 39, .buildSl 2 0 [(.string ⟨#[]⟩), (.int .i64 0)] [], [], none⟩,
  ⟨some 40, .move, [.t 8], none⟩,
  ⟨some 41, .move, [.t 10], none⟩,
  ⟨some 42, .slS 2 false true false, [.t 40, .t 41], none⟩,
  ⟨some 43, .append 2 24 false, [.t 39, .t 42], none⟩,
  ⟨some 44, .move, [.t 1], none⟩,
  ⟨some 45, .move, [.t 2], none⟩,
  ⟨some 46, .build [(.string ⟨#[]⟩), (.int .i64 0)] [(0, 1), (1, 1)], [.t 44, .t 45], none⟩,
  ⟨some 47, .buildSl 2 1 [(.string ⟨#[]⟩), (.int .i64 0)] [(0, 2)], [.t 46], none⟩,
  ⟨some 48, .append 2 24 false, [.t 43, .t 47], none⟩,
  ⟨some 11, .move, [.t 48], none⟩] [] [] [3, 6, 8, 10, 11] true [] []
noncomputable def c37_25 : ACode := .region true [⟨some 49, .addr 0, [.t 3], none⟩,
  ⟨some 50, .load false 1, [.t 49], none⟩,
  ⟨some 51, .move, [.t 11], none⟩,
  ⟨some 52, .move, [.t 8], none⟩,
  ⟨some 53, .move, [.t 10], none⟩,
  ⟨some 54, .slS 2 true false false, [.t 52, .t 53], none⟩,
  ⟨some 55, .append 2 24 false, [.t 51, .t 54], none⟩,
  ⟨some 56, .build [(.int .i64 0), (.slice none 0 0)] [(0, 1), (1, 1)], [.t 50, .t 55], none⟩,
  ⟨none, .store 2, [.t 6, .t 56], none⟩,
  ⟨some 7, .move, [.c (.val (.int .i64 0))], none⟩] [] [] [6, 7] true [11, 6] []
noncomputable def c37_24 : ACode := .seq c37_25 .ret
noncomputable def c37_22 : ACode := .seq c37_23 c37_24
noncomputable def c37_20 : ACode := .seq c37_21 c37_22
noncomputable def c37_14 : ACode := .seq c37_15 c37_20
noncomputable def c37_6 : ACode := .seq c37_7 c37_14
noncomputable def c37_4 : ACode := .seq c37_5 c37_6
noncomputable def c37_2 : ACode := .seq c37_3 c37_4
noncomputable def c37_0 : ACode := .seq c37_1 c37_2
noncomputable def code37 : Code := (Try.f37.body).getD .skip
theorem c37_ok : compC Try.prog 57 code37 = some (strip c37_0) := by kernel_rfl
theorem res37_ok : Try.f37.results.toList.mapM (resC Try.prog) = some [(6, some (true, 2)), (7, none)] := by kernel_rfl
/- quidnunc/quidnuncref08.Drop -/
noncomputable def c38_1 : ACode := .region false [⟨some 2, .box 0, [.t 0], none⟩,
  ⟨some 4, .alloc [(.int .i64 0), (.slice none 0 0)], [], none⟩,
  ⟨some 5, .move, [.c (.val (.bool false))], none⟩] [] [] [1, 2, 4] true [] []
noncomputable def c38_3 : ACode := .region false [⟨some 7, .load true 2, [.t 2], none⟩,
  ⟨some 8, .move, [.t 1], none⟩,
  ⟨some 9, .call 25, [.t 7, .t 8], none⟩,
  ⟨some 6, .move, [.t 9], none⟩] [] [] [2, 4, 6] true [] []
noncomputable def c38_6 : ACode := .region false [⟨some 10, .move, [.t 6], none⟩,
  ⟨some 11, .bin .lss, [.t 10, .c (.val (.int .i64 0))], none⟩] [] [] [2, 4, 6, 11] false [] []
noncomputable def c38_9 : ACode := .region false [⟨some 12, .load true 2, [.t 2], none⟩,
  ⟨none, .store 2, [.t 4, .t 12], none⟩,
  ⟨some 5, .move, [.c (.val (.bool false))], none⟩] [] [] [4, 5] true [] []
noncomputable def c38_8 : ACode := .seq c38_9 .ret
noncomputable def c38_7 : ACode := .cond (.t 11) c38_8 .skip
noncomputable def c38_5 : ACode := .seq c38_6 c38_7
noncomputable def c38_11 : ACode := .region true [⟨some 13, .addr 0, [.t 2], none⟩,
  ⟨some 14, .load false 1, [.t 13], none⟩,
  ⟨some 15, .buildSl 2 0 [(.string ⟨#[]⟩), (.int .i64 0)] [], [], none⟩,
  ⟨some 16, .addr 1, [.t 2], none⟩,
  ⟨some 17, .load false 1, [.t 16], none⟩,
  ⟨some 18, .move, [.t 6], none⟩,
  ⟨some 19, .slS 2 false true false, [.t 17, .t 18], none⟩,
  ⟨some 20, .append 2 24 false, [.t 15, .t 19], none⟩,
  ⟨some 21, .addr 1, [.t 2], none⟩,
  ⟨some 22, .load false 1, [.t 21], none⟩,
  ⟨some 23, .move, [.t 6], none⟩,
  ⟨some 24, .bin .add, [.t 23, .c (.val (.int .i64 1))], none⟩,
  ⟨some 25, .slS 2 true false false, [.t 22, .t 24], none⟩,
  ⟨some 26, .append 2 24 false, [.t 20, .t 25], none⟩,
  ⟨some 27, .build [(.int .i64 0), (.slice none 0 0)] [(0, 1), (1, 1)], [.t 14, .t 26], none⟩,
  ⟨none, .store 2, [.t 4, .t 27], none⟩,
  ⟨some 5, .move, [.c (.val (.bool true))], none⟩] [] [] [4, 5] true [4] []
noncomputable def c38_10 : ACode := .seq c38_11 .ret
noncomputable def c38_4 : ACode := .seq c38_5 c38_10
noncomputable def c38_2 : ACode := .seq c38_3 c38_4
noncomputable def c38_0 : ACode := .seq c38_1 c38_2
noncomputable def code38 : Code := (Try.f38.body).getD .skip
theorem c38_ok : compC Try.prog 28 code38 = some (strip c38_0) := by kernel_rfl
theorem res38_ok : Try.f38.results.toList.mapM (resC Try.prog) = some [(4, some (true, 2)), (5, none)] := by kernel_rfl
/- quidnunc/quidnuncref08.Scan -/
noncomputable def c26_1 : ACode := .region false [⟨some 3, .box 0, [.t 0], none⟩,
  ⟨some 6, .move, [.c (.val (.slice none 0 0))], none⟩] [] [] [1, 2, 3] true [] []
noncomputable def c26_3 : ACode := .region false [⟨some 9, .buildSl 2 0 [(.string ⟨#[]⟩), (.int .i64 0)] [], [], none⟩,
  ⟨some 7, .move, [.t 9], none⟩] [] [] [1, 2, 3, 7] true [] []
noncomputable def c26_6 : ACode := .region false [⟨some 8, .move, [.c (.val (.int .i64 0))], none⟩] [] [] [1, 2, 3, 7, 8] false [] []
noncomputable def c26_11 : ACode := .region false [⟨some 10, .move, [.t 8], none⟩,
  ⟨some 11, .addr 1, [.t 3], none⟩,
  ⟨some 12, .load false 1, [.t 11], none⟩,
  ⟨some 13, .len, [.t 12], none⟩,
  ⟨some 14, .bin .lss, [.t 10, .t 13], none⟩] [] [] [1, 2, 3, 7, 8, 14] false [] []
noncomputable def c26_12 : ACode := .cond (.t 14) .skip (.exit 0)
noncomputable def c26_10 : ACode := .seq c26_11 c26_12
noncomputable def c26_16 : ACode := .region false [⟨some 17, .addr 1, [.t 3], none⟩,
  ⟨some 18, .load false 1, [.t 17], none⟩,
  ⟨some 19, .move, [.t 8], none⟩,
  ⟨some 20, .ixS 2, [.t 18, .t 19], none⟩,
  ⟨some 21, .addr 0, [.t 20], none⟩,
  ⟨some 22, .load false 1, [.t 21], none⟩,
  ⟨some 23, .move, [.t 1], none⟩,
  ⟨some 24, .bin .geq, [.t 22, .t 23], none⟩,
  ⟨some 25, .move, [.t 24], none⟩,
  ⟨some 26, .move, [.t 7], some (some 25, true)⟩,
  ⟨some 27, .len, [.t 26], some (some 25, true)⟩,
  ⟨some 28, .move, [.t 2], some (some 25, true)⟩,
  ⟨some 29, .bin .lss, [.t 27, .t 28], some (some 25, true)⟩,
  ⟨some 30, .pick, [.t 25, .t 29, .c (.val (.bool false))], none⟩] [] [] [1, 2, 3, 7, 8, 30] false [] []
noncomputable def c26_18 : ACode := .region false [⟨some 31, .move, [.t 7], none⟩,
  ⟨some 32, .addr 1, [.t 3], none⟩,
  ⟨some 33, .load false 1, [.t 32], none⟩,
  ⟨some 34, .move, [.t 8], none⟩,
  ⟨some 35, .ixS 2, [.t 33, .t 34], none⟩,
  ⟨some 36, .load true 2, [.t 35], none⟩,
  ⟨some 37, .buildSl 2 1 [(.string ⟨#[]⟩), (.int .i64 0)] [(0, 2)], [.t 36], none⟩,
  ⟨some 38, .append 2 24 false, [.t 31, .t 37], none⟩,
  ⟨some 7, .move, [.t 38], none⟩] [] [] [1, 2, 3, 7, 8] true [] []
noncomputable def c26_17 : ACode := .cond (.t 30) c26_18 .skip
noncomputable def c26_15 : ACode := .seq c26_16 c26_17
noncomputable def c26_14 : ACode := .block 1 c26_15
noncomputable def c26_19 : ACode := .region false [⟨some 15, .move, [.t 8], none⟩,
  ⟨some 16, .bin .add, [.t 15, .c (.val (.int .i64 1))], none⟩,
  ⟨some 8, .move, [.t 16], none⟩] [] [] [1, 2, 3, 7, 8] false [] []
noncomputable def c26_13 : ACode := .seq c26_14 c26_19
noncomputable def c26_9 : ACode := .seq c26_10 c26_13
noncomputable def c26_8 : ACode := .loop c26_9
noncomputable def c26_7 : ACode := .block 0 c26_8
noncomputable def c26_5 : ACode := .seq c26_6 c26_7
noncomputable def c26_21 : ACode := .region false [⟨some 39, .move, [.t 7], none⟩,
  ⟨some 6, .move, [.t 39], none⟩] [] [] [6] false [] []
noncomputable def c26_20 : ACode := .seq c26_21 .ret
noncomputable def c26_4 : ACode := .seq c26_5 c26_20
noncomputable def c26_2 : ACode := .seq c26_3 c26_4
noncomputable def c26_0 : ACode := .seq c26_1 c26_2
noncomputable def code26 : Code := (Try.f26.body).getD .skip
theorem c26_ok : compC Try.prog 40 code26 = some (strip c26_0) := by kernel_rfl
theorem res26_ok : Try.f26.results.toList.mapM (resC Try.prog) = some [(6, none)] := by kernel_rfl
theorem rfind_any (r : Int) (l : List Pi) (k : ByteArray) (hs : Rise l) (hl : l.length ≤ 1099511627776) : ACall Try.prog 25 [.agg [I r, .sl 0 0 l.length 2 none], .val (.string k)] [.cells true (Rp 0 l)] (Det (I (findP l k)) [.cells true (Rp 0 l)]) := by
  have hr := rp_ren 0 l
  have hlen := rp_len 0 l
  refine ACall.startA c25_ok Try.func25 rfl Try.ntmps25 (by kernel_rfl) res25_ok rfl rfl rfl ?_; simp (maxSteps := 9999999) (disch := omega) only [go_sem]
  (have k9 := And.intro @hr (k0); (repeat' (first | refine AWpA.seq ?_ | refine AWpA.block ?_ | (with_reducible refine CondP.tt ?_) | (with_reducible refine CondP.ff ?_) | refine AWpA.cg ?_ | ((first | refine AWpA.rg ?_ | refine AWpA.dg [] [] follows ?_ | refine TailK.tg ?_ | refine AWpA.skip ?_ | refine AWpA.exit ?_ | refine AWpA.ret ?_ | (with_reducible refine ARoundsA.succ ?_) | ((first | refine Runs.gkt (fun h9 => ?_) | refine Runs.gkf (fun h9 => ?_) | refine Runs.gnt (fun h9 => ?_) | refine Runs.gnf (fun h9 => ?_) | refine CondP.gt (fun h9 => ?_) | refine CondP.gf (fun h9 => ?_) | refine CondP.gnt (fun h9 => ?_) | refine CondP.gnf (fun h9 => ?_)); (try simp only [h9]); clear h9)); (try simp (maxSteps := 9999999) (disch := omega) only [go_sem, k9]); (try refine cnd ?_)) | ((first | refine CondP.split (fun hif => ?_) (fun hif => ?_) | refine Runs.part (fun hif => ?_) (fun hif => ?_)) <;> ((try simp only [hif]); (try simp only [BL] at hif); (try (have h9 : _ = true := hif; simp only [h9])); (try (have h9 : _ = false := hif; simp only [h9])); (try simp (maxSteps := 9999999) (disch := omega) only [go_sem, k9]); (try refine cnd ?_); (try (exfalso; omega; done)))))); (all_goals (try clear k9)))
  (apply AWpA.loopL (fun i : Nat => [(1, .val (.string k)), (2, .ptr 1 0), (5, I i)]) (fun i => [.cells true (Rp 0 l), .cells false [I r, .sl 0 0 l.length 2 none]]) (fun i => l.length - i) (fun i => i ≤ l.length ∧ ∀ q (h : q < l.length), q < i → l[q].key ≠ k) (0) [0, 1]; rotate_left; (focus (simp (maxSteps := 9999999) (disch := omega) only [go_sem, hr]; (try (repeat' (first | done | trivial | rfl | exact leAs_rfl _ | decide | (refine And.intro ?_ ?_) | (simp; done) | omega | (simp; decide)))))); rotate_right)
  · exact ⟨Nat.zero_le _, fun q h hq => by omega⟩
  rintro i ⟨hi, h1⟩
  (try simp only at hi h1)
  by_cases hil : i < l.length
  · have g1 : ((i : Int) < (l.length : Int)) = True := eq_true (by omega)
    have hat := rp_at 0 l i hil
    have hk0 := rp_k l i hil
    by_cases hk : l[i].key = k
    · have hf : findP l k = i := by
        have h2 := has_at hs hil
        have h3 := rank_at hs hil
        rw [hk] at h2 h3
        unfold findP; rw [h2, h3]
      rw [hf]
      clear h1
      generalize l[i] = x at *
      subst hk
      (try simp (maxSteps := 9999999) (disch := omega) only [go_sem])
      (have k9 := And.intro @hr (And.intro @hlen (And.intro @g1 (And.intro @hat (And.intro @hk0 (k0))))); (repeat' (first | refine AWpA.seq ?_ | refine AWpA.block ?_ | (with_reducible refine CondP.tt ?_) | (with_reducible refine CondP.ff ?_) | refine AWpA.cg ?_ | ((first | refine AWpA.rg ?_ | refine AWpA.dg [] [] follows ?_ | refine TailK.tg ?_ | refine AWpA.skip ?_ | refine AWpA.exit ?_ | refine AWpA.ret ?_ | (with_reducible refine ARoundsA.succ ?_) | ((first | refine Runs.gkt (fun h9 => ?_) | refine Runs.gkf (fun h9 => ?_) | refine Runs.gnt (fun h9 => ?_) | refine Runs.gnf (fun h9 => ?_) | refine CondP.gt (fun h9 => ?_) | refine CondP.gf (fun h9 => ?_) | refine CondP.gnt (fun h9 => ?_) | refine CondP.gnf (fun h9 => ?_)); (try simp only [h9]); clear h9)); (try simp (maxSteps := 9999999) (disch := omega) only [go_sem, k9]); (try refine cnd ?_)) | ((first | refine CondP.split (fun hif => ?_) (fun hif => ?_) | refine Runs.part (fun hif => ?_) (fun hif => ?_)) <;> ((try simp only [hif]); (try simp only [BL] at hif); (try (have h9 : _ = true := hif; simp only [h9])); (try (have h9 : _ = false := hif; simp only [h9])); (try simp (maxSteps := 9999999) (disch := omega) only [go_sem, k9]); (try refine cnd ?_); (try (exfalso; omega; done)))))); (all_goals (try clear k9)))
      (apply Ret.det [0]; (focus (first | exact .inl rfl | exact .inr rfl)); (focus (simp (maxSteps := 9999999) (disch := omega) only [go_sem, hr]; rfl)); (simp (maxSteps := 9999999) (disch := omega) only [go_sem, hr]; (try (repeat' (first | done | trivial | rfl | exact leAs_rfl _ | decide | (refine And.intro ?_ ?_) | (simp; done) | omega | (simp; decide))))))
    · have hb : ∀ q (h : q < l.length), q < i + 1 → l[q].key ≠ k := fun q h hq => by
        rcases Nat.lt_or_eq_of_le (Nat.le_of_lt_succ hq) with h' | rfl
        · exact h1 q h h'
        · exact hk
      clear h1
      generalize l[i] = x at *
      have hbe : (x.key == k) = false := by
        cases e : x.key == k with
        | false => rfl
        | true => exact absurd ((_root_.Go.MapKept.bytes_beq _ _).1 e) hk
      clear hk
      (try simp (maxSteps := 9999999) (disch := omega) only [go_sem])
      (have k9 := And.intro @hr (And.intro @hlen (And.intro @g1 (And.intro @hat (And.intro @hk0 (And.intro @hbe (k0)))))); (repeat' (first | refine AWpA.seq ?_ | refine AWpA.block ?_ | (with_reducible refine CondP.tt ?_) | (with_reducible refine CondP.ff ?_) | refine AWpA.cg ?_ | ((first | refine AWpA.rg ?_ | refine AWpA.dg [] [] follows ?_ | refine TailK.tg ?_ | refine AWpA.skip ?_ | refine AWpA.exit ?_ | refine AWpA.ret ?_ | (with_reducible refine ARoundsA.succ ?_) | ((first | refine Runs.gkt (fun h9 => ?_) | refine Runs.gkf (fun h9 => ?_) | refine Runs.gnt (fun h9 => ?_) | refine Runs.gnf (fun h9 => ?_) | refine CondP.gt (fun h9 => ?_) | refine CondP.gf (fun h9 => ?_) | refine CondP.gnt (fun h9 => ?_) | refine CondP.gnf (fun h9 => ?_)); (try simp only [h9]); clear h9)); (try simp (maxSteps := 9999999) (disch := omega) only [go_sem, k9]); (try refine cnd ?_)) | ((first | refine CondP.split (fun hif => ?_) (fun hif => ?_) | refine Runs.part (fun hif => ?_) (fun hif => ?_)) <;> ((try simp only [hif]); (try simp only [BL] at hif); (try (have h9 : _ = true := hif; simp only [h9])); (try (have h9 : _ = false := hif; simp only [h9])); (try simp (maxSteps := 9999999) (disch := omega) only [go_sem, k9]); (try refine cnd ?_); (try (exfalso; omega; done)))))); (all_goals (try clear k9)))
      (apply Back.to (i + 1) [0, 1]; (focus ((try simp (maxSteps := 9999999) (disch := omega) only [go_sem, hr]); first | done | omega)); rotate_left; (focus (simp (maxSteps := 9999999) (disch := omega) only [go_sem, hr]; (try (repeat' (first | done | trivial | rfl | exact leAs_rfl _ | decide | (refine And.intro ?_ ?_) | (simp; done) | omega | (simp; decide)))))))
      exact ⟨by omega, hb⟩
  · obtain rfl : i = l.length := by omega
    have g1 : ((l.length : Int) < (l.length : Int)) = False := eq_false (by omega)
    have hf : findP l k = -1 := by unfold findP; rw [has_none fun q h => h1 q h h]
    rw [hf]
    clear h1
    (try simp (maxSteps := 9999999) (disch := omega) only [go_sem])
    (have k9 := And.intro @hr (And.intro @hlen (And.intro @g1 (k0))); (repeat' (first | refine AWpA.seq ?_ | refine AWpA.block ?_ | (with_reducible refine CondP.tt ?_) | (with_reducible refine CondP.ff ?_) | refine AWpA.cg ?_ | ((first | refine AWpA.rg ?_ | refine AWpA.dg [] [] follows ?_ | refine TailK.tg ?_ | refine AWpA.skip ?_ | refine AWpA.exit ?_ | refine AWpA.ret ?_ | (with_reducible refine ARoundsA.succ ?_) | ((first | refine Runs.gkt (fun h9 => ?_) | refine Runs.gkf (fun h9 => ?_) | refine Runs.gnt (fun h9 => ?_) | refine Runs.gnf (fun h9 => ?_) | refine CondP.gt (fun h9 => ?_) | refine CondP.gf (fun h9 => ?_) | refine CondP.gnt (fun h9 => ?_) | refine CondP.gnf (fun h9 => ?_)); (try simp only [h9]); clear h9)); (try simp (maxSteps := 9999999) (disch := omega) only [go_sem, k9]); (try refine cnd ?_)) | ((first | refine CondP.split (fun hif => ?_) (fun hif => ?_) | refine Runs.part (fun hif => ?_) (fun hif => ?_)) <;> ((try simp only [hif]); (try simp only [BL] at hif); (try (have h9 : _ = true := hif; simp only [h9])); (try (have h9 : _ = false := hif; simp only [h9])); (try simp (maxSteps := 9999999) (disch := omega) only [go_sem, k9]); (try refine cnd ?_); (try (exfalso; omega; done)))))); (all_goals (try clear k9)))
    (apply Ret.det [0]; (focus (first | exact .inl rfl | exact .inr rfl)); (focus (simp (maxSteps := 9999999) (disch := omega) only [go_sem, hr]; rfl)); (simp (maxSteps := 9999999) (disch := omega) only [go_sem, hr]; (try (repeat' (first | done | trivial | rfl | exact leAs_rfl _ | decide | (refine And.intro ?_ ?_) | (simp; done) | omega | (simp; decide))))))
theorem rrank_any (r : Int) (l : List Pi) (k : ByteArray) (hs : Rise l) (hl : l.length ≤ 1099511627776) : ACall Try.prog 23 [.agg [I r, .sl 0 0 l.length 2 none], .val (.string k)] [.cells true (Rp 0 l)] (Det (I (rankP l k)) [.cells true (Rp 0 l)]) := by
  have hr := rp_ren 0 l
  have hlen := rp_len 0 l
  have hrk := rankP_le l k
  refine ACall.startA c23_ok Try.func23 rfl Try.ntmps23 (by kernel_rfl) res23_ok rfl rfl rfl ?_; simp (maxSteps := 9999999) (disch := omega) only [go_sem]
  (have k9 := And.intro @hr (k0); (repeat' (first | refine AWpA.seq ?_ | refine AWpA.block ?_ | (with_reducible refine CondP.tt ?_) | (with_reducible refine CondP.ff ?_) | refine AWpA.cg ?_ | ((first | refine AWpA.rg ?_ | refine AWpA.dg [] [] follows ?_ | refine TailK.tg ?_ | refine AWpA.skip ?_ | refine AWpA.exit ?_ | refine AWpA.ret ?_ | (with_reducible refine ARoundsA.succ ?_) | ((first | refine Runs.gkt (fun h9 => ?_) | refine Runs.gkf (fun h9 => ?_) | refine Runs.gnt (fun h9 => ?_) | refine Runs.gnf (fun h9 => ?_) | refine CondP.gt (fun h9 => ?_) | refine CondP.gf (fun h9 => ?_) | refine CondP.gnt (fun h9 => ?_) | refine CondP.gnf (fun h9 => ?_)); (try simp only [h9]); clear h9)); (try simp (maxSteps := 9999999) (disch := omega) only [go_sem, k9]); (try refine cnd ?_)) | ((first | refine CondP.split (fun hif => ?_) (fun hif => ?_) | refine Runs.part (fun hif => ?_) (fun hif => ?_)) <;> ((try simp only [hif]); (try simp only [BL] at hif); (try (have h9 : _ = true := hif; simp only [h9])); (try (have h9 : _ = false := hif; simp only [h9])); (try simp (maxSteps := 9999999) (disch := omega) only [go_sem, k9]); (try refine cnd ?_); (try (exfalso; omega; done)))))); (all_goals (try clear k9)))
  (apply AWpA.loopL (fun i : Nat => [(1, .val (.string k)), (2, .ptr 1 0), (5, I (min i (rankP l k) : Nat)), (6, I i)]) (fun i => [.cells true (Rp 0 l), .cells false [I r, .sl 0 0 l.length 2 none]]) (fun i => l.length - i) (fun i => i ≤ l.length) (0) [0, 1]; rotate_left; (focus (simp (maxSteps := 9999999) (disch := omega) only [go_sem, hr]; (try (repeat' (first | done | trivial | rfl | exact leAs_rfl _ | decide | (refine And.intro ?_ ?_) | (simp; done) | omega | (simp; decide)))))); rotate_right)
  · simp
  rintro i hi
  (try simp only at hi)
  have hlt := lt_rank hs k
  by_cases hil : i < l.length
  · have g1 : ((i : Int) < (l.length : Int)) = True := eq_true (by omega)
    have hat := rp_at 0 l i hil
    have hk0 := rp_k l i hil
    have hlt := hlt i hil
    generalize l[i] = x at *
    generalize rankP l k = n at *
    by_cases hin : i < n
    · rw [decide_eq_true hin] at hlt
      have e1 : min i n = i := by omega
      have e2 : min (i + 1) n = i + 1 := by omega
      rw [e1]
      (try simp (maxSteps := 9999999) (disch := omega) only [go_sem])
      (have k9 := And.intro @hr (And.intro @hlen (And.intro @g1 (And.intro @hat (And.intro @hk0 (And.intro @hlt (k0)))))); (repeat' (first | refine AWpA.seq ?_ | refine AWpA.block ?_ | (with_reducible refine CondP.tt ?_) | (with_reducible refine CondP.ff ?_) | refine AWpA.cg ?_ | ((first | refine AWpA.rg ?_ | refine AWpA.dg [] [] follows ?_ | refine TailK.tg ?_ | refine AWpA.skip ?_ | refine AWpA.exit ?_ | refine AWpA.ret ?_ | (with_reducible refine ARoundsA.succ ?_) | ((first | refine Runs.gkt (fun h9 => ?_) | refine Runs.gkf (fun h9 => ?_) | refine Runs.gnt (fun h9 => ?_) | refine Runs.gnf (fun h9 => ?_) | refine CondP.gt (fun h9 => ?_) | refine CondP.gf (fun h9 => ?_) | refine CondP.gnt (fun h9 => ?_) | refine CondP.gnf (fun h9 => ?_)); (try simp only [h9]); clear h9)); (try simp (maxSteps := 9999999) (disch := omega) only [go_sem, k9]); (try refine cnd ?_)) | ((first | refine CondP.split (fun hif => ?_) (fun hif => ?_) | refine Runs.part (fun hif => ?_) (fun hif => ?_)) <;> ((try simp only [hif]); (try simp only [BL] at hif); (try (have h9 : _ = true := hif; simp only [h9])); (try (have h9 : _ = false := hif; simp only [h9])); (try simp (maxSteps := 9999999) (disch := omega) only [go_sem, k9]); (try refine cnd ?_); (try (exfalso; omega; done)))))); (all_goals (try clear k9)))
      (apply Back.to (i + 1) [0, 1]; (focus ((try simp (maxSteps := 9999999) (disch := omega) only [go_sem, hr, e2]); first | done | omega)); rotate_left; (focus (simp (maxSteps := 9999999) (disch := omega) only [go_sem, hr, e2]; (try (repeat' (first | done | trivial | rfl | exact leAs_rfl _ | decide | (refine And.intro ?_ ?_) | (simp; done) | omega | (simp; decide)))))))
      all_goals omega
    · rw [decide_eq_false hin] at hlt
      have e1 : min i n = n := by omega
      have e2 : min (i + 1) n = n := by omega
      rw [e1]
      (try simp (maxSteps := 9999999) (disch := omega) only [go_sem])
      (have k9 := And.intro @hr (And.intro @hlen (And.intro @g1 (And.intro @hat (And.intro @hk0 (And.intro @hlt (k0)))))); (repeat' (first | refine AWpA.seq ?_ | refine AWpA.block ?_ | (with_reducible refine CondP.tt ?_) | (with_reducible refine CondP.ff ?_) | refine AWpA.cg ?_ | ((first | refine AWpA.rg ?_ | refine AWpA.dg [] [] follows ?_ | refine TailK.tg ?_ | refine AWpA.skip ?_ | refine AWpA.exit ?_ | refine AWpA.ret ?_ | (with_reducible refine ARoundsA.succ ?_) | ((first | refine Runs.gkt (fun h9 => ?_) | refine Runs.gkf (fun h9 => ?_) | refine Runs.gnt (fun h9 => ?_) | refine Runs.gnf (fun h9 => ?_) | refine CondP.gt (fun h9 => ?_) | refine CondP.gf (fun h9 => ?_) | refine CondP.gnt (fun h9 => ?_) | refine CondP.gnf (fun h9 => ?_)); (try simp only [h9]); clear h9)); (try simp (maxSteps := 9999999) (disch := omega) only [go_sem, k9]); (try refine cnd ?_)) | ((first | refine CondP.split (fun hif => ?_) (fun hif => ?_) | refine Runs.part (fun hif => ?_) (fun hif => ?_)) <;> ((try simp only [hif]); (try simp only [BL] at hif); (try (have h9 : _ = true := hif; simp only [h9])); (try (have h9 : _ = false := hif; simp only [h9])); (try simp (maxSteps := 9999999) (disch := omega) only [go_sem, k9]); (try refine cnd ?_); (try (exfalso; omega; done)))))); (all_goals (try clear k9)))
      (apply Back.to (i + 1) [0, 1]; (focus ((try simp (maxSteps := 9999999) (disch := omega) only [go_sem, hr, e2]); first | done | omega)); rotate_left; (focus (simp (maxSteps := 9999999) (disch := omega) only [go_sem, hr, e2]; (try (repeat' (first | done | trivial | rfl | exact leAs_rfl _ | decide | (refine And.intro ?_ ?_) | (simp; done) | omega | (simp; decide)))))))
      all_goals omega
  · obtain rfl : i = l.length := by omega
    have g1 : ((l.length : Int) < (l.length : Int)) = False := eq_false (by omega)
    have e1 : min l.length (rankP l k) = rankP l k := by omega
    rw [e1]
    generalize rankP l k = n at *
    (try simp (maxSteps := 9999999) (disch := omega) only [go_sem])
    (have k9 := And.intro @hr (And.intro @hlen (And.intro @g1 (k0))); (repeat' (first | refine AWpA.seq ?_ | refine AWpA.block ?_ | (with_reducible refine CondP.tt ?_) | (with_reducible refine CondP.ff ?_) | refine AWpA.cg ?_ | ((first | refine AWpA.rg ?_ | refine AWpA.dg [] [] follows ?_ | refine TailK.tg ?_ | refine AWpA.skip ?_ | refine AWpA.exit ?_ | refine AWpA.ret ?_ | (with_reducible refine ARoundsA.succ ?_) | ((first | refine Runs.gkt (fun h9 => ?_) | refine Runs.gkf (fun h9 => ?_) | refine Runs.gnt (fun h9 => ?_) | refine Runs.gnf (fun h9 => ?_) | refine CondP.gt (fun h9 => ?_) | refine CondP.gf (fun h9 => ?_) | refine CondP.gnt (fun h9 => ?_) | refine CondP.gnf (fun h9 => ?_)); (try simp only [h9]); clear h9)); (try simp (maxSteps := 9999999) (disch := omega) only [go_sem, k9]); (try refine cnd ?_)) | ((first | refine CondP.split (fun hif => ?_) (fun hif => ?_) | refine Runs.part (fun hif => ?_) (fun hif => ?_)) <;> ((try simp only [hif]); (try simp only [BL] at hif); (try (have h9 : _ = true := hif; simp only [h9])); (try (have h9 : _ = false := hif; simp only [h9])); (try simp (maxSteps := 9999999) (disch := omega) only [go_sem, k9]); (try refine cnd ?_); (try (exfalso; omega; done)))))); (all_goals (try clear k9)))
    (apply Ret.det [0]; (focus (first | exact .inl rfl | exact .inr rfl)); (focus (simp (maxSteps := 9999999) (disch := omega) only [go_sem, hr]; rfl)); (simp (maxSteps := 9999999) (disch := omega) only [go_sem, hr]; (try (repeat' (first | done | trivial | rfl | exact leAs_rfl _ | decide | (refine And.intro ?_ ?_) | (simp; done) | omega | (simp; decide))))))
theorem rnew_any (r : Int) : ACall Try.prog 20 [I r] [] (Det (match decide (r < 1 ∨ 4096 < r) with | true => .tup [.agg [I 0, .val (.slice none 0 0)], I 1] | false => .tup [.agg [I r, .val (.slice none 0 0)], I 0]) []) := by
  by_cases h1 : r < 1
  · rw [decide_eq_true (Or.inl h1)]
    have g1 : (r < 1) = True := eq_true h1
    refine ACall.startA c20_ok Try.func20 rfl Try.ntmps20 (by kernel_rfl) res20_ok rfl rfl rfl ?_; simp (maxSteps := 9999999) (disch := omega) only [go_sem]
    (have k9 := And.intro @g1 (k0); (repeat' (first | refine AWpA.seq ?_ | refine AWpA.block ?_ | (with_reducible refine CondP.tt ?_) | (with_reducible refine CondP.ff ?_) | refine AWpA.cg ?_ | ((first | refine AWpA.rg ?_ | refine AWpA.dg [] [] follows ?_ | refine TailK.tg ?_ | refine AWpA.skip ?_ | refine AWpA.exit ?_ | refine AWpA.ret ?_ | (with_reducible refine ARoundsA.succ ?_) | ((first | refine Runs.gkt (fun h9 => ?_) | refine Runs.gkf (fun h9 => ?_) | refine Runs.gnt (fun h9 => ?_) | refine Runs.gnf (fun h9 => ?_) | refine CondP.gt (fun h9 => ?_) | refine CondP.gf (fun h9 => ?_) | refine CondP.gnt (fun h9 => ?_) | refine CondP.gnf (fun h9 => ?_)); (try simp only [h9]); clear h9)); (try simp (maxSteps := 9999999) (disch := omega) only [go_sem, k9]); (try refine cnd ?_)) | ((first | refine CondP.split (fun hif => ?_) (fun hif => ?_) | refine Runs.part (fun hif => ?_) (fun hif => ?_)) <;> ((try simp only [hif]); (try simp only [BL] at hif); (try (have h9 : _ = true := hif; simp only [h9])); (try (have h9 : _ = false := hif; simp only [h9])); (try simp (maxSteps := 9999999) (disch := omega) only [go_sem, k9]); (try refine cnd ?_); (try (exfalso; omega; done)))))); (all_goals (try clear k9)))
    (apply Ret.det []; (focus (first | exact .inl rfl | exact .inr rfl)); (focus (simp (maxSteps := 9999999) (disch := omega) only [go_sem]; rfl)); (simp (maxSteps := 9999999) (disch := omega) only [go_sem]; (try (repeat' (first | done | trivial | rfl | exact leAs_rfl _ | decide | (refine And.intro ?_ ?_) | (simp; done) | omega | (simp; decide))))))
  · by_cases h2 : 4096 < r
    · rw [decide_eq_true (Or.inr h2)]
      have g1 : (r < 1) = False := eq_false h1
      have g2 : (4096 < r) = True := eq_true h2
      refine ACall.startA c20_ok Try.func20 rfl Try.ntmps20 (by kernel_rfl) res20_ok rfl rfl rfl ?_; simp (maxSteps := 9999999) (disch := omega) only [go_sem]
      (have k9 := And.intro @g1 (And.intro @g2 (k0)); (repeat' (first | refine AWpA.seq ?_ | refine AWpA.block ?_ | (with_reducible refine CondP.tt ?_) | (with_reducible refine CondP.ff ?_) | refine AWpA.cg ?_ | ((first | refine AWpA.rg ?_ | refine AWpA.dg [] [] follows ?_ | refine TailK.tg ?_ | refine AWpA.skip ?_ | refine AWpA.exit ?_ | refine AWpA.ret ?_ | (with_reducible refine ARoundsA.succ ?_) | ((first | refine Runs.gkt (fun h9 => ?_) | refine Runs.gkf (fun h9 => ?_) | refine Runs.gnt (fun h9 => ?_) | refine Runs.gnf (fun h9 => ?_) | refine CondP.gt (fun h9 => ?_) | refine CondP.gf (fun h9 => ?_) | refine CondP.gnt (fun h9 => ?_) | refine CondP.gnf (fun h9 => ?_)); (try simp only [h9]); clear h9)); (try simp (maxSteps := 9999999) (disch := omega) only [go_sem, k9]); (try refine cnd ?_)) | ((first | refine CondP.split (fun hif => ?_) (fun hif => ?_) | refine Runs.part (fun hif => ?_) (fun hif => ?_)) <;> ((try simp only [hif]); (try simp only [BL] at hif); (try (have h9 : _ = true := hif; simp only [h9])); (try (have h9 : _ = false := hif; simp only [h9])); (try simp (maxSteps := 9999999) (disch := omega) only [go_sem, k9]); (try refine cnd ?_); (try (exfalso; omega; done)))))); (all_goals (try clear k9)))
      (apply Ret.det []; (focus (first | exact .inl rfl | exact .inr rfl)); (focus (simp (maxSteps := 9999999) (disch := omega) only [go_sem]; rfl)); (simp (maxSteps := 9999999) (disch := omega) only [go_sem]; (try (repeat' (first | done | trivial | rfl | exact leAs_rfl _ | decide | (refine And.intro ?_ ?_) | (simp; done) | omega | (simp; decide))))))
    · rw [decide_eq_false (show ¬ (r < 1 ∨ 4096 < r) by omega)]
      have g1 : (r < 1) = False := eq_false h1
      have g2 : (4096 < r) = False := eq_false h2
      refine ACall.startA c20_ok Try.func20 rfl Try.ntmps20 (by kernel_rfl) res20_ok rfl rfl rfl ?_; simp (maxSteps := 9999999) (disch := omega) only [go_sem]
      (have k9 := And.intro @g1 (And.intro @g2 (k0)); (repeat' (first | refine AWpA.seq ?_ | refine AWpA.block ?_ | (with_reducible refine CondP.tt ?_) | (with_reducible refine CondP.ff ?_) | refine AWpA.cg ?_ | ((first | refine AWpA.rg ?_ | refine AWpA.dg [] [] follows ?_ | refine TailK.tg ?_ | refine AWpA.skip ?_ | refine AWpA.exit ?_ | refine AWpA.ret ?_ | (with_reducible refine ARoundsA.succ ?_) | ((first | refine Runs.gkt (fun h9 => ?_) | refine Runs.gkf (fun h9 => ?_) | refine Runs.gnt (fun h9 => ?_) | refine Runs.gnf (fun h9 => ?_) | refine CondP.gt (fun h9 => ?_) | refine CondP.gf (fun h9 => ?_) | refine CondP.gnt (fun h9 => ?_) | refine CondP.gnf (fun h9 => ?_)); (try simp only [h9]); clear h9)); (try simp (maxSteps := 9999999) (disch := omega) only [go_sem, k9]); (try refine cnd ?_)) | ((first | refine CondP.split (fun hif => ?_) (fun hif => ?_) | refine Runs.part (fun hif => ?_) (fun hif => ?_)) <;> ((try simp only [hif]); (try simp only [BL] at hif); (try (have h9 : _ = true := hif; simp only [h9])); (try (have h9 : _ = false := hif; simp only [h9])); (try simp (maxSteps := 9999999) (disch := omega) only [go_sem, k9]); (try refine cnd ?_); (try (exfalso; omega; done)))))); (all_goals (try clear k9)))
      (apply Ret.det []; (focus (first | exact .inl rfl | exact .inr rfl)); (focus (simp (maxSteps := 9999999) (disch := omega) only [go_sem]; rfl)); (simp (maxSteps := 9999999) (disch := omega) only [go_sem]; (try (repeat' (first | done | trivial | rfl | exact leAs_rfl _ | decide | (refine And.intro ?_ ?_) | (simp; done) | omega | (simp; decide))))))
theorem rdrop_any (r : Int) (l : List Pi) (k : ByteArray) (hs : Rise l) (hl : l.length ≤ 1099511627776) : ACall Try.prog 38 [.agg [I r, .sl 0 0 l.length 2 none], .val (.string k)] [.cells false (Rp 0 l)] (Det (.tup [.agg [I r, .sl 1 0 (dropP l k).length 2 none], Bo (hasP' l k)]) [.gone, .cells false (Rp 0 (dropP l k))]) := by
  have c := rfind_any r l k hs hl
  have hr := rp_ren 0
  have hlen := rp_len 0
  cases hh : hasP' l k with
  | false =>
    have hd : dropP l k = l := by unfold dropP; rw [hh]
    have hf : findP l k = -1 := by unfold findP; rw [hh]
    rw [hf] at c
    rw [hd]
    clear hd hf hh
    refine ACall.startA c38_ok Try.func38 rfl Try.ntmps38 (by kernel_rfl) res38_ok rfl rfl rfl ?_; simp (maxSteps := 9999999) (disch := omega) only [go_sem]
    (have k9 := And.intro @hr (k0); (repeat' (first | refine AWpA.seq ?_ | refine AWpA.block ?_ | (with_reducible refine CondP.tt ?_) | (with_reducible refine CondP.ff ?_) | refine AWpA.cg ?_ | ((first | refine AWpA.rg ?_ | refine AWpA.dg [] [] follows ?_ | refine TailK.tg ?_ | refine AWpA.skip ?_ | refine AWpA.exit ?_ | refine AWpA.ret ?_ | (with_reducible refine ARoundsA.succ ?_) | ((first | refine Runs.gkt (fun h9 => ?_) | refine Runs.gkf (fun h9 => ?_) | refine Runs.gnt (fun h9 => ?_) | refine Runs.gnf (fun h9 => ?_) | refine CondP.gt (fun h9 => ?_) | refine CondP.gf (fun h9 => ?_) | refine CondP.gnt (fun h9 => ?_) | refine CondP.gnf (fun h9 => ?_)); (try simp only [h9]); clear h9) | refine CallG.pg [0] (c) ?_ | refine CallG.dg [0] (c) ?_); (try simp (maxSteps := 9999999) (disch := omega) only [go_sem, k9]); (try refine cnd ?_)) | ((first | refine CondP.split (fun hif => ?_) (fun hif => ?_) | refine Runs.part (fun hif => ?_) (fun hif => ?_)) <;> ((try simp only [hif]); (try simp only [BL] at hif); (try (have h9 : _ = true := hif; simp only [h9])); (try (have h9 : _ = false := hif; simp only [h9])); (try simp (maxSteps := 9999999) (disch := omega) only [go_sem, k9]); (try refine cnd ?_); (try (exfalso; omega; done)))))); (all_goals (try clear k9)))
    (apply Ret.det [0, 0]; (focus (first | exact .inl rfl | exact .inr rfl)); (focus (simp (maxSteps := 9999999) (disch := omega) only [go_sem, hr]; rfl)); (simp (maxSteps := 9999999) (disch := omega) only [go_sem, hr]; (try (repeat' (first | done | trivial | rfl | exact leAs_rfl _ | decide | (refine And.intro ?_ ?_) | (simp; done) | omega | (simp; decide))))))
  | true =>
    have hlt := hasP_lt hh
    have hd : dropP l k = l.take (rankP l k) ++ l.drop (rankP l k + 1) := by unfold dropP; rw [hh]
    have hf : findP l k = rankP l k := by unfold findP; rw [hh]
    have hl' : (l.take (rankP l k) ++ l.drop (rankP l k + 1)).length = l.length - 1 := by simp; omega
    rw [hf] at c
    rw [hd, hl', rp_app]
    clear hd hf hh
    generalize rankP l k = i at *
    have q1 := rp_take l i (n := i * 2) rfl (by omega)
    have q2 := rp_drop l (i + 1) (n := (i + 1) * 2) rfl (by omega)
    have hX := rp_lenT l i (by omega)
    have hY := hlen (l.drop (i + 1))
    rw [List.length_drop] at hY
    have rX := hr (l.take i)
    have rY := hr (l.drop (i + 1))
    have hL := hlen l
    have rL := hr l
    generalize Rp 0 (l.take i) = X at *
    generalize Rp 0 (l.drop (i + 1)) = Y at *
    obtain ⟨m, hm⟩ : ∃ m, l.length = i + m + 1 := ⟨l.length - i - 1, by omega⟩
    have t1 : ((i : Int) + 1).toNat = i + 1 := by omega
    have t2 : ((i : Int) < 0) = False := eq_false (by omega)
    have t3 : l.length - (i + 1) = m := by omega
    have t4 : l.length - 1 = i + m := by omega
    rw [t3] at hY
    have q3 : List.take (m * 2) Y = Y := List.take_of_length_le (by omega)
    have p0 : i ≤ 0 ↔ i = 0 := by omega
    have p1 : i + m ≤ i ↔ m = 0 := by omega
    refine ACall.startA c38_ok Try.func38 rfl Try.ntmps38 (by kernel_rfl) res38_ok rfl rfl rfl ?_; simp (maxSteps := 9999999) (disch := omega) only [go_sem]
    rcases Nat.eq_zero_or_pos i with hi0 | hi0
    · have p2 : (i = 0) = True := eq_true hi0
      rcases Nat.eq_zero_or_pos m with hm0 | hm0
      · have p3 : i + m ≤ 0 := by omega
        (have k9 := And.intro @rX (And.intro @rY (And.intro @rL (And.intro @hX (And.intro @hY (And.intro @hL (And.intro @t1 (And.intro @t2 (And.intro @t3 (And.intro @t4 (And.intro @q1 (And.intro @q2 (And.intro @q3 (And.intro @p0 (And.intro @p2 (And.intro @p3 (And.intro @renL_append (k0))))))))))))))))); (repeat' (first | refine AWpA.seq ?_ | refine AWpA.block ?_ | (with_reducible refine CondP.tt ?_) | (with_reducible refine CondP.ff ?_) | refine AWpA.cg ?_ | ((first | refine AWpA.rg ?_ | refine AWpA.dg [] [] follows ?_ | refine TailK.tg ?_ | refine AWpA.skip ?_ | refine AWpA.exit ?_ | refine AWpA.ret ?_ | (with_reducible refine ARoundsA.succ ?_) | ((first | refine Runs.gkt (fun h9 => ?_) | refine Runs.gkf (fun h9 => ?_) | refine Runs.gnt (fun h9 => ?_) | refine Runs.gnf (fun h9 => ?_) | refine CondP.gt (fun h9 => ?_) | refine CondP.gf (fun h9 => ?_) | refine CondP.gnt (fun h9 => ?_) | refine CondP.gnf (fun h9 => ?_)); (try simp only [h9]); clear h9) | refine CallG.pg [0] (c) ?_ | refine CallG.dg [0] (c) ?_); (try simp (maxSteps := 9999999) (disch := omega) only [go_sem, k9]); (try refine cnd ?_)) | ((first | refine CondP.split (fun hif => ?_) (fun hif => ?_) | refine Runs.part (fun hif => ?_) (fun hif => ?_)) <;> ((try simp only [hif]); (try simp only [BL] at hif); (try (have h9 : _ = true := hif; simp only [h9])); (try (have h9 : _ = false := hif; simp only [h9])); (try simp (maxSteps := 9999999) (disch := omega) only [go_sem, k9]); (try refine cnd ?_); (try (exfalso; omega; done)))))); (all_goals (try clear k9)))
        have q6 : List.take (i * 2) X = X := List.take_of_length_le (by omega)
        have q7 : List.drop ((i + m) * 2) X = [] := List.drop_of_length_le (by omega)
        rw [q6, q7, List.append_nil]
        (apply Ret.det [0, 177]; (focus (first | exact .inl rfl | exact .inr rfl)); (focus (simp (maxSteps := 9999999) (disch := omega) only [go_sem, rX, rY, renL_append]; rfl)); (simp (maxSteps := 9999999) (disch := omega) only [go_sem, rX, rY, renL_append]; (try (repeat' (first | done | trivial | rfl | exact leAs_rfl _ | decide | (refine And.intro ?_ ?_) | (simp; done) | omega | (simp; decide))))))
      · have p3 : i + m ≤ 0 ↔ False := iff_false_intro (by omega)
        (have k9 := And.intro @rX (And.intro @rY (And.intro @rL (And.intro @hX (And.intro @hY (And.intro @hL (And.intro @t1 (And.intro @t2 (And.intro @t3 (And.intro @t4 (And.intro @q1 (And.intro @q2 (And.intro @q3 (And.intro @p0 (And.intro @p2 (And.intro @p3 (And.intro @renL_append (k0))))))))))))))))); (repeat' (first | refine AWpA.seq ?_ | refine AWpA.block ?_ | (with_reducible refine CondP.tt ?_) | (with_reducible refine CondP.ff ?_) | refine AWpA.cg ?_ | ((first | refine AWpA.rg ?_ | refine AWpA.dg [] [] follows ?_ | refine TailK.tg ?_ | refine AWpA.skip ?_ | refine AWpA.exit ?_ | refine AWpA.ret ?_ | (with_reducible refine ARoundsA.succ ?_) | ((first | refine Runs.gkt (fun h9 => ?_) | refine Runs.gkf (fun h9 => ?_) | refine Runs.gnt (fun h9 => ?_) | refine Runs.gnf (fun h9 => ?_) | refine CondP.gt (fun h9 => ?_) | refine CondP.gf (fun h9 => ?_) | refine CondP.gnt (fun h9 => ?_) | refine CondP.gnf (fun h9 => ?_)); (try simp only [h9]); clear h9) | refine CallG.pg [0] (c) ?_ | refine CallG.dg [0] (c) ?_); (try simp (maxSteps := 9999999) (disch := omega) only [go_sem, k9]); (try refine cnd ?_)) | ((first | refine CondP.split (fun hif => ?_) (fun hif => ?_) | refine Runs.part (fun hif => ?_) (fun hif => ?_)) <;> ((try simp only [hif]); (try simp only [BL] at hif); (try (have h9 : _ = true := hif; simp only [h9])); (try (have h9 : _ = false := hif; simp only [h9])); (try simp (maxSteps := 9999999) (disch := omega) only [go_sem, k9]); (try refine cnd ?_); (try (exfalso; omega; done)))))); (all_goals (try clear k9)))
        have q6 : List.take (i * 2) X = X := List.take_of_length_le (by omega)
        rw [q6]
        (apply Ret.det [0, 353]; (focus (first | exact .inl rfl | exact .inr rfl)); (focus (simp (maxSteps := 9999999) (disch := omega) only [go_sem, rX, rY, renL_append]; rfl)); (simp (maxSteps := 9999999) (disch := omega) only [go_sem, rX, rY, renL_append]; (try (repeat' (first | done | trivial | rfl | exact leAs_rfl _ | decide | (refine And.intro ?_ ?_) | (simp; done) | omega | (simp; decide))))))
    · have p2 : (i = 0) = False := eq_false (by omega)
      (have k9 := And.intro @rX (And.intro @rY (And.intro @rL (And.intro @hX (And.intro @hY (And.intro @hL (And.intro @t1 (And.intro @t2 (And.intro @t3 (And.intro @t4 (And.intro @q1 (And.intro @q2 (And.intro @q3 (And.intro @p0 (And.intro @p2 (And.intro @renL_append (k0)))))))))))))))); (repeat' (first | refine AWpA.seq ?_ | refine AWpA.block ?_ | (with_reducible refine CondP.tt ?_) | (with_reducible refine CondP.ff ?_) | refine AWpA.cg ?_ | ((first | refine AWpA.rg ?_ | refine AWpA.dg [] [] follows ?_ | refine TailK.tg ?_ | refine AWpA.skip ?_ | refine AWpA.exit ?_ | refine AWpA.ret ?_ | (with_reducible refine ARoundsA.succ ?_) | ((first | refine Runs.gkt (fun h9 => ?_) | refine Runs.gkf (fun h9 => ?_) | refine Runs.gnt (fun h9 => ?_) | refine Runs.gnf (fun h9 => ?_) | refine CondP.gt (fun h9 => ?_) | refine CondP.gf (fun h9 => ?_) | refine CondP.gnt (fun h9 => ?_) | refine CondP.gnf (fun h9 => ?_)); (try simp only [h9]); clear h9) | refine CallG.pg [0] (c) ?_ | refine CallG.dg [0] (c) ?_); (try simp (maxSteps := 9999999) (disch := omega) only [go_sem, k9]); (try refine cnd ?_)) | ((first | refine CondP.split (fun hif => ?_) (fun hif => ?_) | refine Runs.part (fun hif => ?_) (fun hif => ?_)) <;> ((try simp only [hif]); (try simp only [BL] at hif); (try (have h9 : _ = true := hif; simp only [h9])); (try (have h9 : _ = false := hif; simp only [h9])); (try simp (maxSteps := 9999999) (disch := omega) only [go_sem, k9]); (try refine cnd ?_); (try (exfalso; omega; done)))))); (all_goals (try clear k9)))
      have q6 : List.take (i * 2) X = X := List.take_of_length_le (by omega)
      rw [q6]
      (apply Ret.det [0, 353]; (focus (first | exact .inl rfl | exact .inr rfl)); (focus (simp (maxSteps := 9999999) (disch := omega) only [go_sem, rX, rY, renL_append]; rfl)); (simp (maxSteps := 9999999) (disch := omega) only [go_sem, rX, rY, renL_append]; (try (repeat' (first | done | trivial | rfl | exact leAs_rfl _ | decide | (refine And.intro ?_ ?_) | (simp; done) | omega | (simp; decide))))))
end Go.Proofs.Ytodnlihbmgigjaa
