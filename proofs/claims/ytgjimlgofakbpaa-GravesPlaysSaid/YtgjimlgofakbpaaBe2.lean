/- Made by wip/gen_te.py: the same contracts for Table[api.Entry]. -/
import Derived.Test.YtgjimlgofakbpaaBe1
import Derived.Test.YtgjimlgofakbpaaBo
namespace Go.Proofs.Ytgjimlgofakbpaa.Ue
set_option linter.unusedSimpArgs false
set_option linter.unusedVariables false
set_option maxHeartbeats 4000000
open Go Go.Am Go.RowKit
set_option maxRecDepth 100000
/- slices.Insert[[]quidnunc/table.Pair[quidnunc/api.Entry],quidnunc/table.Pair[quidnunc/api.Entry]] -/
noncomputable def c80_1 : ACode := .region false [⟨some 6, .move, [.c (.val (.slice none 0 0))], none⟩] [] [] [0, 1, 2] false [] []
noncomputable def c80_3 : ACode := .region false [⟨some 10, .move, [.t 0], none⟩,
  ⟨some 11, .move, [.t 1], none⟩,
  ⟨some 12, .slS 10 true false false, [.t 10, .t 11], none⟩] [] [] [0, 1, 2] false [] []
noncomputable def c80_5 : ACode := .region false [⟨some 13, .move, [.t 2], none⟩,
  ⟨some 14, .len, [.t 13], none⟩,
  ⟨some 7, .move, [.t 14], none⟩] [] [] [0, 1, 2, 7] false [] []
noncomputable def c80_8 : ACode := .region false [⟨some 15, .move, [.t 7], none⟩,
  ⟨some 16, .bin .eql, [.t 15, .c (.val (.int .i64 0))], none⟩] [] [] [0, 1, 2, 7, 16] false [] []
noncomputable def c80_11 : ACode := .region false [⟨some 17, .move, [.t 0], none⟩,
  ⟨some 6, .move, [.t 17], none⟩] [] [] [6] false [] []
noncomputable def c80_10 : ACode := .seq c80_11 .ret
noncomputable def c80_9 : ACode := .cond (.t 16) c80_10 .skip
noncomputable def c80_7 : ACode := .seq c80_8 c80_9
noncomputable def c80_13 : ACode := .region false [⟨some 18, .move, [.t 0], none⟩,
  ⟨some 19, .len, [.t 18], none⟩,
  ⟨some 8, .move, [.t 19], none⟩] [] [] [0, 1, 2, 7, 8] false [] []
noncomputable def c80_16 : ACode := .region false [⟨some 20, .move, [.t 1], none⟩,
  ⟨some 21, .move, [.t 8], none⟩,
  ⟨some 22, .bin .eql, [.t 20, .t 21], none⟩] [] [] [0, 1, 2, 7, 8, 22] false [] []
noncomputable def c80_19 : ACode := .region false [⟨some 23, .move, [.t 0], none⟩,
  ⟨some 24, .move, [.t 2], none⟩,
  ⟨some 25, .append 10 104 false, [.t 23, .t 24], none⟩,
  ⟨some 6, .move, [.t 25], none⟩] [] [] [6] true [] []
noncomputable def c80_18 : ACode := .seq c80_19 .ret
noncomputable def c80_17 : ACode := .cond (.t 22) c80_18 .skip
noncomputable def c80_15 : ACode := .seq c80_16 c80_17
noncomputable def c80_22 : ACode := .region false [⟨some 26, .move, [.t 8], none⟩,
  ⟨some 27, .move, [.t 7], none⟩,
  ⟨some 28, .bin .add, [.t 26, .t 27], none⟩,
  ⟨some 29, .move, [.t 0], none⟩,
  ⟨some 30, .cap, [.t 29], none⟩,
  ⟨some 31, .bin .gtr, [.t 28, .t 30], none⟩] [] [] [0, 1, 2, 7, 8, 31] false [] []
noncomputable def c80_25 : ACode := .region false [⟨some 32, .move, [.t 0], none⟩,
  ⟨some 33, .move, [.t 1], none⟩,
  ⟨some 34, .slS 10 false true false, [.t 32, .t 33], none⟩,
  ⟨some 35, .move, [.t 8], none⟩,
  ⟨some 36, .move, [.t 7], none⟩,
  ⟨some 37, .bin .add, [.t 35, .t 36], none⟩,
  ⟨some 38, .move, [.t 1], none⟩,
  ⟨some 39, .bin .sub, [.t 37, .t 38], none⟩,
  ⟨some 40, .growN 10 104, [.t 34, .t 39], none⟩,
  ⟨some 9, .move, [.t 40], none⟩] [] [] [0, 1, 2, 7, 9] true [] []
noncomputable def c80_27 : ACode := .region false [⟨some 41, .move, [.t 9], none⟩,
  ⟨some 42, .move, [.t 1], none⟩,
  ⟨some 43, .slS 10 true false false, [.t 41, .t 42], none⟩,
  ⟨some 44, .move, [.t 2], none⟩,
  ⟨some 45, .copy 10, [.t 43, .t 44], none⟩] [] [] [0, 1, 7, 9] true [] []
noncomputable def c80_29 : ACode := .region true [⟨some 46, .move, [.t 9], none⟩,
  ⟨some 47, .move, [.t 1], none⟩,
  ⟨some 48, .move, [.t 7], none⟩,
  ⟨some 49, .bin .add, [.t 47, .t 48], none⟩,
  ⟨some 50, .slS 10 true false false, [.t 46, .t 49], none⟩,
  ⟨some 51, .move, [.t 0], none⟩,
  ⟨some 52, .move, [.t 1], none⟩,
  ⟨some 53, .slS 10 true false false, [.t 51, .t 52], none⟩,
  ⟨some 54, .copy 10, [.t 50, .t 53], none⟩] [] [] [9] true [9] []
noncomputable def c80_31 : ACode := .region false [⟨some 55, .move, [.t 9], none⟩,
  ⟨some 6, .move, [.t 55], none⟩] [] [] [6] false [] []
noncomputable def c80_30 : ACode := .seq c80_31 .ret
noncomputable def c80_28 : ACode := .seq c80_29 c80_30
noncomputable def c80_26 : ACode := .seq c80_27 c80_28
noncomputable def c80_24 : ACode := .seq c80_25 c80_26
noncomputable def c80_23 : ACode := .cond (.t 31) c80_24 .skip
noncomputable def c80_21 : ACode := .seq c80_22 c80_23
noncomputable def c80_33 : ACode := .region false [⟨some 56, .move, [.t 0], none⟩,
  ⟨some 57, .move, [.t 8], none⟩,
  ⟨some 58, .move, [.t 7], none⟩,
  ⟨some 59, .bin .add, [.t 57, .t 58], none⟩,
  ⟨some 60, .slS 10 false true false, [.t 56, .t 59], none⟩,
  ⟨some 0, .move, [.t 60], none⟩] [] [] [0, 1, 2, 7, 8] false [] []
noncomputable def c80_36 : ACode := .region false [⟨some 61, .move, [.t 2], none⟩,
  ⟨some 62, .move, [.t 0], none⟩,
  ⟨some 63, .move, [.t 1], none⟩,
  ⟨some 64, .move, [.t 7], none⟩,
  ⟨some 65, .bin .add, [.t 63, .t 64], none⟩,
  ⟨some 66, .slS 10 true false false, [.t 62, .t 65], none⟩,
  ⟨some 67, .call 91, [.t 61, .t 66], none⟩,
  ⟨some 68, .un .not, [.t 67], none⟩] [] [] [0, 1, 2, 7, 8, 68] true [] []
noncomputable def c80_39 : ACode := .region true [⟨some 69, .move, [.t 0], none⟩,
  ⟨some 70, .move, [.t 1], none⟩,
  ⟨some 71, .move, [.t 7], none⟩,
  ⟨some 72, .bin .add, [.t 70, .t 71], none⟩,
  ⟨some 73, .slS 10 true false false, [.t 69, .t 72], none⟩,
  ⟨some 74, .move, [.t 0], none⟩,
  ⟨some 75, .move, [.t 1], none⟩,
  ⟨some 76, .slS 10 true false false, [.t 74, .t 75], none⟩,
  ⟨some 77, .copy 10, [.t 73, .t 76], none⟩] [] [] [0, 1, 2] true [0] []
noncomputable def c80_41 : ACode := .region false [⟨some 78, .move, [.t 0], none⟩,
  ⟨some 79, .move, [.t 1], none⟩,
  ⟨some 80, .slS 10 true false false, [.t 78, .t 79], none⟩,
  ⟨some 81, .move, [.t 2], none⟩,
  ⟨some 82, .copy 10, [.t 80, .t 81], none⟩] [] [] [0] true [] []
noncomputable def c80_43 : ACode := .region false [⟨some 83, .move, [.t 0], none⟩,
  ⟨some 6, .move, [.t 83], none⟩] [] [] [6] false [] []
noncomputable def c80_42 : ACode := .seq c80_43 .ret
noncomputable def c80_40 : ACode := .seq c80_41 c80_42
noncomputable def c80_38 : ACode := .seq c80_39 c80_40
noncomputable def c80_37 : ACode := .cond (.t 68) c80_38 .skip
noncomputable def c80_35 : ACode := .seq c80_36 c80_37
noncomputable def c80_45 : ACode := .region false [⟨some 84, .move, [.t 0], none⟩,
  ⟨some 85, .move, [.t 8], none⟩,
  ⟨some 86, .slS 10 true false false, [.t 84, .t 85], none⟩,
  ⟨some 87, .move, [.t 2], none⟩,
  ⟨some 88, .copy 10, [.t 86, .t 87], none⟩] [] [] [0, 1, 7] true [] []
noncomputable def c80_47 : ACode := .region false [⟨some 89, .move, [.t 0], none⟩,
  ⟨some 90, .move, [.t 1], none⟩,
  ⟨some 91, .slS 10 true false false, [.t 89, .t 90], none⟩,
  ⟨some 92, .move, [.t 7], none⟩,
  ⟨some 93, .call 92, [.t 91, .t 92], none⟩] [] [] [0] true [] []
noncomputable def c80_49 : ACode := .region false [⟨some 94, .move, [.t 0], none⟩,
  ⟨some 6, .move, [.t 94], none⟩] [] [] [6] false [] []
noncomputable def c80_48 : ACode := .seq c80_49 .ret
noncomputable def c80_46 : ACode := .seq c80_47 c80_48
noncomputable def c80_44 : ACode := .seq c80_45 c80_46
noncomputable def c80_34 : ACode := .seq c80_35 c80_44
noncomputable def c80_32 : ACode := .seq c80_33 c80_34
noncomputable def c80_20 : ACode := .seq c80_21 c80_32
noncomputable def c80_14 : ACode := .seq c80_15 c80_20
noncomputable def c80_12 : ACode := .seq c80_13 c80_14
noncomputable def c80_6 : ACode := .seq c80_7 c80_12
noncomputable def c80_4 : ACode := .seq c80_5 c80_6
noncomputable def c80_2 : ACode := .seq c80_3 c80_4
noncomputable def c80_0 : ACode := .seq c80_1 c80_2
noncomputable def code80 : Code := (Try.f80.body).getD .skip
theorem c80_ok : compC Try.prog 95 code80 = some (strip c80_0) := by kernel_rfl
theorem res80_ok : Try.f80.results.toList.mapM (resC Try.prog) = some [(6, none)] := by kernel_rfl
/- slices.Delete[[]quidnunc/table.Pair[quidnunc/api.Entry],quidnunc/table.Pair[quidnunc/api.Entry]] -/
noncomputable def c81_1 : ACode := .region false [⟨some 6, .move, [.c (.val (.slice none 0 0))], none⟩] [] [] [0, 1, 2] false [] []
noncomputable def c81_3 : ACode := .region false [⟨some 8, .move, [.t 0], none⟩,
  ⟨some 9, .move, [.t 1], none⟩,
  ⟨some 10, .move, [.t 2], none⟩,
  ⟨some 11, .move, [.t 0], none⟩,
  ⟨some 12, .len, [.t 11], none⟩,
  ⟨some 13, .slS 10 true true true, [.t 8, .t 9, .t 10, .t 12], none⟩] [] [] [0, 1, 2] false [] []
noncomputable def c81_6 : ACode := .region false [⟨some 14, .move, [.t 1], none⟩,
  ⟨some 15, .move, [.t 2], none⟩,
  ⟨some 16, .bin .eql, [.t 14, .t 15], none⟩] [] [] [0, 1, 2, 16] false [] []
noncomputable def c81_9 : ACode := .region false [⟨some 17, .move, [.t 0], none⟩,
  ⟨some 6, .move, [.t 17], none⟩] [] [] [6] false [] []
noncomputable def c81_8 : ACode := .seq c81_9 .ret
noncomputable def c81_7 : ACode := .cond (.t 16) c81_8 .skip
noncomputable def c81_5 : ACode := .seq c81_6 c81_7
noncomputable def c81_11 : ACode := .region false [⟨some 18, .move, [.t 0], none⟩,
  ⟨some 19, .len, [.t 18], none⟩,
  ⟨some 7, .move, [.t 19], none⟩] [] [] [0, 1, 2, 7] false [] []
noncomputable def c81_13 : ACode := .region true [⟨some 20, .move, [.t 0], none⟩,
  ⟨some 21, .move, [.t 1], none⟩,
  ⟨some 22, .slS 10 false true false, [.t 20, .t 21], none⟩,
  ⟨some 23, .move, [.t 0], none⟩,
  ⟨some 24, .move, [.t 2], none⟩,
  ⟨some 25, .slS 10 true false false, [.t 23, .t 24], none⟩,
  ⟨some 26, .append 10 104 false, [.t 22, .t 25], none⟩,
  ⟨some 0, .move, [.t 26], none⟩] [] [] [0, 7] true [0] []
noncomputable def c81_15 : ACode := .region false [⟨some 27, .move, [.t 0], none⟩,
  ⟨some 28, .move, [.t 0], none⟩,
  ⟨some 29, .len, [.t 28], none⟩,
  ⟨some 30, .move, [.t 7], none⟩,
  ⟨some 31, .slS 10 true true false, [.t 27, .t 29, .t 30], none⟩,
  ⟨none, .clearS 10 [(.string ⟨#[]⟩), (.string ⟨#[]⟩), (.string ⟨#[]⟩), (.bool false), (.int .i64 0), (.int .i64 0), (.int .i64 0), (.int .i64 0), (.int .i64 0), (.int .i64 0)], [.t 31], none⟩] [] [] [0] true [] []
noncomputable def c81_17 : ACode := .region false [⟨some 32, .move, [.t 0], none⟩,
  ⟨some 6, .move, [.t 32], none⟩] [] [] [6] false [] []
noncomputable def c81_16 : ACode := .seq c81_17 .ret
noncomputable def c81_14 : ACode := .seq c81_15 c81_16
noncomputable def c81_12 : ACode := .seq c81_13 c81_14
noncomputable def c81_10 : ACode := .seq c81_11 c81_12
noncomputable def c81_4 : ACode := .seq c81_5 c81_10
noncomputable def c81_2 : ACode := .seq c81_3 c81_4
noncomputable def c81_0 : ACode := .seq c81_1 c81_2
noncomputable def code81 : Code := (Try.f81.body).getD .skip
theorem c81_ok : compC Try.prog 33 code81 = some (strip c81_0) := by kernel_rfl
theorem res81_ok : Try.f81.results.toList.mapM (resC Try.prog) = some [(6, none)] := by kernel_rfl
theorem over_any {o la o' lb : Nat} {ca cb : Option Nat} {C D : List AV} (hC : ∀ ρ, renL ρ C = C) (hD : ∀ ρ, renL ρ D = D) (hla : 0 < la) (hlb : 0 < lb) : ACall Try.prog 91 [.sl 0 o la 10 ca, .sl 1 o' lb 10 cb] [.cells false C, .cells false D] (Det (Bo false) [.cells false C, .cells false D]) :=
  overlaps_gen Try.func91 (by kernel_rfl) (by kernel_rfl) (by kernel_rfl) (tS := 127) (tR := 4) (e := 126) (by kernel_rfl) Try.underlying127 (by kernel_rfl) (by decide) hC hD hla hlb
theorem ins_place {α : Type} {X Y : List α} {i m : Nat} (hX : X.length = i * 10) (hY : Y.length = m * 10) (x0 x1 x2 x3 x4 x5 x6 x7 x8 x9 x10 x11 x12 x13 x14 x15 x16 x17 x18 x19 : α) :
    List.take (i * 10) (List.take ((i + 1) * 10) (X ++ Y ++ [x0, x1, x2, x3, x4, x5, x6, x7, x8, x9]) ++ List.take (m * 10) (List.take ((m + 1) * 10) (List.drop (i * 10) (X ++ Y ++ [x0, x1, x2, x3, x4, x5, x6, x7, x8, x9]))) ++ List.drop ((i + 1) * 10 + m * 10) (X ++ Y ++ [x0, x1, x2, x3, x4, x5, x6, x7, x8, x9])) ++ [x10, x11, x12, x13, x14, x15, x16, x17, x18, x19] ++
      List.drop (i * 10 + 10) (List.take ((i + 1) * 10) (X ++ Y ++ [x0, x1, x2, x3, x4, x5, x6, x7, x8, x9]) ++ List.take (m * 10) (List.take ((m + 1) * 10) (List.drop (i * 10) (X ++ Y ++ [x0, x1, x2, x3, x4, x5, x6, x7, x8, x9]))) ++ List.drop ((i + 1) * 10 + m * 10) (X ++ Y ++ [x0, x1, x2, x3, x4, x5, x6, x7, x8, x9])) = X ++ [x10, x11, x12, x13, x14, x15, x16, x17, x18, x19] ++ Y := by
  have h1 : List.drop ((i + 1) * 10 + m * 10) (X ++ Y ++ [x0, x1, x2, x3, x4, x5, x6, x7, x8, x9]) = [] := List.drop_of_length_le (by simp; omega)
  have h2 : List.drop (i * 10) (X ++ Y ++ [x0, x1, x2, x3, x4, x5, x6, x7, x8, x9]) = Y ++ [x0, x1, x2, x3, x4, x5, x6, x7, x8, x9] := by rw [List.append_assoc, ← hX, List.drop_left]
  have h3 : List.take ((m + 1) * 10) (Y ++ [x0, x1, x2, x3, x4, x5, x6, x7, x8, x9]) = Y ++ [x0, x1, x2, x3, x4, x5, x6, x7, x8, x9] := List.take_of_length_le (by simp; omega)
  have h4 : List.take (m * 10) (Y ++ [x0, x1, x2, x3, x4, x5, x6, x7, x8, x9]) = Y := by rw [← hY, List.take_left]
  obtain ⟨W, hW⟩ : ∃ W, W = List.take 10 (Y ++ [x0, x1, x2, x3, x4, x5, x6, x7, x8, x9]) := ⟨_, rfl⟩
  have hWl : W.length = 10 := by rw [hW]; simp
  have h5 : List.take ((i + 1) * 10) (X ++ Y ++ [x0, x1, x2, x3, x4, x5, x6, x7, x8, x9]) = X ++ W := by
    rw [List.append_assoc, List.take_append, List.take_of_length_le (by omega), hX, hW, show (i + 1) * 10 - i * 10 = 10 by omega]
  rw [h1, h2, h3, h4, h5, List.append_nil]
  have h6 : List.take (i * 10) (X ++ W ++ Y) = X := by rw [List.append_assoc, ← hX, List.take_left]
  have h7 : List.drop (i * 10 + 10) (X ++ W ++ Y) = Y := by
    rw [show i * 10 + 10 = (X ++ W).length by simp; omega, List.drop_left]
  rw [h6, h7]
theorem rp_ins (l : List Pi) (i : Nat) (p : Pi) : Rp 0 (l.take i ++ p :: l.drop i) = Rp 0 (l.take i) ++ [Str p.key, Str p.v.key, Str p.v.val, Bo p.v.dead, I p.v.st.c, I p.v.st.s, I p.v.act.c, I p.v.act.s, I p.v.keep, I p.v.age] ++ Rp 0 (l.drop i) := by rw [rp_app, rp_cons]; simp
theorem insert_any (l : List Pi) (i : Nat) (p : Pi) (hi : i ≤ l.length) (hl : l.length ≤ 1099511627776) : ACall Try.prog 80 [.sl 0 0 l.length 10 none, I i, .sl 1 0 1 10 (some 1)] [.cells false (Rp 0 l), .cells false (PiL p)] (Det (.sl 2 0 (l.length + 1) 10 none) [.gone, .cells false (PiL p), .cells false (Rp 0 (l.take i ++ p :: l.drop i))]) := by
  have hr := rp_ren 0
  have hlen := rp_len 0
  have hall := rp_all l (n := l.length * 10) rfl
  by_cases h0 : i = l.length
  · subst h0
    have g1 : l.take l.length ++ p :: l.drop l.length = l ++ [p] := by simp
    rw [g1]
    refine ACall.startA c80_ok Try.func80 rfl Try.ntmps80 (by kernel_rfl) res80_ok rfl rfl rfl ?_; simp (maxSteps := 9999999) (disch := omega) only [go_sem]
    (repeat' (first | refine AWpA.seq ?_ | refine AWpA.block ?_ | (with_reducible refine CondP.tt ?_) | (with_reducible refine CondP.ff ?_) | refine AWpA.condv (by simp (maxSteps := 9999999) (disch := omega) only [go_sem, hr, hlen, hall]; rfl) ?_ | ((first | (apply AWpA.region; (focus (simp (maxSteps := 9999999) (disch := omega) only [go_sem, hr, hlen, hall]; rfl))) | (apply AWpA.draw [] [] follows; (focus (first | rfl | decide)); (focus (simp (maxSteps := 9999999) (disch := omega) only [go_sem, hr, hlen, hall]; rfl)); (focus (simp (maxSteps := 9999999) (disch := omega) only [go_sem, hr, hlen, hall]; first | done | trivial)); (focus (simp (maxSteps := 9999999) (disch := omega) only [go_sem, hr, hlen, hall]; rfl))) | (apply TailK.go; (focus (simp (maxSteps := 9999999) (disch := omega) only [go_sem, hr, hlen, hall]; rfl))) | refine AWpA.skip ?_ | refine AWpA.exit ?_ | refine AWpA.ret ?_ | (with_reducible refine ARoundsA.succ ?_) | ((first | refine Runs.kt (by assumption) (fun h9 => ?_) | refine Runs.kf (by assumption) (fun h9 => ?_) | refine Runs.nt (by assumption) (fun h9 => ?_) | refine Runs.nf (by assumption) (fun h9 => ?_) | refine CondP.ht (by assumption) (fun h9 => ?_) | refine CondP.hf (by assumption) (fun h9 => ?_) | refine CondP.nt (by assumption) (fun h9 => ?_) | refine CondP.nf (by assumption) (fun h9 => ?_)); (try simp only [h9]); clear h9)); (try simp (maxSteps := 9999999) (disch := omega) only [go_sem, hr, hlen, hall]); (try (refine And.intro ?_ ?_; (focus (first | omega | (simp only [go_sem]; done) | (simp; done) | (simp; omega) | assumption))))) | ((first | refine CondP.split (fun hif => ?_) (fun hif => ?_) | refine Runs.part (fun hif => ?_) (fun hif => ?_)) <;> ((try simp only [hif]); (try simp only [decide_eq_true_eq, decide_eq_false_iff_not, Bool.not_eq_true, Bool.not_eq_false, Bool.not_eq_true', Bool.not_eq_false', beq_iff_eq, bne_iff_ne, bne_eq_false_iff_eq, beq_eq_false_iff_ne, ne_eq, Bool.and_eq_true, Bool.or_eq_true, Bool.or_eq_false_iff] at hif); (try (have h9 : _ = true := hif; simp only [h9])); (try (have h9 : _ = false := hif; simp only [h9])); (try simp (maxSteps := 9999999) (disch := omega) only [go_sem, hr, hlen, hall]); (try (refine And.intro ?_ ?_; (focus (first | omega | (simp only [go_sem]; done) | (simp; done) | (simp; omega) | assumption)))); (try (exfalso; omega; done))))))
    have g2 : Rp 0 (l ++ [p]) = Rp 0 l ++ [Str p.key, Str p.v.key, Str p.v.val, Bo p.v.dead, I p.v.st.c, I p.v.st.s, I p.v.act.c, I p.v.act.s, I p.v.keep, I p.v.age] := by rw [rp_app, rp_one]
    rw [g2]
    (apply Ret.det [0, 1, 274]; (focus (first | exact .inl rfl | exact .inr rfl)); (focus (simp (maxSteps := 9999999) (disch := omega) only [go_sem, hr, renL_append]; rfl)); (simp (maxSteps := 9999999) (disch := omega) only [go_sem, hr, renL_append]; (try (repeat' (first | done | trivial | rfl | exact leAs_rfl _ | decide | (refine And.intro ?_ ?_) | (simp; done) | omega | (simp; decide))))))
  · have g1 : ((i : Int) = (l.length : Int)) = False := eq_false (by omega)
    obtain ⟨m, hm⟩ : ∃ m, l.length = i + m := ⟨l.length - i, by omega⟩
    have hm0 : 0 < m := by omega
    rw [rp_ins]
    have e0 : Rp 0 l = Rp 0 (l.take i) ++ Rp 0 (l.drop i) := by rw [← rp_app, List.take_append_drop]
    have hX := hlen (l.take i)
    have hY := hlen (l.drop i)
    rw [List.length_take, Nat.min_eq_left hi] at hX
    rw [List.length_drop, show l.length - i = m by omega] at hY
    have rX := hr (l.take i)
    have rY := hr (l.drop i)
    generalize Rp 0 (l.take i) = X at *
    generalize Rp 0 (l.drop i) = Y at *
    simp only [Nat.zero_add] at hX hY
    have t1 : ((i : Int) + 1).toNat = i + 1 := by omega
    have t2 : ((l.length : Int) + 1).toNat = l.length + 1 := by omega
    have t3 : l.length - i = m := by omega
    have t4 : l.length + 1 - (i + 1) = m := by omega
    have t5 : l.length + 1 - i = m + 1 := by omega
    have t6 : min 1 (m + 1) = 1 := by omega
    have t7 : min (m + 1) m = m := by omega
    refine ACall.startA c80_ok Try.func80 rfl Try.ntmps80 (by kernel_rfl) res80_ok rfl rfl rfl ?_; simp (maxSteps := 9999999) (disch := omega) only [go_sem]
    refine AWpA.capcase 0 rfl (by omega) (fun cp hcp => ?_)
    by_cases hc : l.length + 1 ≤ cp
    · have g2 : ((cp : Int) < (l.length : Int) + 1) = False := eq_false (by omega)
      have c := over_any (o := 0) (o' := (i + 1) * 10) (la := 1) (lb := m) (ca := some 1) (cb := some (cp - (i + 1))) (C := PiL p) (D := X ++ Y ++ [.any, .any, .any, .any, .any, .any, .any, .any, .any, .any]) (fun ρ => by simp [renL, ren]) (fun ρ => by rw [renL_append, renL_append, rX, rY]; simp [renL, ren]) (by omega) (by omega)
      rw [e0]
      refine AWpA.ext 0 0 10 rfl (by rw [List.length_append, hX, hY]; omega) rfl ?_
      (repeat' (first | refine AWpA.seq ?_ | refine AWpA.block ?_ | (with_reducible refine CondP.tt ?_) | (with_reducible refine CondP.ff ?_) | refine AWpA.condv (by simp (maxSteps := 9999999) (disch := omega) only [go_sem, rX, rY, hX, hY, g1, g2, renL_append, t1, t2, t3, t4, t5, t6, t7]; rfl) ?_ | ((first | (apply AWpA.region; (focus (simp (maxSteps := 9999999) (disch := omega) only [go_sem, rX, rY, hX, hY, g1, g2, renL_append, t1, t2, t3, t4, t5, t6, t7]; rfl))) | (apply AWpA.draw [] [] follows; (focus (first | rfl | decide)); (focus (simp (maxSteps := 9999999) (disch := omega) only [go_sem, rX, rY, hX, hY, g1, g2, renL_append, t1, t2, t3, t4, t5, t6, t7]; rfl)); (focus (simp (maxSteps := 9999999) (disch := omega) only [go_sem, rX, rY, hX, hY, g1, g2, renL_append, t1, t2, t3, t4, t5, t6, t7]; first | done | trivial)); (focus (simp (maxSteps := 9999999) (disch := omega) only [go_sem, rX, rY, hX, hY, g1, g2, renL_append, t1, t2, t3, t4, t5, t6, t7]; rfl))) | (apply TailK.go; (focus (simp (maxSteps := 9999999) (disch := omega) only [go_sem, rX, rY, hX, hY, g1, g2, renL_append, t1, t2, t3, t4, t5, t6, t7]; rfl))) | refine AWpA.skip ?_ | refine AWpA.exit ?_ | refine AWpA.ret ?_ | (with_reducible refine ARoundsA.succ ?_) | ((first | refine Runs.kt (by assumption) (fun h9 => ?_) | refine Runs.kf (by assumption) (fun h9 => ?_) | refine Runs.nt (by assumption) (fun h9 => ?_) | refine Runs.nf (by assumption) (fun h9 => ?_) | refine CondP.ht (by assumption) (fun h9 => ?_) | refine CondP.hf (by assumption) (fun h9 => ?_) | refine CondP.nt (by assumption) (fun h9 => ?_) | refine CondP.nf (by assumption) (fun h9 => ?_)); (try simp only [h9]); clear h9) | ((first | (with_reducible apply CallG.plain1 [1, 0] (c)) | (with_reducible apply CallG.draw1 [1, 0] (c))); (focus ((try refine And.intro (leAs_of_eq rfl) ?_); (try refine And.intro (leOL_of_eq rfl) ?_); simp (maxSteps := 9999999) (disch := omega) only [go_sem, rX, rY, hX, hY, g1, g2, renL_append, t1, t2, t3, t4, t5, t6, t7]; first | done | (repeat' (first | rfl | (refine And.intro ?_ ?_))))); (focus (simp (maxSteps := 9999999) (disch := omega) only [go_sem, rX, rY, hX, hY, g1, g2, renL_append, t1, t2, t3, t4, t5, t6, t7]; rfl)))); (try simp (maxSteps := 9999999) (disch := omega) only [go_sem, rX, rY, hX, hY, g1, g2, renL_append, t1, t2, t3, t4, t5, t6, t7]); (try (refine And.intro ?_ ?_; (focus (first | omega | (simp only [go_sem]; done) | (simp; done) | (simp; omega) | assumption))))) | ((first | refine CondP.split (fun hif => ?_) (fun hif => ?_) | refine Runs.part (fun hif => ?_) (fun hif => ?_)) <;> ((try simp only [hif]); (try simp only [decide_eq_true_eq, decide_eq_false_iff_not, Bool.not_eq_true, Bool.not_eq_false, Bool.not_eq_true', Bool.not_eq_false', beq_iff_eq, bne_iff_ne, bne_eq_false_iff_eq, beq_eq_false_iff_ne, ne_eq, Bool.and_eq_true, Bool.or_eq_true, Bool.or_eq_false_iff] at hif); (try (have h9 : _ = true := hif; simp only [h9])); (try (have h9 : _ = false := hif; simp only [h9])); (try simp (maxSteps := 9999999) (disch := omega) only [go_sem, rX, rY, hX, hY, g1, g2, renL_append, t1, t2, t3, t4, t5, t6, t7]); (try (refine And.intro ?_ ?_; (focus (first | omega | (simp only [go_sem]; done) | (simp; done) | (simp; omega) | assumption)))); (try (exfalso; omega; done))))))
      rw [ins_place hX hY]
      (apply Ret.det [0, 1, 0]; (focus (first | exact .inl rfl | exact .inr rfl)); (focus (simp (maxSteps := 9999999) (disch := omega) only [go_sem, rX, rY, renL_append]; rfl)); (simp (maxSteps := 9999999) (disch := omega) only [go_sem, rX, rY, renL_append]; (try (repeat' (first | done | trivial | rfl | exact leAs_rfl _ | decide | (refine And.intro ?_ ?_) | (simp; done) | omega | (simp; decide))))))
    · have g2 : ((cp : Int) < (l.length : Int) + 1) = True := eq_true (by omega)
      have g3 : ((l.length : Int) + 1 - i).toNat = m + 1 := by omega
      have g4 : ((i : Int) + ((m : Int) + 1)).toNat = i + m + 1 := by omega
      have g5 : i + m + 1 - i = m + 1 := by omega
      have g6 : i + m + 1 - (i + 1) = m := by omega
      have q0 : List.take (i * 10) (Rp 0 l) = X := by rw [e0, ← hX, List.take_left]
      have q1 : List.take (i * 10) (X ++ List.replicate ((m + 1) * 10) AV.any) = X := by rw [← hX, List.take_left]
      have q2 : List.drop (i * 10 + 10) (X ++ List.replicate ((m + 1) * 10) AV.any) = List.replicate (m * 10) AV.any := by
        rw [List.drop_append, List.drop_of_length_le (by omega), hX, List.drop_replicate, List.nil_append, show (m + 1) * 10 - (i * 10 + 10 - i * 10) = m * 10 by omega]
      have hL := hlen l
      have hcp : i + (m + 1) ≤ cp ↔ False := iff_false_intro (by omega)
      have q3 : List.drop (i * 10) (Rp 0 l) = Y := by rw [e0, ← hX, List.drop_left]
      (repeat' (first | refine AWpA.seq ?_ | refine AWpA.block ?_ | (with_reducible refine CondP.tt ?_) | (with_reducible refine CondP.ff ?_) | refine AWpA.condv (by simp (maxSteps := 9999999) (disch := omega) only [go_sem, rX, rY, hX, hY, hL, g1, g2, g3, g4, g5, g6, q0, q1, q2, q3, hcp, t1, t2, t3, t4, t5, t6, t7]; rfl) ?_ | ((first | (apply AWpA.region; (focus (simp (maxSteps := 9999999) (disch := omega) only [go_sem, rX, rY, hX, hY, hL, g1, g2, g3, g4, g5, g6, q0, q1, q2, q3, hcp, t1, t2, t3, t4, t5, t6, t7]; rfl))) | (apply AWpA.draw [] [] follows; (focus (first | rfl | decide)); (focus (simp (maxSteps := 9999999) (disch := omega) only [go_sem, rX, rY, hX, hY, hL, g1, g2, g3, g4, g5, g6, q0, q1, q2, q3, hcp, t1, t2, t3, t4, t5, t6, t7]; rfl)); (focus (simp (maxSteps := 9999999) (disch := omega) only [go_sem, rX, rY, hX, hY, hL, g1, g2, g3, g4, g5, g6, q0, q1, q2, q3, hcp, t1, t2, t3, t4, t5, t6, t7]; first | done | trivial)); (focus (simp (maxSteps := 9999999) (disch := omega) only [go_sem, rX, rY, hX, hY, hL, g1, g2, g3, g4, g5, g6, q0, q1, q2, q3, hcp, t1, t2, t3, t4, t5, t6, t7]; rfl))) | (apply TailK.go; (focus (simp (maxSteps := 9999999) (disch := omega) only [go_sem, rX, rY, hX, hY, hL, g1, g2, g3, g4, g5, g6, q0, q1, q2, q3, hcp, t1, t2, t3, t4, t5, t6, t7]; rfl))) | refine AWpA.skip ?_ | refine AWpA.exit ?_ | refine AWpA.ret ?_ | (with_reducible refine ARoundsA.succ ?_) | ((first | refine Runs.kt (by assumption) (fun h9 => ?_) | refine Runs.kf (by assumption) (fun h9 => ?_) | refine Runs.nt (by assumption) (fun h9 => ?_) | refine Runs.nf (by assumption) (fun h9 => ?_) | refine CondP.ht (by assumption) (fun h9 => ?_) | refine CondP.hf (by assumption) (fun h9 => ?_) | refine CondP.nt (by assumption) (fun h9 => ?_) | refine CondP.nf (by assumption) (fun h9 => ?_)); (try simp only [h9]); clear h9)); (try simp (maxSteps := 9999999) (disch := omega) only [go_sem, rX, rY, hX, hY, hL, g1, g2, g3, g4, g5, g6, q0, q1, q2, q3, hcp, t1, t2, t3, t4, t5, t6, t7]); (try (refine And.intro ?_ ?_; (focus (first | omega | (simp only [go_sem]; done) | (simp; done) | (simp; omega) | assumption))))) | ((first | refine CondP.split (fun hif => ?_) (fun hif => ?_) | refine Runs.part (fun hif => ?_) (fun hif => ?_)) <;> ((try simp only [hif]); (try simp only [decide_eq_true_eq, decide_eq_false_iff_not, Bool.not_eq_true, Bool.not_eq_false, Bool.not_eq_true', Bool.not_eq_false', beq_iff_eq, bne_iff_ne, bne_eq_false_iff_eq, beq_eq_false_iff_ne, ne_eq, Bool.and_eq_true, Bool.or_eq_true, Bool.or_eq_false_iff] at hif); (try (have h9 : _ = true := hif; simp only [h9])); (try (have h9 : _ = false := hif; simp only [h9])); (try simp (maxSteps := 9999999) (disch := omega) only [go_sem, rX, rY, hX, hY, hL, g1, g2, g3, g4, g5, g6, q0, q1, q2, q3, hcp, t1, t2, t3, t4, t5, t6, t7]); (try (refine And.intro ?_ ?_; (focus (first | omega | (simp only [go_sem]; done) | (simp; done) | (simp; omega) | assumption)))); (try (exfalso; omega; done))))))
      have q4 : List.take (m * 10) Y = Y := List.take_of_length_le (by omega)
      have q5 : ∀ x10 x11 x12 x13 x14 x15 x16 x17 x18 x19 : AV, List.drop ((i + 1) * 10 + m * 10) (X ++ [x10, x11, x12, x13, x14, x15, x16, x17, x18, x19] ++ List.replicate (m * 10) AV.any) = [] := fun x10 x11 x12 x13 x14 x15 x16 x17 x18 x19 => List.drop_of_length_le (by simp; omega)
      have q6 : ∀ x10 x11 x12 x13 x14 x15 x16 x17 x18 x19 : AV, List.take ((i + 1) * 10) (X ++ [x10, x11, x12, x13, x14, x15, x16, x17, x18, x19] ++ List.replicate (m * 10) AV.any) = X ++ [x10, x11, x12, x13, x14, x15, x16, x17, x18, x19] := fun x10 x11 x12 x13 x14 x15 x16 x17 x18 x19 => by
        rw [show (i + 1) * 10 = (X ++ [x10, x11, x12, x13, x14, x15, x16, x17, x18, x19]).length by simp; omega, List.take_left]
      rw [Nat.min_self, q4, q5, q6, List.append_nil]
      (apply Ret.det [0, 1, 466]; (focus (first | exact .inl rfl | exact .inr rfl)); (focus (simp (maxSteps := 9999999) (disch := omega) only [go_sem, rX, rY, renL_append, q4]; rfl)); (simp (maxSteps := 9999999) (disch := omega) only [go_sem, rX, rY, renL_append, q4]; (try (repeat' (first | done | trivial | rfl | exact leAs_rfl _ | decide | (refine And.intro ?_ ?_) | (simp; done) | omega | (simp; decide))))))
end Go.Proofs.Ytgjimlgofakbpaa.Ue
