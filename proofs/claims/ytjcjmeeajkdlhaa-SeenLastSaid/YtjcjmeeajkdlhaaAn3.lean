/- Contracts: what was met last, and the document's. -/
import Derived.Test.YtjcjmeeajkdlhaaAn2
namespace Go.Proofs.Ytjcjmeeajkdlhaa
set_option linter.unusedSimpArgs false
set_option linter.unusedVariables false
set_option maxHeartbeats 4000000
open Go Go.Am Go.RowKit
set_option maxRecDepth 100000
/-- The ring's cells: what stands there, and room. -/
def zmk (n : Nat) : List AV := ((List.replicate n [Value.int .i64 0, .int .i64 0, .string ⟨#[]⟩]).flatten).map .val
def ringC (s : Sn) : List AV := Rm 0 s.ring ++ zmk (s.room - s.ring.length)
theorem zmk_len (n : Nat) : (zmk n).length = n * 3 := by simp [zmk, List.length_flatten]
theorem zmk_ren (n : Nat) (ρ : List Nat) : renL ρ (zmk n) = zmk n := by
  unfold zmk
  generalize (List.replicate n [Value.int .i64 0, .int .i64 0, .string ⟨#[]⟩]).flatten = l
  induction l with
  | nil => rfl
  | cons x l ih => simp only [List.map_cons, renL, ih, ren]
theorem zmk_drop {n : Nat} : (zmk (n + 1)).drop 3 = zmk n := by
  unfold zmk
  rw [List.replicate_succ, List.flatten_cons, List.map_append]
  rfl
theorem ringC_ren (s : Sn) (ρ : List Nat) : renL ρ (ringC s) = ringC s := by unfold ringC; rw [renL_append, rm_ren, zmk_ren]
theorem ringC_len {s : Sn} (h : s.ok) : (ringC s).length = s.room * 3 := by
  have := h.len
  unfold ringC
  rw [List.length_append, rm_len, zmk_len, Nat.zero_add, ← Nat.add_mul]
  congr 1
  omega
theorem ringC_new (n : Nat) : ringC (newS n) = zmk n := by simp [ringC, newS, rm_nil]
theorem ringC_take (s : Sn) {n : Nat} (h : n = s.ring.length * 3) : (ringC s).take n = Rm 0 s.ring := by
  unfold ringC
  rw [List.take_append_of_le_length (by rw [rm_len]; omega)]
  exact rm_all _ h
theorem ringC_full {s : Sn} (h : s.ring.length = s.room) : ringC s = Rm 0 s.ring := by
  unfold ringC
  rw [show s.room - s.ring.length = 0 by omega]
  simp [zmk]
/-- In place behind the last one. -/
theorem ringC_push {s : Sn} (h : s.ring.length < s.room) (m : Mk) {a b : Nat} (ha : a = s.ring.length * 3) (hb : b = (s.ring.length + 1) * 3) : (ringC s).take a ++ MkL m ++ (ringC s).drop b = ringC { s with ring := s.ring ++ [m], mp := s.mp ++ [m] } := by
  rw [ringC_take s ha]
  unfold ringC
  simp only
  rw [rm_app, rm_one]
  congr 1
  have hl := rm_len 0 s.ring
  rw [List.drop_append, List.drop_of_length_le (by omega), List.nil_append, hl]
  obtain ⟨k, hk⟩ : ∃ k, s.room - s.ring.length = k + 1 := ⟨s.room - s.ring.length - 1, by omega⟩
  rw [hk, show b - (0 + s.ring.length * 3) = 3 by omega, zmk_drop]
  congr 1
  simp
  omega
theorem mid_put {α : Type} (A B B' C : List α) {a b : Nat} (ha : A.length = a) (hb : (A ++ B).length = b) : (A ++ B ++ C).take a ++ B' ++ (A ++ B ++ C).drop b = A ++ B' ++ C := by
  subst ha; subst hb
  rw [List.drop_left, List.append_assoc A B C, List.take_left]
theorem rm_set (l : List Mk) (i : Nat) (h : i < l.length) (m : Mk) {a b : Nat} (ha : a = i * 3) (hb : b = i * 3 + 3) : (Rm 0 l).take a ++ MkL m ++ (Rm 0 l).drop b = Rm 0 (l.set i m) := by
  have e : l = l.take i ++ [l[i]] ++ l.drop (i + 1) := by
    rw [List.append_assoc, List.singleton_append, ← List.drop_eq_getElem_cons h, List.take_append_drop]
  have e2 : l.set i m = l.take i ++ [m] ++ l.drop (i + 1) := by
    rw [List.set_eq_take_append_cons_drop, if_pos h, List.append_assoc, List.singleton_append]
  have hl := rm_len 0 (l.take i)
  have hl2 := rm_len 0 [l[i]]
  rw [List.length_take] at hl
  rw [e2]
  conv => lhs; rw [e]
  simp only [rm_app, rm_one]
  have l1 : (Rm 0 (l.take i)).length = a := by rw [hl, ha]; omega
  have l2 : (Rm 0 (l.take i) ++ MkL l[i]).length = b := by rw [List.length_append, l1, hb, ha]; rfl
  exact mid_put _ _ _ _ l1 l2
abbrev SnO (i j : Nat) (ro : Bool) (s : Sn) : AObj := .cells ro [.sl i 0 s.ring.length 3 (some s.room), I s.nx, .mp j]
/- quidnunc/seen.New -/
noncomputable def c24_1 : ACode := .region false [⟨some 2, .move, [.c (.val (.pointer none))], none⟩,
  ⟨some 3, .move, [.c (.val (.int .i64 0))], none⟩] [] [] [0] false [] []
noncomputable def c24_4 : ACode := .region false [⟨some 4, .move, [.t 0], none⟩,
  ⟨some 5, .bin .lss, [.t 4, .c (.val (.int .i64 1))], none⟩,
  ⟨some 6, .move, [.t 5], none⟩,
  ⟨some 7, .move, [.t 0], some (some 6, false)⟩,
  ⟨some 8, .bin .gtr, [.t 7, .c (.val (.int .i64 1024))], some (some 6, false)⟩,
  ⟨some 9, .pick, [.t 6, .c (.val (.bool true)), .t 8], none⟩] [] [] [0, 9] false [] []
noncomputable def c24_7 : ACode := .region false [⟨some 2, .move, [.c (.val (.pointer none))], none⟩,
  ⟨some 3, .move, [.c (.val (.int .i64 1))], none⟩] [] [] [2, 3] false [] []
noncomputable def c24_6 : ACode := .seq c24_7 .ret
noncomputable def c24_5 : ACode := .cond (.t 9) c24_6 .skip
noncomputable def c24_3 : ACode := .seq c24_4 c24_5
noncomputable def c24_9 : ACode := .region false [⟨some 10, .move, [.t 0], none⟩,
  ⟨some 11, .makeSl 3 32 [(.int .i64 0), (.int .i64 0), (.string ⟨#[]⟩)], [.c (.val (.int .i64 0)), .t 10], none⟩,
  ⟨some 12, .makeMap, [], none⟩,
  ⟨some 13, .build [(.slice none 0 0), (.int .i64 0), (.map none)] [(0, 1), (2, 1)], [.t 11, .t 12], none⟩,
  ⟨some 14, .box 0, [.t 13], none⟩,
  ⟨some 2, .move, [.t 14], none⟩,
  ⟨some 3, .move, [.c (.val (.int .i64 0))], none⟩] [] [] [2, 3] true [] []
noncomputable def c24_8 : ACode := .seq c24_9 .ret
noncomputable def c24_2 : ACode := .seq c24_3 c24_8
noncomputable def c24_0 : ACode := .seq c24_1 c24_2
noncomputable def code24 : Code := (Try.f24.body).getD .skip
theorem c24_ok : compC Try.prog 15 code24 = some (strip c24_0) := by kernel_rfl
theorem res24_ok : Try.f24.results.toList.mapM (resC Try.prog) = some [(2, none), (3, none)] := by kernel_rfl
/- (*quidnunc/seen.Seen).Has -/
noncomputable def c30_1 : ACode := .region false [⟨some 3, .box 0, [.t 1], none⟩,
  ⟨some 4, .move, [.c (.val (.bool false))], none⟩] [] [] [0, 3] true [] []
noncomputable def c30_3 : ACode := .region true [⟨some 5, .move, [.t 0], none⟩,
  ⟨some 6, .nilChk, [.t 5], none⟩,
  ⟨some 7, .addr 2, [.t 6], none⟩,
  ⟨some 8, .load false 1, [.t 7], none⟩,
  ⟨some 9, .load true 3, [.t 3], none⟩,
  ⟨some 10, .lookup [(0, 0), (1, 0), (2, 1)] (.int .i64 0) false, [.t 8, .t 9], none⟩,
  ⟨some 11, .bin .eql, [.t 10, .c (.val (.int .i64 1))], none⟩,
  ⟨some 4, .move, [.t 11], none⟩] [] [] [4] false [] []
noncomputable def c30_2 : ACode := .seq c30_3 .ret
noncomputable def c30_0 : ACode := .seq c30_1 c30_2
noncomputable def code30 : Code := (Try.f30.body).getD .skip
theorem c30_ok : compC Try.prog 12 code30 = some (strip c30_0) := by kernel_rfl
theorem res30_ok : Try.f30.results.toList.mapM (resC Try.prog) = some [(4, none)] := by kernel_rfl
/- (*quidnunc/seen.Seen).Add -/
noncomputable def c27_1 : ACode := .region false [⟨some 3, .box 0, [.t 1], none⟩,
  ⟨some 4, .move, [.c (.val (.bool false))], none⟩] [] [] [0, 3] true [] []
noncomputable def c27_4 : ACode := .region false [⟨some 5, .move, [.t 0], none⟩,
  ⟨some 6, .load true 3, [.t 3], none⟩,
  ⟨some 7, .call 30, [.t 5, .t 6], none⟩] [] [] [0, 3, 7] true [] []
noncomputable def c27_7 : ACode := .region false [⟨some 4, .move, [.c (.val (.bool false))], none⟩] [] [] [4] false [] []
noncomputable def c27_6 : ACode := .seq c27_7 .ret
noncomputable def c27_5 : ACode := .cond (.t 7) c27_6 .skip
noncomputable def c27_3 : ACode := .seq c27_4 c27_5
noncomputable def c27_10 : ACode := .region true [⟨some 8, .move, [.t 0], none⟩,
  ⟨some 9, .nilChk, [.t 8], none⟩,
  ⟨some 10, .addr 0, [.t 9], none⟩,
  ⟨some 11, .load false 1, [.t 10], none⟩,
  ⟨some 12, .len, [.t 11], none⟩,
  ⟨some 13, .move, [.t 0], none⟩,
  ⟨some 14, .nilChk, [.t 13], none⟩,
  ⟨some 15, .addr 0, [.t 14], none⟩,
  ⟨some 16, .load false 1, [.t 15], none⟩,
  ⟨some 17, .cap, [.t 16], none⟩,
  ⟨some 18, .bin .lss, [.t 12, .t 17], none⟩] [] [] [0, 3, 18] false [] []
noncomputable def c27_12 : ACode := .region true [⟨some 19, .move, [.t 0], none⟩,
  ⟨some 20, .move, [.t 0], none⟩,
  ⟨some 21, .nilChk, [.t 20], none⟩,
  ⟨some 22, .addr 0, [.t 21], none⟩,
  ⟨some 23, .load false 1, [.t 22], none⟩,
  ⟨some 24, .load true 3, [.t 3], none⟩,
  ⟨some 25, .buildSl 3 1 [(.int .i64 0), (.int .i64 0), (.string ⟨#[]⟩)] [(0, 3)], [.t 24], none⟩,
  ⟨some 26, .append 3 32 false, [.t 23, .t 25], none⟩,
  ⟨some 27, .nilChk, [.t 19], none⟩,
  ⟨some 28, .addr 0, [.t 27], none⟩,
  ⟨none, .store 1, [.t 28, .t 26], none⟩] [4] [(4, 6)] [0, 3] true [0] []
noncomputable def c27_14 : ACode := .region true [⟨some 29, .move, [.t 0], none⟩,
  ⟨some 30, .nilChk, [.t 29], none⟩,
  ⟨some 31, .addr 2, [.t 30], none⟩,
  ⟨some 32, .load false 1, [.t 31], none⟩,
  ⟨some 33, .move, [.t 0], none⟩,
  ⟨some 34, .nilChk, [.t 33], none⟩,
  ⟨some 35, .addr 0, [.t 34], none⟩,
  ⟨some 36, .load false 1, [.t 35], none⟩,
  ⟨some 37, .move, [.t 0], none⟩,
  ⟨some 38, .nilChk, [.t 37], none⟩,
  ⟨some 39, .addr 1, [.t 38], none⟩,
  ⟨some 40, .load false 1, [.t 39], none⟩,
  ⟨some 41, .ixS 3, [.t 36, .t 40], none⟩,
  ⟨some 42, .load true 3, [.t 41], none⟩,
  ⟨none, .delete [(0, 0), (1, 0), (2, 1)], [.t 32, .t 42], none⟩] [13] [] [0, 3] true [] []
noncomputable def c27_16 : ACode := .region true [⟨some 43, .move, [.t 0], none⟩,
  ⟨some 44, .nilChk, [.t 43], none⟩,
  ⟨some 45, .addr 0, [.t 44], none⟩,
  ⟨some 46, .load false 1, [.t 45], none⟩,
  ⟨some 47, .move, [.t 0], none⟩,
  ⟨some 48, .nilChk, [.t 47], none⟩,
  ⟨some 49, .addr 1, [.t 48], none⟩,
  ⟨some 50, .load false 1, [.t 49], none⟩,
  ⟨some 51, .load true 3, [.t 3], none⟩,
  ⟨some 52, .ixS 3, [.t 46, .t 50], none⟩,
  ⟨none, .store 3, [.t 52, .t 51], none⟩] [] [] [0, 3] true [] []
noncomputable def c27_17 : ACode := .region true [⟨some 53, .move, [.t 0], none⟩,
  ⟨some 54, .move, [.t 0], none⟩,
  ⟨some 55, .nilChk, [.t 54], none⟩,
  ⟨some 56, .addr 1, [.t 55], none⟩,
  ⟨some 57, .load false 1, [.t 56], none⟩,
  ⟨some 58, .bin .add, [.t 57, .c (.val (.int .i64 1))], none⟩,
  ⟨some 59, .move, [.t 0], none⟩,
  ⟨some 60, .nilChk, [.t 59], none⟩,
  ⟨some 61, .addr 0, [.t 60], none⟩,
  ⟨some 62, .load false 1, [.t 61], none⟩,
  ⟨some 63, .len, [.t 62], none⟩,
  ⟨some 64, .bin .rem, [.t 58, .t 63], none⟩] [] [] [0, 3] true [] [⟨some 65, .nilChk, [.t 53], none⟩,
  ⟨some 66, .addr 1, [.t 65], none⟩,
  ⟨none, .store 1, [.t 66, .t 64], none⟩]
noncomputable def c27_15 : ACode := .seq c27_16 c27_17
noncomputable def c27_13 : ACode := .seq c27_14 c27_15
noncomputable def c27_11 : ACode := .cond (.t 18) c27_12 c27_13
noncomputable def c27_9 : ACode := .seq c27_10 c27_11
noncomputable def c27_19 : ACode := .region true [⟨some 67, .move, [.t 0], none⟩,
  ⟨some 68, .nilChk, [.t 67], none⟩,
  ⟨some 69, .addr 2, [.t 68], none⟩,
  ⟨some 70, .load false 1, [.t 69], none⟩,
  ⟨some 71, .load true 3, [.t 3], none⟩,
  ⟨none, .mapUpd [(0, 0), (1, 0), (2, 1)], [.t 70, .t 71, .c (.val (.int .i64 1))], none⟩] [] [] [] true [] []
noncomputable def c27_21 : ACode := .region false [⟨some 4, .move, [.c (.val (.bool true))], none⟩] [] [] [4] false [] []
noncomputable def c27_20 : ACode := .seq c27_21 .ret
noncomputable def c27_18 : ACode := .seq c27_19 c27_20
noncomputable def c27_8 : ACode := .seq c27_9 c27_18
noncomputable def c27_2 : ACode := .seq c27_3 c27_8
noncomputable def c27_0 : ACode := .seq c27_1 c27_2
noncomputable def code27 : Code := (Try.f27.body).getD .skip
theorem c27_ok : compC Try.prog 72 code27 = some (strip c27_0) := by kernel_rfl
theorem res27_ok : Try.f27.results.toList.mapM (resC Try.prog) = some [(4, none)] := by kernel_rfl
/- (*quidnunc/seen.Seen).Len -/
noncomputable def c29_1 : ACode := .region false [⟨some 2, .move, [.c (.val (.int .i64 0))], none⟩] [] [] [0] false [] []
noncomputable def c29_3 : ACode := .region false [⟨some 3, .move, [.t 0], none⟩,
  ⟨some 4, .nilChk, [.t 3], none⟩,
  ⟨some 5, .addr 0, [.t 4], none⟩,
  ⟨some 6, .load false 1, [.t 5], none⟩,
  ⟨some 7, .len, [.t 6], none⟩,
  ⟨some 2, .move, [.t 7], none⟩] [] [] [2] false [] []
noncomputable def c29_2 : ACode := .seq c29_3 .ret
noncomputable def c29_0 : ACode := .seq c29_1 c29_2
noncomputable def code29 : Code := (Try.f29.body).getD .skip
theorem c29_ok : compC Try.prog 8 code29 = some (strip c29_0) := by kernel_rfl
theorem res29_ok : Try.f29.results.toList.mapM (resC Try.prog) = some [(2, none)] := by kernel_rfl
/- (*quidnunc/seen.Seen).All -/
noncomputable def c34_1 : ACode := .region false [⟨some 2, .move, [.c (.val (.slice none 0 0))], none⟩] [] [] [0] false [] []
noncomputable def c34_3 : ACode := .region true [⟨some 3, .move, [.t 0], none⟩,
  ⟨some 4, .nilChk, [.t 3], none⟩,
  ⟨some 5, .addr 0, [.t 4], none⟩,
  ⟨some 6, .load false 1, [.t 5], none⟩,
  ⟨some 7, .move, [.t 0], none⟩,
  ⟨some 8, .nilChk, [.t 7], none⟩,
  ⟨some 9, .addr 1, [.t 8], none⟩,
  ⟨some 10, .load false 1, [.t 9], none⟩,
  ⟨some 11, .slS 3 true false false, [.t 6, .t 10], none⟩,
  ⟨some 12, .append 3 32 false, [.c (.val (.slice none 0 0)), .t 11], none⟩,
  ⟨some 13, .move, [.t 0], none⟩,
  ⟨some 14, .nilChk, [.t 13], none⟩,
  ⟨some 15, .addr 0, [.t 14], none⟩,
  ⟨some 16, .load false 1, [.t 15], none⟩,
  ⟨some 17, .move, [.t 0], none⟩,
  ⟨some 18, .nilChk, [.t 17], none⟩,
  ⟨some 19, .addr 1, [.t 18], none⟩,
  ⟨some 20, .load false 1, [.t 19], none⟩,
  ⟨some 21, .slS 3 false true false, [.t 16, .t 20], none⟩,
  ⟨some 22, .append 3 32 false, [.t 12, .t 21], none⟩,
  ⟨some 2, .move, [.t 22], none⟩] [] [] [2] true [] []
noncomputable def c34_2 : ACode := .seq c34_3 .ret
noncomputable def c34_0 : ACode := .seq c34_1 c34_2
noncomputable def code34 : Code := (Try.f34.body).getD .skip
theorem c34_ok : compC Try.prog 23 code34 = some (strip c34_0) := by kernel_rfl
theorem res34_ok : Try.f34.results.toList.mapM (resC Try.prog) = some [(2, none)] := by kernel_rfl
/- quidnunc/quidnuncref18.New -/
noncomputable def c25_1 : ACode := .region false [⟨some 2, .alloc [(.int .i64 0), (.slice none 0 0)], [], none⟩,
  ⟨some 3, .move, [.c (.val (.int .i64 0))], none⟩] [] [] [0, 2] true [] []
noncomputable def c25_4 : ACode := .region false [⟨some 4, .move, [.t 0], none⟩,
  ⟨some 5, .bin .lss, [.t 4, .c (.val (.int .i64 1))], none⟩,
  ⟨some 6, .move, [.t 5], none⟩,
  ⟨some 7, .move, [.t 0], some (some 6, false)⟩,
  ⟨some 8, .bin .gtr, [.t 7, .c (.val (.int .i64 1024))], some (some 6, false)⟩,
  ⟨some 9, .pick, [.t 6, .c (.val (.bool true)), .t 8], none⟩] [] [] [0, 2, 9] false [] []
noncomputable def c25_7 : ACode := .region false [⟨some 10, .build [(.int .i64 0), (.slice none 0 0)] [], [], none⟩,
  ⟨none, .store 2, [.t 2, .t 10], none⟩,
  ⟨some 3, .move, [.c (.val (.int .i64 1))], none⟩] [] [] [2, 3] true [] []
noncomputable def c25_6 : ACode := .seq c25_7 .ret
noncomputable def c25_5 : ACode := .cond (.t 9) c25_6 .skip
noncomputable def c25_3 : ACode := .seq c25_4 c25_5
noncomputable def c25_9 : ACode := .region false [⟨some 11, .move, [.t 0], none⟩,
  ⟨some 12, .build [(.int .i64 0), (.slice none 0 0)] [(0, 1)], [.t 11], none⟩,
  ⟨none, .store 2, [.t 2, .t 12], none⟩,
  ⟨some 3, .move, [.c (.val (.int .i64 0))], none⟩] [] [] [2, 3] true [] []
noncomputable def c25_8 : ACode := .seq c25_9 .ret
noncomputable def c25_2 : ACode := .seq c25_3 c25_8
noncomputable def c25_0 : ACode := .seq c25_1 c25_2
noncomputable def code25 : Code := (Try.f25.body).getD .skip
theorem c25_ok : compC Try.prog 13 code25 = some (strip c25_0) := by kernel_rfl
theorem res25_ok : Try.f25.results.toList.mapM (resC Try.prog) = some [(2, some (true, 2)), (3, none)] := by kernel_rfl
/- quidnunc/quidnuncref18.Has -/
noncomputable def c31_1 : ACode := .region false [⟨some 2, .box 0, [.t 0], none⟩,
  ⟨some 3, .box 0, [.t 1], none⟩,
  ⟨some 4, .move, [.c (.val (.bool false))], none⟩] [] [] [2, 3] true [] []
noncomputable def c31_4 : ACode := .region false [⟨some 5, .move, [.c (.val (.int .i64 0))], none⟩] [] [] [2, 3, 5] false [] []
noncomputable def c31_9 : ACode := .region false [⟨some 6, .move, [.t 5], none⟩,
  ⟨some 7, .addr 1, [.t 2], none⟩,
  ⟨some 8, .load false 1, [.t 7], none⟩,
  ⟨some 9, .len, [.t 8], none⟩,
  ⟨some 10, .bin .lss, [.t 6, .t 9], none⟩] [] [] [2, 3, 5, 10] false [] []
noncomputable def c31_10 : ACode := .cond (.t 10) .skip (.exit 0)
noncomputable def c31_8 : ACode := .seq c31_9 c31_10
noncomputable def c31_14 : ACode := .region true [⟨some 13, .addr 1, [.t 2], none⟩,
  ⟨some 14, .load false 1, [.t 13], none⟩,
  ⟨some 15, .move, [.t 5], none⟩,
  ⟨some 16, .ixS 3, [.t 14, .t 15], none⟩,
  ⟨some 17, .load true 3, [.t 16], none⟩,
  ⟨some 18, .load true 3, [.t 3], none⟩,
  ⟨some 19, .eqA false [(0, 0), (1, 0), (2, 1)], [.t 17, .t 18], none⟩] [] [] [2, 3, 5, 19] false [] []
noncomputable def c31_17 : ACode := .region false [⟨some 4, .move, [.c (.val (.bool true))], none⟩] [] [] [4] false [] []
noncomputable def c31_16 : ACode := .seq c31_17 .ret
noncomputable def c31_15 : ACode := .cond (.t 19) c31_16 .skip
noncomputable def c31_13 : ACode := .seq c31_14 c31_15
noncomputable def c31_12 : ACode := .block 1 c31_13
noncomputable def c31_18 : ACode := .region false [⟨some 11, .move, [.t 5], none⟩,
  ⟨some 12, .bin .add, [.t 11, .c (.val (.int .i64 1))], none⟩,
  ⟨some 5, .move, [.t 12], none⟩] [] [] [2, 3, 5] false [] []
noncomputable def c31_11 : ACode := .seq c31_12 c31_18
noncomputable def c31_7 : ACode := .seq c31_8 c31_11
noncomputable def c31_6 : ACode := .loop c31_7
noncomputable def c31_5 : ACode := .block 0 c31_6
noncomputable def c31_3 : ACode := .seq c31_4 c31_5
noncomputable def c31_20 : ACode := .region false [⟨some 4, .move, [.c (.val (.bool false))], none⟩] [] [] [4] false [] []
noncomputable def c31_19 : ACode := .seq c31_20 .ret
noncomputable def c31_2 : ACode := .seq c31_3 c31_19
noncomputable def c31_0 : ACode := .seq c31_1 c31_2
noncomputable def code31 : Code := (Try.f31.body).getD .skip
theorem c31_ok : compC Try.prog 20 code31 = some (strip c31_0) := by kernel_rfl
theorem res31_ok : Try.f31.results.toList.mapM (resC Try.prog) = some [(4, none)] := by kernel_rfl
/- quidnunc/quidnuncref18.Add -/
noncomputable def c26_1 : ACode := .region false [⟨some 2, .box 0, [.t 0], none⟩,
  ⟨some 3, .box 0, [.t 1], none⟩,
  ⟨some 4, .alloc [(.int .i64 0), (.slice none 0 0)], [], none⟩,
  ⟨some 5, .move, [.c (.val (.bool false))], none⟩] [] [] [2, 3, 4] true [] []
noncomputable def c26_4 : ACode := .region false [⟨some 7, .load true 2, [.t 2], none⟩,
  ⟨some 8, .load true 3, [.t 3], none⟩,
  ⟨some 9, .call 31, [.t 7, .t 8], none⟩] [] [] [2, 3, 4, 9] true [] []
noncomputable def c26_7 : ACode := .region false [⟨some 10, .load true 2, [.t 2], none⟩,
  ⟨none, .store 2, [.t 4, .t 10], none⟩,
  ⟨some 5, .move, [.c (.val (.bool false))], none⟩] [] [] [4, 5] true [] []
noncomputable def c26_6 : ACode := .seq c26_7 .ret
noncomputable def c26_5 : ACode := .cond (.t 9) c26_6 .skip
noncomputable def c26_3 : ACode := .seq c26_4 c26_5
noncomputable def c26_9 : ACode := .region true [⟨some 11, .buildSl 3 0 [(.int .i64 0), (.int .i64 0), (.string ⟨#[]⟩)] [], [], none⟩,
  ⟨some 12, .addr 1, [.t 2], none⟩,
  ⟨some 13, .load false 1, [.t 12], none⟩,
  ⟨some 14, .append 3 32 false, [.t 11, .t 13], none⟩,
  ⟨some 15, .load true 3, [.t 3], none⟩,
  ⟨some 16, .buildSl 3 1 [(.int .i64 0), (.int .i64 0), (.string ⟨#[]⟩)] [(0, 3)], [.t 15], none⟩,
  ⟨some 17, .append 3 32 false, [.t 14, .t 16], none⟩,
  ⟨some 6, .move, [.t 17], none⟩] [] [(3, 5)] [2, 4, 6] true [] []
noncomputable def c26_12 : ACode := .region false [⟨some 18, .move, [.t 6], none⟩,
  ⟨some 19, .len, [.t 18], none⟩,
  ⟨some 20, .addr 0, [.t 2], none⟩,
  ⟨some 21, .load false 1, [.t 20], none⟩,
  ⟨some 22, .bin .gtr, [.t 19, .t 21], none⟩] [] [] [2, 4, 6, 22] false [] []
noncomputable def c26_14 : ACode := .region false [⟨some 23, .move, [.t 6], none⟩,
  ⟨some 24, .slS 3 true false false, [.t 23, .c (.val (.int .i64 1))], none⟩,
  ⟨some 6, .move, [.t 24], none⟩] [] [] [2, 4, 6] false [] []
noncomputable def c26_13 : ACode := .cond (.t 22) c26_14 .skip
noncomputable def c26_11 : ACode := .seq c26_12 c26_13
noncomputable def c26_16 : ACode := .region false [⟨some 25, .addr 0, [.t 2], none⟩,
  ⟨some 26, .load false 1, [.t 25], none⟩,
  ⟨some 27, .move, [.t 6], none⟩,
  ⟨some 28, .build [(.int .i64 0), (.slice none 0 0)] [(0, 1), (1, 1)], [.t 26, .t 27], none⟩,
  ⟨none, .store 2, [.t 4, .t 28], none⟩,
  ⟨some 5, .move, [.c (.val (.bool true))], none⟩] [] [] [4, 5] true [] []
noncomputable def c26_15 : ACode := .seq c26_16 .ret
noncomputable def c26_10 : ACode := .seq c26_11 c26_15
noncomputable def c26_8 : ACode := .seq c26_9 c26_10
noncomputable def c26_2 : ACode := .seq c26_3 c26_8
noncomputable def c26_0 : ACode := .seq c26_1 c26_2
noncomputable def code26 : Code := (Try.f26.body).getD .skip
theorem c26_ok : compC Try.prog 29 code26 = some (strip c26_0) := by kernel_rfl
theorem res26_ok : Try.f26.results.toList.mapM (resC Try.prog) = some [(4, some (true, 2)), (5, none)] := by kernel_rfl
theorem snew_ok (n : Nat) (h1 : 1 ≤ n) (h2 : n ≤ 1024) : ACall Try.prog 24 [I n] [] (Det (.tup [.ptr 0 0, I 0]) [SnO 1 2 false (newS n), .cells false (ringC (newS n)), .map false (EsM [])]) := by
  have g1 : ((n : Int) < 1) = False := eq_false (by omega)
  have g2 : ((1024 : Int) < (n : Int)) = False := eq_false (by omega)
  have hz : zmk n = ringC (newS n) := (ringC_new n).symm
  unfold zmk at hz
  refine ACall.startA c24_ok Try.func24 rfl Try.ntmps24 (by kernel_rfl) res24_ok rfl rfl rfl ?_; simp (maxSteps := 9999999) (disch := omega) only [go_sem]
  (repeat' (first | refine AWpA.seq ?_ | refine AWpA.block ?_ | (with_reducible refine CondP.tt ?_) | (with_reducible refine CondP.ff ?_) | refine AWpA.condv (by simp (maxSteps := 9999999) (disch := omega) only [go_sem, g1, g2, hz]; rfl) ?_ | ((first | (apply AWpA.region; (focus (simp (maxSteps := 9999999) (disch := omega) only [go_sem, g1, g2, hz]; rfl))) | (apply AWpA.draw [] [] follows; (focus (first | rfl | decide)); (focus (simp (maxSteps := 9999999) (disch := omega) only [go_sem, g1, g2, hz]; rfl)); (focus (simp (maxSteps := 9999999) (disch := omega) only [go_sem, g1, g2, hz]; first | done | trivial)); (focus (simp (maxSteps := 9999999) (disch := omega) only [go_sem, g1, g2, hz]; rfl))) | (apply TailK.go; (focus (simp (maxSteps := 9999999) (disch := omega) only [go_sem, g1, g2, hz]; rfl))) | refine AWpA.skip ?_ | refine AWpA.exit ?_ | refine AWpA.ret ?_ | (with_reducible refine ARoundsA.succ ?_) | ((first | refine Runs.kt (by assumption) (fun h9 => ?_) | refine Runs.kf (by assumption) (fun h9 => ?_) | refine Runs.nt (by assumption) (fun h9 => ?_) | refine Runs.nf (by assumption) (fun h9 => ?_) | refine CondP.ht (by assumption) (fun h9 => ?_) | refine CondP.hf (by assumption) (fun h9 => ?_) | refine CondP.nt (by assumption) (fun h9 => ?_) | refine CondP.nf (by assumption) (fun h9 => ?_)); (try simp only [h9]); clear h9)); (try simp (maxSteps := 9999999) (disch := omega) only [go_sem, g1, g2, hz]); (try (refine And.intro ?_ ?_; (focus (first | omega | (simp only [go_sem]; done) | (simp; done) | (simp; omega) | assumption))))) | ((first | refine CondP.split (fun hif => ?_) (fun hif => ?_) | refine Runs.part (fun hif => ?_) (fun hif => ?_)) <;> ((try simp only [hif]); (try simp only [decide_eq_true_eq, decide_eq_false_iff_not, Bool.not_eq_true, Bool.not_eq_false, Bool.not_eq_true', Bool.not_eq_false', beq_iff_eq, bne_iff_ne, bne_eq_false_iff_eq, beq_eq_false_iff_ne, ne_eq, Bool.and_eq_true, Bool.or_eq_true, Bool.or_eq_false_iff] at hif); (try (have h9 : _ = true := hif; simp only [h9])); (try (have h9 : _ = false := hif; simp only [h9])); (try simp (maxSteps := 9999999) (disch := omega) only [go_sem, g1, g2, hz]); (try (refine And.intro ?_ ?_; (focus (first | omega | (simp only [go_sem]; done) | (simp; done) | (simp; omega) | assumption)))); (try (exfalso; omega; done))))))
  (apply Ret.det [_, _, _]; (focus (first | exact .inl rfl | exact .inr rfl)); (focus (simp (maxSteps := 9999999) (disch := omega) only [go_sem, newS, EsM, ringC_ren]; rfl)); (simp (maxSteps := 9999999) (disch := omega) only [go_sem, newS, EsM, ringC_ren]; (try (repeat' (first | done | trivial | rfl | exact leAs_rfl _ | decide | (refine And.intro ?_ ?_) | (simp; done) | omega | (simp; decide))))))
theorem snew_no (n : Int) (h : ¬ (1 ≤ n ∧ n ≤ 1024)) : ACall Try.prog 24 [I n] [] (Det (.tup [.val (.pointer none), I 1]) []) := by
  refine ACall.startA c24_ok Try.func24 rfl Try.ntmps24 (by kernel_rfl) res24_ok rfl rfl rfl ?_; simp (maxSteps := 9999999) (disch := omega) only [go_sem]
  (repeat' (first | refine AWpA.seq ?_ | refine AWpA.block ?_ | (with_reducible refine CondP.tt ?_) | (with_reducible refine CondP.ff ?_) | refine AWpA.condv (by simp (maxSteps := 9999999) (disch := omega) only [go_sem]; rfl) ?_ | ((first | (apply AWpA.region; (focus (simp (maxSteps := 9999999) (disch := omega) only [go_sem]; rfl))) | (apply AWpA.draw [] [] follows; (focus (first | rfl | decide)); (focus (simp (maxSteps := 9999999) (disch := omega) only [go_sem]; rfl)); (focus (simp (maxSteps := 9999999) (disch := omega) only [go_sem]; first | done | trivial)); (focus (simp (maxSteps := 9999999) (disch := omega) only [go_sem]; rfl))) | (apply TailK.go; (focus (simp (maxSteps := 9999999) (disch := omega) only [go_sem]; rfl))) | refine AWpA.skip ?_ | refine AWpA.exit ?_ | refine AWpA.ret ?_ | (with_reducible refine ARoundsA.succ ?_) | ((first | refine Runs.kt (by assumption) (fun h9 => ?_) | refine Runs.kf (by assumption) (fun h9 => ?_) | refine Runs.nt (by assumption) (fun h9 => ?_) | refine Runs.nf (by assumption) (fun h9 => ?_) | refine CondP.ht (by assumption) (fun h9 => ?_) | refine CondP.hf (by assumption) (fun h9 => ?_) | refine CondP.nt (by assumption) (fun h9 => ?_) | refine CondP.nf (by assumption) (fun h9 => ?_)); (try simp only [h9]); clear h9)); (try simp (maxSteps := 9999999) (disch := omega) only [go_sem]); (try (refine And.intro ?_ ?_; (focus (first | omega | (simp only [go_sem]; done) | (simp; done) | (simp; omega) | assumption))))) | ((first | refine CondP.split (fun hif => ?_) (fun hif => ?_) | refine Runs.part (fun hif => ?_) (fun hif => ?_)) <;> ((try simp only [hif]); (try simp only [decide_eq_true_eq, decide_eq_false_iff_not, Bool.not_eq_true, Bool.not_eq_false, Bool.not_eq_true', Bool.not_eq_false', beq_iff_eq, bne_iff_ne, bne_eq_false_iff_eq, beq_eq_false_iff_ne, ne_eq, Bool.and_eq_true, Bool.or_eq_true, Bool.or_eq_false_iff] at hif); (try (have h9 : _ = true := hif; simp only [h9])); (try (have h9 : _ = false := hif; simp only [h9])); (try simp (maxSteps := 9999999) (disch := omega) only [go_sem]); (try (refine And.intro ?_ ?_; (focus (first | omega | (simp only [go_sem]; done) | (simp; done) | (simp; omega) | assumption)))); (try (exfalso; omega; done))))))
  all_goals (first | (exfalso; omega) | skip)
  all_goals (apply Ret.det []; (focus (first | exact .inl rfl | exact .inr rfl)); (focus (simp (maxSteps := 9999999) (disch := omega) only [go_sem]; rfl)); (simp (maxSteps := 9999999) (disch := omega) only [go_sem]; (try (repeat' (first | done | trivial | rfl | exact leAs_rfl _ | decide | (refine And.intro ?_ ?_) | (simp; done) | omega | (simp; decide))))))
theorem shas_any (s : Sn) (m : Mk) : ACall Try.prog 30 [.ptr 0 0, MkG m] [.cells true [.any, .any, .mp 1], .map true (EsM s.mp)] (Det (Bo (decide (m ∈ s.mp))) [.cells true [.any, .any, .mp 1], .map true (EsM s.mp)]) := by
  have hf := find_mk m s.mp
  have hr := es_ren s.mp
  have hs := key_mk m m
  by_cases h : m ∈ s.mp
  · rw [if_pos h] at hf
    refine ACall.startA c30_ok Try.func30 rfl Try.ntmps30 (by kernel_rfl) res30_ok rfl rfl rfl ?_; simp (maxSteps := 9999999) (disch := omega) only [go_sem]
    (repeat' (first | refine AWpA.seq ?_ | refine AWpA.block ?_ | (with_reducible refine CondP.tt ?_) | (with_reducible refine CondP.ff ?_) | refine AWpA.condv (by simp (maxSteps := 9999999) (disch := omega) only [go_sem, hf, hr, hs]; rfl) ?_ | ((first | (apply AWpA.region; (focus (simp (maxSteps := 9999999) (disch := omega) only [go_sem, hf, hr, hs]; rfl))) | (apply AWpA.draw [] [] follows; (focus (first | rfl | decide)); (focus (simp (maxSteps := 9999999) (disch := omega) only [go_sem, hf, hr, hs]; rfl)); (focus (simp (maxSteps := 9999999) (disch := omega) only [go_sem, hf, hr, hs]; first | done | trivial)); (focus (simp (maxSteps := 9999999) (disch := omega) only [go_sem, hf, hr, hs]; rfl))) | (apply TailK.go; (focus (simp (maxSteps := 9999999) (disch := omega) only [go_sem, hf, hr, hs]; rfl))) | refine AWpA.skip ?_ | refine AWpA.exit ?_ | refine AWpA.ret ?_ | (with_reducible refine ARoundsA.succ ?_) | ((first | refine Runs.kt (by assumption) (fun h9 => ?_) | refine Runs.kf (by assumption) (fun h9 => ?_) | refine Runs.nt (by assumption) (fun h9 => ?_) | refine Runs.nf (by assumption) (fun h9 => ?_) | refine CondP.ht (by assumption) (fun h9 => ?_) | refine CondP.hf (by assumption) (fun h9 => ?_) | refine CondP.nt (by assumption) (fun h9 => ?_) | refine CondP.nf (by assumption) (fun h9 => ?_)); (try simp only [h9]); clear h9)); (try simp (maxSteps := 9999999) (disch := omega) only [go_sem, hf, hr, hs]); (try (refine And.intro ?_ ?_; (focus (first | omega | (simp only [go_sem]; done) | (simp; done) | (simp; omega) | assumption))))) | ((first | refine CondP.split (fun hif => ?_) (fun hif => ?_) | refine Runs.part (fun hif => ?_) (fun hif => ?_)) <;> ((try simp only [hif]); (try simp only [decide_eq_true_eq, decide_eq_false_iff_not, Bool.not_eq_true, Bool.not_eq_false, Bool.not_eq_true', Bool.not_eq_false', beq_iff_eq, bne_iff_ne, bne_eq_false_iff_eq, beq_eq_false_iff_ne, ne_eq, Bool.and_eq_true, Bool.or_eq_true, Bool.or_eq_false_iff] at hif); (try (have h9 : _ = true := hif; simp only [h9])); (try (have h9 : _ = false := hif; simp only [h9])); (try simp (maxSteps := 9999999) (disch := omega) only [go_sem, hf, hr, hs]); (try (refine And.intro ?_ ?_; (focus (first | omega | (simp only [go_sem]; done) | (simp; done) | (simp; omega) | assumption)))); (try (exfalso; omega; done))))))
    (apply Ret.det [0, 1]; (focus (first | exact .inl rfl | exact .inr rfl)); (focus (simp (maxSteps := 9999999) (disch := omega) only [go_sem, hr, h]; rfl)); (simp (maxSteps := 9999999) (disch := omega) only [go_sem, hr, h]; (try (repeat' (first | done | trivial | rfl | exact leAs_rfl _ | decide | (refine And.intro ?_ ?_) | (simp; done) | omega | (simp; decide))))))
  · rw [if_neg h] at hf
    refine ACall.startA c30_ok Try.func30 rfl Try.ntmps30 (by kernel_rfl) res30_ok rfl rfl rfl ?_; simp (maxSteps := 9999999) (disch := omega) only [go_sem]
    (repeat' (first | refine AWpA.seq ?_ | refine AWpA.block ?_ | (with_reducible refine CondP.tt ?_) | (with_reducible refine CondP.ff ?_) | refine AWpA.condv (by simp (maxSteps := 9999999) (disch := omega) only [go_sem, hf, hr, hs]; rfl) ?_ | ((first | (apply AWpA.region; (focus (simp (maxSteps := 9999999) (disch := omega) only [go_sem, hf, hr, hs]; rfl))) | (apply AWpA.draw [] [] follows; (focus (first | rfl | decide)); (focus (simp (maxSteps := 9999999) (disch := omega) only [go_sem, hf, hr, hs]; rfl)); (focus (simp (maxSteps := 9999999) (disch := omega) only [go_sem, hf, hr, hs]; first | done | trivial)); (focus (simp (maxSteps := 9999999) (disch := omega) only [go_sem, hf, hr, hs]; rfl))) | (apply TailK.go; (focus (simp (maxSteps := 9999999) (disch := omega) only [go_sem, hf, hr, hs]; rfl))) | refine AWpA.skip ?_ | refine AWpA.exit ?_ | refine AWpA.ret ?_ | (with_reducible refine ARoundsA.succ ?_) | ((first | refine Runs.kt (by assumption) (fun h9 => ?_) | refine Runs.kf (by assumption) (fun h9 => ?_) | refine Runs.nt (by assumption) (fun h9 => ?_) | refine Runs.nf (by assumption) (fun h9 => ?_) | refine CondP.ht (by assumption) (fun h9 => ?_) | refine CondP.hf (by assumption) (fun h9 => ?_) | refine CondP.nt (by assumption) (fun h9 => ?_) | refine CondP.nf (by assumption) (fun h9 => ?_)); (try simp only [h9]); clear h9)); (try simp (maxSteps := 9999999) (disch := omega) only [go_sem, hf, hr, hs]); (try (refine And.intro ?_ ?_; (focus (first | omega | (simp only [go_sem]; done) | (simp; done) | (simp; omega) | assumption))))) | ((first | refine CondP.split (fun hif => ?_) (fun hif => ?_) | refine Runs.part (fun hif => ?_) (fun hif => ?_)) <;> ((try simp only [hif]); (try simp only [decide_eq_true_eq, decide_eq_false_iff_not, Bool.not_eq_true, Bool.not_eq_false, Bool.not_eq_true', Bool.not_eq_false', beq_iff_eq, bne_iff_ne, bne_eq_false_iff_eq, beq_eq_false_iff_ne, ne_eq, Bool.and_eq_true, Bool.or_eq_true, Bool.or_eq_false_iff] at hif); (try (have h9 : _ = true := hif; simp only [h9])); (try (have h9 : _ = false := hif; simp only [h9])); (try simp (maxSteps := 9999999) (disch := omega) only [go_sem, hf, hr, hs]); (try (refine And.intro ?_ ?_; (focus (first | omega | (simp only [go_sem]; done) | (simp; done) | (simp; omega) | assumption)))); (try (exfalso; omega; done))))))
    (apply Ret.det [0, 1]; (focus (first | exact .inl rfl | exact .inr rfl)); (focus (simp (maxSteps := 9999999) (disch := omega) only [go_sem, hr, h]; rfl)); (simp (maxSteps := 9999999) (disch := omega) only [go_sem, hr, h]; (try (repeat' (first | done | trivial | rfl | exact leAs_rfl _ | decide | (refine And.intro ?_ ?_) | (simp; done) | omega | (simp; decide))))))
theorem slen_any (s : Sn) : ACall Try.prog 29 [.ptr 0 0] [SnO 1 2 true s, .cells true (ringC s), .map true (EsM s.mp)] (Det (I s.ring.length) [SnO 1 2 true s, .cells true (ringC s), .map true (EsM s.mp)]) := by
  have hr := es_ren s.mp
  have hr2 := ringC_ren s
  refine ACall.startA c29_ok Try.func29 rfl Try.ntmps29 (by kernel_rfl) res29_ok rfl rfl rfl ?_; simp (maxSteps := 9999999) (disch := omega) only [go_sem]
  (repeat' (first | refine AWpA.seq ?_ | refine AWpA.block ?_ | (with_reducible refine CondP.tt ?_) | (with_reducible refine CondP.ff ?_) | refine AWpA.condv (by simp (maxSteps := 9999999) (disch := omega) only [go_sem, hr, hr2]; rfl) ?_ | ((first | (apply AWpA.region; (focus (simp (maxSteps := 9999999) (disch := omega) only [go_sem, hr, hr2]; rfl))) | (apply AWpA.draw [] [] follows; (focus (first | rfl | decide)); (focus (simp (maxSteps := 9999999) (disch := omega) only [go_sem, hr, hr2]; rfl)); (focus (simp (maxSteps := 9999999) (disch := omega) only [go_sem, hr, hr2]; first | done | trivial)); (focus (simp (maxSteps := 9999999) (disch := omega) only [go_sem, hr, hr2]; rfl))) | (apply TailK.go; (focus (simp (maxSteps := 9999999) (disch := omega) only [go_sem, hr, hr2]; rfl))) | refine AWpA.skip ?_ | refine AWpA.exit ?_ | refine AWpA.ret ?_ | (with_reducible refine ARoundsA.succ ?_) | ((first | refine Runs.kt (by assumption) (fun h9 => ?_) | refine Runs.kf (by assumption) (fun h9 => ?_) | refine Runs.nt (by assumption) (fun h9 => ?_) | refine Runs.nf (by assumption) (fun h9 => ?_) | refine CondP.ht (by assumption) (fun h9 => ?_) | refine CondP.hf (by assumption) (fun h9 => ?_) | refine CondP.nt (by assumption) (fun h9 => ?_) | refine CondP.nf (by assumption) (fun h9 => ?_)); (try simp only [h9]); clear h9)); (try simp (maxSteps := 9999999) (disch := omega) only [go_sem, hr, hr2]); (try (refine And.intro ?_ ?_; (focus (first | omega | (simp only [go_sem]; done) | (simp; done) | (simp; omega) | assumption))))) | ((first | refine CondP.split (fun hif => ?_) (fun hif => ?_) | refine Runs.part (fun hif => ?_) (fun hif => ?_)) <;> ((try simp only [hif]); (try simp only [decide_eq_true_eq, decide_eq_false_iff_not, Bool.not_eq_true, Bool.not_eq_false, Bool.not_eq_true', Bool.not_eq_false', beq_iff_eq, bne_iff_ne, bne_eq_false_iff_eq, beq_eq_false_iff_ne, ne_eq, Bool.and_eq_true, Bool.or_eq_true, Bool.or_eq_false_iff] at hif); (try (have h9 : _ = true := hif; simp only [h9])); (try (have h9 : _ = false := hif; simp only [h9])); (try simp (maxSteps := 9999999) (disch := omega) only [go_sem, hr, hr2]); (try (refine And.intro ?_ ?_; (focus (first | omega | (simp only [go_sem]; done) | (simp; done) | (simp; omega) | assumption)))); (try (exfalso; omega; done))))))
  (apply Ret.det [0, 1, 2]; (focus (first | exact .inl rfl | exact .inr rfl)); (focus (simp (maxSteps := 9999999) (disch := omega) only [go_sem, hr, hr2]; rfl)); (simp (maxSteps := 9999999) (disch := omega) only [go_sem, hr, hr2]; (try (repeat' (first | done | trivial | rfl | exact leAs_rfl _ | decide | (refine And.intro ?_ ?_) | (simp; done) | omega | (simp; decide))))))
theorem sadd_has (s : Sn) (m : Mk) (h : m ∈ s.mp) : ACall Try.prog 27 [.ptr 0 0, MkG m] [SnO 1 2 false s, .cells false (ringC s), .map false (EsM s.mp)] (Det (Bo false) [SnO 1 2 false s, .cells false (ringC s), .map false (EsM s.mp)]) := by
  have hr := es_ren s.mp
  have hr2 := ringC_ren s
  have hh := shas_any s m
  rw [decide_eq_true h] at hh
  refine ACall.startA c27_ok Try.func27 rfl Try.ntmps27 (by kernel_rfl) res27_ok rfl rfl rfl ?_; simp (maxSteps := 9999999) (disch := omega) only [go_sem]
  (repeat' (first | refine AWpA.seq ?_ | refine AWpA.block ?_ | (with_reducible refine CondP.tt ?_) | (with_reducible refine CondP.ff ?_) | refine AWpA.condv (by simp (maxSteps := 9999999) (disch := omega) only [go_sem, hr, hr2]; rfl) ?_ | ((first | (apply AWpA.region; (focus (simp (maxSteps := 9999999) (disch := omega) only [go_sem, hr, hr2]; rfl))) | (apply AWpA.draw [] [] follows; (focus (first | rfl | decide)); (focus (simp (maxSteps := 9999999) (disch := omega) only [go_sem, hr, hr2]; rfl)); (focus (simp (maxSteps := 9999999) (disch := omega) only [go_sem, hr, hr2]; first | done | trivial)); (focus (simp (maxSteps := 9999999) (disch := omega) only [go_sem, hr, hr2]; rfl))) | (apply TailK.go; (focus (simp (maxSteps := 9999999) (disch := omega) only [go_sem, hr, hr2]; rfl))) | refine AWpA.skip ?_ | refine AWpA.exit ?_ | refine AWpA.ret ?_ | (with_reducible refine ARoundsA.succ ?_) | ((first | refine Runs.kt (by assumption) (fun h9 => ?_) | refine Runs.kf (by assumption) (fun h9 => ?_) | refine Runs.nt (by assumption) (fun h9 => ?_) | refine Runs.nf (by assumption) (fun h9 => ?_) | refine CondP.ht (by assumption) (fun h9 => ?_) | refine CondP.hf (by assumption) (fun h9 => ?_) | refine CondP.nt (by assumption) (fun h9 => ?_) | refine CondP.nf (by assumption) (fun h9 => ?_)); (try simp only [h9]); clear h9) | ((first | (with_reducible apply CallG.plain1 [0, 2] (hh)) | (with_reducible apply CallG.draw1 [0, 2] (hh))); (focus ((try refine And.intro (leAs_of_eq rfl) ?_); (try refine And.intro (leOL_of_eq rfl) ?_); simp (maxSteps := 9999999) (disch := omega) only [go_sem, hr, hr2]; first | done | (repeat' (first | rfl | (refine And.intro ?_ ?_))))); (focus (simp (maxSteps := 9999999) (disch := omega) only [go_sem, hr, hr2]; rfl)))); (try simp (maxSteps := 9999999) (disch := omega) only [go_sem, hr, hr2]); (try (refine And.intro ?_ ?_; (focus (first | omega | (simp only [go_sem]; done) | (simp; done) | (simp; omega) | assumption))))) | ((first | refine CondP.split (fun hif => ?_) (fun hif => ?_) | refine Runs.part (fun hif => ?_) (fun hif => ?_)) <;> ((try simp only [hif]); (try simp only [decide_eq_true_eq, decide_eq_false_iff_not, Bool.not_eq_true, Bool.not_eq_false, Bool.not_eq_true', Bool.not_eq_false', beq_iff_eq, bne_iff_ne, bne_eq_false_iff_eq, beq_eq_false_iff_ne, ne_eq, Bool.and_eq_true, Bool.or_eq_true, Bool.or_eq_false_iff] at hif); (try (have h9 : _ = true := hif; simp only [h9])); (try (have h9 : _ = false := hif; simp only [h9])); (try simp (maxSteps := 9999999) (disch := omega) only [go_sem, hr, hr2]); (try (refine And.intro ?_ ?_; (focus (first | omega | (simp only [go_sem]; done) | (simp; done) | (simp; omega) | assumption)))); (try (exfalso; omega; done))))))
  (apply Ret.det [0, 1, 2]; (focus (first | exact .inl rfl | exact .inr rfl)); (focus (simp (maxSteps := 9999999) (disch := omega) only [go_sem, hr, hr2]; rfl)); (simp (maxSteps := 9999999) (disch := omega) only [go_sem, hr, hr2]; (try (repeat' (first | done | trivial | rfl | exact leAs_rfl _ | decide | (refine And.intro ?_ ?_) | (simp; done) | omega | (simp; decide))))))
theorem sadd_push {s : Sn} (hok : s.ok) (m : Mk) (h : m ∉ s.mp) (hl : s.ring.length < s.room) : ACall Try.prog 27 [.ptr 0 0, MkG m] [SnO 1 2 false s, .cells false (ringC s), .map false (EsM s.mp)] (Det (Bo true) [SnO 1 2 false { s with ring := s.ring ++ [m], mp := s.mp ++ [m] }, .cells false (ringC { s with ring := s.ring ++ [m], mp := s.mp ++ [m] }), .map false (EsM (s.mp ++ [m]))]) := by
  have hr := es_ren s.mp
  have hr2 := ringC_ren s
  have hh := shas_any s m
  rw [decide_eq_false h] at hh
  have g1 : ((s.ring.length : Int) < (s.room : Int)) = True := eq_true (by omega)
  have g2 : (s.ring.length + 1 ≤ s.room) = True := eq_true (by omega)
  have hcl := ringC_len hok
  have hp := ringC_push hl m (a := s.ring.length * 3) (b := (s.ring.length + 1) * 3) rfl rfl
  have hu := upd_mk m h
  have hk := key_mk m m
  have hr3 := es_ren (s.mp ++ [m])
  have hr4 := ringC_ren { s with ring := s.ring ++ [m], mp := s.mp ++ [m] }
  have hll : (s.ring ++ [m]).length = s.ring.length + 1 := by simp
  refine ACall.startA c27_ok Try.func27 rfl Try.ntmps27 (by kernel_rfl) res27_ok rfl rfl rfl ?_; simp (maxSteps := 9999999) (disch := omega) only [go_sem]
  have g5 : ((s.ring.length + 1) * 3 ≤ s.room * 3) = True := eq_true (by omega)
  (repeat' (first | refine AWpA.seq ?_ | refine AWpA.block ?_ | (with_reducible refine CondP.tt ?_) | (with_reducible refine CondP.ff ?_) | refine AWpA.condv (by simp (maxSteps := 9999999) (disch := omega) only [go_sem, hr, hr2, g1, g2, g5, false_implies, (show Nat.beq 355 0 = false from rfl), hcl, hp, hu, hk, decide_true]; rfl) ?_ | ((first | (apply AWpA.region; (focus (simp (maxSteps := 9999999) (disch := omega) only [go_sem, hr, hr2, g1, g2, g5, false_implies, (show Nat.beq 355 0 = false from rfl), hcl, hp, hu, hk, decide_true]; rfl))) | (apply AWpA.draw [1, 2] [] follows; (focus (first | rfl | decide)); (focus (simp (maxSteps := 9999999) (disch := omega) only [go_sem, hr, hr2, g1, g2, g5, false_implies, (show Nat.beq 355 0 = false from rfl), hcl, hp, hu, hk, decide_true]; rfl)); (focus (simp (maxSteps := 9999999) (disch := omega) only [go_sem, hr, hr2, g1, g2, g5, false_implies, (show Nat.beq 355 0 = false from rfl), hcl, hp, hu, hk, decide_true]; first | done | trivial)); (focus (simp (maxSteps := 9999999) (disch := omega) only [go_sem, hr, hr2, g1, g2, g5, false_implies, (show Nat.beq 355 0 = false from rfl), hcl, hp, hu, hk, decide_true]; rfl))) | (apply TailK.go; (focus (simp (maxSteps := 9999999) (disch := omega) only [go_sem, hr, hr2, g1, g2, g5, false_implies, (show Nat.beq 355 0 = false from rfl), hcl, hp, hu, hk, decide_true]; rfl))) | refine AWpA.skip ?_ | refine AWpA.exit ?_ | refine AWpA.ret ?_ | (with_reducible refine ARoundsA.succ ?_) | ((first | refine Runs.kt (by assumption) (fun h9 => ?_) | refine Runs.kf (by assumption) (fun h9 => ?_) | refine Runs.nt (by assumption) (fun h9 => ?_) | refine Runs.nf (by assumption) (fun h9 => ?_) | refine CondP.ht (by assumption) (fun h9 => ?_) | refine CondP.hf (by assumption) (fun h9 => ?_) | refine CondP.nt (by assumption) (fun h9 => ?_) | refine CondP.nf (by assumption) (fun h9 => ?_)); (try simp only [h9]); clear h9) | ((first | (with_reducible apply CallG.plain1 [0, 2] (hh)) | (with_reducible apply CallG.draw1 [0, 2] (hh))); (focus ((try refine And.intro (leAs_of_eq rfl) ?_); (try refine And.intro (leOL_of_eq rfl) ?_); simp (maxSteps := 9999999) (disch := omega) only [go_sem, hr, hr2, g1, g2, g5, false_implies, (show Nat.beq 355 0 = false from rfl), hcl, hp, hu, hk, decide_true]; first | done | (repeat' (first | rfl | (refine And.intro ?_ ?_))))); (focus (simp (maxSteps := 9999999) (disch := omega) only [go_sem, hr, hr2, g1, g2, g5, false_implies, (show Nat.beq 355 0 = false from rfl), hcl, hp, hu, hk, decide_true]; rfl)))); (try simp (maxSteps := 9999999) (disch := omega) only [go_sem, hr, hr2, g1, g2, g5, false_implies, (show Nat.beq 355 0 = false from rfl), hcl, hp, hu, hk, decide_true]); (try (refine And.intro ?_ ?_; (focus (first | omega | (simp only [go_sem]; done) | (simp; done) | (simp; omega) | assumption))))) | ((first | refine CondP.split (fun hif => ?_) (fun hif => ?_) | refine Runs.part (fun hif => ?_) (fun hif => ?_)) <;> ((try simp only [hif]); (try simp only [decide_eq_true_eq, decide_eq_false_iff_not, Bool.not_eq_true, Bool.not_eq_false, Bool.not_eq_true', Bool.not_eq_false', beq_iff_eq, bne_iff_ne, bne_eq_false_iff_eq, beq_eq_false_iff_ne, ne_eq, Bool.and_eq_true, Bool.or_eq_true, Bool.or_eq_false_iff] at hif); (try (have h9 : _ = true := hif; simp only [h9])); (try (have h9 : _ = false := hif; simp only [h9])); (try simp (maxSteps := 9999999) (disch := omega) only [go_sem, hr, hr2, g1, g2, g5, false_implies, (show Nat.beq 355 0 = false from rfl), hcl, hp, hu, hk, decide_true]); (try (refine And.intro ?_ ?_; (focus (first | omega | (simp only [go_sem]; done) | (simp; done) | (simp; omega) | assumption)))); (try (exfalso; omega; done))))))
  (apply Ret.det [0, 1, 2]; (focus (first | exact .inl rfl | exact .inr rfl)); (focus (simp (maxSteps := 9999999) (disch := omega) only [go_sem, hr, hr2, hr3, hr4, hll]; rfl)); (simp (maxSteps := 9999999) (disch := omega) only [go_sem, hr, hr2, hr3, hr4, hll]; (try (repeat' (first | done | trivial | rfl | exact leAs_rfl _ | decide | (refine And.intro ?_ ?_) | (simp; done) | omega | (simp; decide))))))
theorem sadd_wrap {s : Sn} (hok : s.ok) (m : Mk) (h : m ∉ s.mp) (hl : ¬ s.ring.length < s.room) : ACall Try.prog 27 [.ptr 0 0, MkG m] [SnO 1 2 false s, .cells false (ringC s), .map false (EsM s.mp)] (Det (Bo true) [SnO 1 2 false (addS s m), .cells false (ringC (addS s m)), .map false (EsM (addS s m).mp)]) := by
  have hr := es_ren s.mp
  have hh := shas_any s m
  rw [decide_eq_false h] at hh
  have h1 := hok.r1
  have h2 := hok.len
  have h3 := hok.r2
  have hnx : s.nx < s.ring.length := by rcases hok.nx with h | h; omega; exact h.1
  have hadd : addS s m = { s with ring := s.ring.set s.nx m, nx := (s.nx + 1) % s.ring.length, mp := s.mp.erase s.ring[s.nx] ++ [m] } := by
    unfold addS
    rw [if_neg (fun e => h ((hok.mp m).2 e)), if_neg hl]
    simp [List.getD_eq_getElem?_getD, List.getElem?_eq_getElem hnx]
  have hf := ringC_full (s := s) (by omega)
  have hf2 := ringC_full (s := addS s m) (by rw [hadd]; simp only [List.length_set]; omega)
  have hat := rm_at 0 s.ring s.nx hnx
  simp only [Nat.zero_add] at hat
  have hset := rm_set s.ring s.nx hnx m (a := s.nx * 3) (b := s.nx * 3 + 3) rfl rfl
  rw [hf, hf2, hadd]
  simp only [List.length_set]
  have hu := upd_mk m (l := s.mp.erase s.ring[s.nx]) (fun e => h (List.mem_of_mem_erase e))
  have hd := del_mk s.ring[s.nx] s.mp
  have hr3 := es_ren (s.mp.erase s.ring[s.nx] ++ [m])
  have hr5 := es_ren (s.mp.erase s.ring[s.nx])
  have hk := key_mk m m
  have hk2 := key_mk s.ring[s.nx] s.ring[s.nx]
  have hcl := rm_len 0 s.ring
  have g1 : ((s.ring.length : Int) < (s.room : Int)) = False := eq_false (by omega)
  have g3 : ((s.nx : Int) + 1).tmod (s.ring.length : Int) = (((s.nx + 1) % s.ring.length : Nat) : Int) := by
    rw [Int.tmod_eq_emod_of_nonneg (by omega), show (s.nx : Int) + 1 = ((s.nx + 1 : Nat) : Int) by omega]
    first | exact (Int.natCast_emod _ _).symm | exact (Int.ofNat_emod _ _).symm | rfl
  have g4 : ((s.ring.length : Int) = 0) = False := eq_false (by omega)
  generalize hq : s.mp.erase s.ring[s.nx] = mp2 at *
  generalize s.ring[s.nx] = old at *
  refine ACall.startA c27_ok Try.func27 rfl Try.ntmps27 (by kernel_rfl) res27_ok rfl rfl rfl ?_; simp (maxSteps := 9999999) (disch := omega) only [go_sem]
  (repeat' (first | refine AWpA.seq ?_ | refine AWpA.block ?_ | (with_reducible refine CondP.tt ?_) | (with_reducible refine CondP.ff ?_) | refine AWpA.condv (by simp (maxSteps := 9999999) (disch := omega) only [go_sem, hr, g1, hcl, hu, hd, hk, hk2, hat, hset, g3, g4, hr5, false_implies, rm_ren, decide_true]; rfl) ?_ | ((first | (apply AWpA.region; (focus (simp (maxSteps := 9999999) (disch := omega) only [go_sem, hr, g1, hcl, hu, hd, hk, hk2, hat, hset, g3, g4, hr5, false_implies, rm_ren, decide_true]; rfl))) | (apply AWpA.draw [1, 2] [] follows; (focus (first | rfl | decide)); (focus (simp (maxSteps := 9999999) (disch := omega) only [go_sem, hr, g1, hcl, hu, hd, hk, hk2, hat, hset, g3, g4, hr5, false_implies, rm_ren, decide_true]; rfl)); (focus (simp (maxSteps := 9999999) (disch := omega) only [go_sem, hr, g1, hcl, hu, hd, hk, hk2, hat, hset, g3, g4, hr5, false_implies, rm_ren, decide_true]; first | done | trivial)); (focus (simp (maxSteps := 9999999) (disch := omega) only [go_sem, hr, g1, hcl, hu, hd, hk, hk2, hat, hset, g3, g4, hr5, false_implies, rm_ren, decide_true]; rfl))) | (apply TailK.go; (focus (simp (maxSteps := 9999999) (disch := omega) only [go_sem, hr, g1, hcl, hu, hd, hk, hk2, hat, hset, g3, g4, hr5, false_implies, rm_ren, decide_true]; rfl))) | refine AWpA.skip ?_ | refine AWpA.exit ?_ | refine AWpA.ret ?_ | (with_reducible refine ARoundsA.succ ?_) | ((first | refine Runs.kt (by assumption) (fun h9 => ?_) | refine Runs.kf (by assumption) (fun h9 => ?_) | refine Runs.nt (by assumption) (fun h9 => ?_) | refine Runs.nf (by assumption) (fun h9 => ?_) | refine CondP.ht (by assumption) (fun h9 => ?_) | refine CondP.hf (by assumption) (fun h9 => ?_) | refine CondP.nt (by assumption) (fun h9 => ?_) | refine CondP.nf (by assumption) (fun h9 => ?_)); (try simp only [h9]); clear h9) | ((first | (with_reducible apply CallG.plain1 [0, 2] (hh)) | (with_reducible apply CallG.draw1 [0, 2] (hh))); (focus ((try refine And.intro (leAs_of_eq rfl) ?_); (try refine And.intro (leOL_of_eq rfl) ?_); simp (maxSteps := 9999999) (disch := omega) only [go_sem, hr, g1, hcl, hu, hd, hk, hk2, hat, hset, g3, g4, hr5, false_implies, rm_ren, decide_true]; first | done | (repeat' (first | rfl | (refine And.intro ?_ ?_))))); (focus (simp (maxSteps := 9999999) (disch := omega) only [go_sem, hr, g1, hcl, hu, hd, hk, hk2, hat, hset, g3, g4, hr5, false_implies, rm_ren, decide_true]; rfl)))); (try simp (maxSteps := 9999999) (disch := omega) only [go_sem, hr, g1, hcl, hu, hd, hk, hk2, hat, hset, g3, g4, hr5, false_implies, rm_ren, decide_true]); (try (refine And.intro ?_ ?_; (focus (first | omega | (simp only [go_sem]; done) | (simp; done) | (simp; omega) | assumption))))) | ((first | refine CondP.split (fun hif => ?_) (fun hif => ?_) | refine Runs.part (fun hif => ?_) (fun hif => ?_)) <;> ((try simp only [hif]); (try simp only [decide_eq_true_eq, decide_eq_false_iff_not, Bool.not_eq_true, Bool.not_eq_false, Bool.not_eq_true', Bool.not_eq_false', beq_iff_eq, bne_iff_ne, bne_eq_false_iff_eq, beq_eq_false_iff_ne, ne_eq, Bool.and_eq_true, Bool.or_eq_true, Bool.or_eq_false_iff] at hif); (try (have h9 : _ = true := hif; simp only [h9])); (try (have h9 : _ = false := hif; simp only [h9])); (try simp (maxSteps := 9999999) (disch := omega) only [go_sem, hr, g1, hcl, hu, hd, hk, hk2, hat, hset, g3, g4, hr5, false_implies, rm_ren, decide_true]); (try (refine And.intro ?_ ?_; (focus (first | omega | (simp only [go_sem]; done) | (simp; done) | (simp; omega) | assumption)))); (try (exfalso; omega; done))))))
  (apply Ret.det [0, 1, 2]; (focus (first | exact .inl rfl | exact .inr rfl)); (focus (simp (maxSteps := 9999999) (disch := omega) only [go_sem, hr, hr3, rm_ren, List.length_set]; rfl)); (simp (maxSteps := 9999999) (disch := omega) only [go_sem, hr, hr3, rm_ren, List.length_set]; (try (repeat' (first | done | trivial | rfl | exact leAs_rfl _ | decide | (refine And.intro ?_ ?_) | (simp; done) | omega | (simp; decide))))))
theorem sall_any {s : Sn} (hok : s.ok) : ACall Try.prog 34 [.ptr 0 0] [SnO 1 2 true s, .cells true (ringC s), .map true (EsM s.mp)] (Det (.sl 3 0 (allS s).length 3 none) [SnO 1 2 true s, .cells true (ringC s), .map true (EsM s.mp), .cells false (Rm 0 (allS s))]) := by
  have hr := es_ren s.mp
  have hr2 := ringC_ren s
  have hcl := ringC_len hok
  have h1 := hok.r1
  have h2 := hok.len
  have h3 := hok.r2
  have hle : s.nx ≤ s.ring.length := by rcases hok.nx with h | h <;> omega
  have hal := allS_len s
  rw [hal]
  have ht1 : (ringC s).take (s.nx * 3) = Rm 0 (s.ring.take s.nx) := by
    have e : ringC s = Rm 0 (s.ring.take s.nx) ++ (Rm 0 (s.ring.drop s.nx) ++ zmk (s.room - s.ring.length)) := by
      unfold ringC
      rw [← List.append_assoc, ← rm_app, List.take_append_drop]
    have hl := rm_len 0 (s.ring.take s.nx)
    rw [List.length_take, Nat.min_eq_left hle] at hl
    rw [e, List.take_append_of_le_length (by omega), List.take_of_length_le (by omega)]
  have ht2 : ((ringC s).drop (s.nx * 3)).take ((s.ring.length - s.nx) * 3) = Rm 0 (s.ring.drop s.nx) := by
    have e : ringC s = Rm 0 (s.ring.take s.nx) ++ (Rm 0 (s.ring.drop s.nx) ++ zmk (s.room - s.ring.length)) := by
      unfold ringC
      rw [← List.append_assoc, ← rm_app, List.take_append_drop]
    have hl := rm_len 0 (s.ring.take s.nx)
    rw [List.length_take, Nat.min_eq_left hle] at hl
    have hl2 := rm_len 0 (s.ring.drop s.nx)
    rw [List.length_drop] at hl2
    rw [e, show s.nx * 3 = (Rm 0 (s.ring.take s.nx)).length by omega, List.drop_left, List.take_append_of_le_length (by omega), List.take_of_length_le (by omega)]
  have hall : Rm 0 (allS s) = Rm 0 (s.ring.drop s.nx) ++ Rm 0 (s.ring.take s.nx) := by unfold allS; rw [rm_app]
  have hn1 := rm_noAny (s.ring.drop s.nx)
  have hn2 := rm_noAny (s.ring.take s.nx)
  have hdl := rm_len 0 (s.ring.drop s.nx)
  rw [List.length_drop] at hdl
  have hta := rm_all (s.ring.drop s.nx) (n := (s.ring.length - s.nx) * 3) (by rw [List.length_drop])
  have hsum : s.ring.length - s.nx + s.nx = s.ring.length := by omega
  refine ACall.startA c34_ok Try.func34 rfl Try.ntmps34 (by kernel_rfl) res34_ok rfl rfl rfl ?_; simp (maxSteps := 9999999) (disch := omega) only [go_sem]
  (repeat' (first | refine AWpA.seq ?_ | refine AWpA.block ?_ | (with_reducible refine CondP.tt ?_) | (with_reducible refine CondP.ff ?_) | refine AWpA.condv (by simp (maxSteps := 9999999) (disch := omega) only [go_sem, hr, hr2, hcl, ht1, ht2, hta, hdl, hn1, hn2, hsum, forall_const]; rfl) ?_ | ((first | (apply AWpA.region; (focus (simp (maxSteps := 9999999) (disch := omega) only [go_sem, hr, hr2, hcl, ht1, ht2, hta, hdl, hn1, hn2, hsum, forall_const]; rfl))) | (apply AWpA.draw [] [] follows; (focus (first | rfl | decide)); (focus (simp (maxSteps := 9999999) (disch := omega) only [go_sem, hr, hr2, hcl, ht1, ht2, hta, hdl, hn1, hn2, hsum, forall_const]; rfl)); (focus (simp (maxSteps := 9999999) (disch := omega) only [go_sem, hr, hr2, hcl, ht1, ht2, hta, hdl, hn1, hn2, hsum, forall_const]; first | done | trivial)); (focus (simp (maxSteps := 9999999) (disch := omega) only [go_sem, hr, hr2, hcl, ht1, ht2, hta, hdl, hn1, hn2, hsum, forall_const]; rfl))) | (apply TailK.go; (focus (simp (maxSteps := 9999999) (disch := omega) only [go_sem, hr, hr2, hcl, ht1, ht2, hta, hdl, hn1, hn2, hsum, forall_const]; rfl))) | refine AWpA.skip ?_ | refine AWpA.exit ?_ | refine AWpA.ret ?_ | (with_reducible refine ARoundsA.succ ?_) | ((first | refine Runs.kt (by assumption) (fun h9 => ?_) | refine Runs.kf (by assumption) (fun h9 => ?_) | refine Runs.nt (by assumption) (fun h9 => ?_) | refine Runs.nf (by assumption) (fun h9 => ?_) | refine CondP.ht (by assumption) (fun h9 => ?_) | refine CondP.hf (by assumption) (fun h9 => ?_) | refine CondP.nt (by assumption) (fun h9 => ?_) | refine CondP.nf (by assumption) (fun h9 => ?_)); (try simp only [h9]); clear h9)); (try simp (maxSteps := 9999999) (disch := omega) only [go_sem, hr, hr2, hcl, ht1, ht2, hta, hdl, hn1, hn2, hsum, forall_const]); (try (refine And.intro ?_ ?_; (focus (first | omega | (simp only [go_sem]; done) | (simp; done) | (simp; omega) | assumption))))) | ((first | refine CondP.split (fun hif => ?_) (fun hif => ?_) | refine Runs.part (fun hif => ?_) (fun hif => ?_)) <;> ((try simp only [hif]); (try simp only [decide_eq_true_eq, decide_eq_false_iff_not, Bool.not_eq_true, Bool.not_eq_false, Bool.not_eq_true', Bool.not_eq_false', beq_iff_eq, bne_iff_ne, bne_eq_false_iff_eq, beq_eq_false_iff_ne, ne_eq, Bool.and_eq_true, Bool.or_eq_true, Bool.or_eq_false_iff] at hif); (try (have h9 : _ = true := hif; simp only [h9])); (try (have h9 : _ = false := hif; simp only [h9])); (try simp (maxSteps := 9999999) (disch := omega) only [go_sem, hr, hr2, hcl, ht1, ht2, hta, hdl, hn1, hn2, hsum, forall_const]); (try (refine And.intro ?_ ?_; (focus (first | omega | (simp only [go_sem]; done) | (simp; done) | (simp; omega) | assumption)))); (try (exfalso; omega; done))))))
  (apply Ret.det [0, 1, 2, 323]; (focus (first | exact .inl rfl | exact .inr rfl)); (focus (simp (maxSteps := 9999999) (disch := omega) only [go_sem, hr, hr2, hall, renL_append, rm_ren]; rfl)); (simp (maxSteps := 9999999) (disch := omega) only [go_sem, hr, hr2, hall, renL_append, rm_ren]; (try (repeat' (first | done | trivial | rfl | exact leAs_rfl _ | decide | (refine And.intro ?_ ?_) | (simp; done) | omega | (simp; decide))))))
end Go.Proofs.Ytjcjmeeajkdlhaa
