/- Contracts: entries that are read. -/
import Derived.Test.YteggjhihpjjloaaAo12
import Derived.Test.YteggjhihpjjloaaAc10
namespace Go.Proofs.Yteggjhihpjjloaa
set_option linter.unusedSimpArgs false
set_option linter.unusedVariables false
set_option maxHeartbeats 4000000
open Go Go.Am Go.RowKit Go.ChangeShapes Go.WideShapes Go.ChangeAt
set_option maxRecDepth 100000
theorem numV_lt {L : List Int} (hb : bytesB L) (w : Int) (c : Cu) : 0 ≤ numV L w c ∧ numV L w c < 256 ^ w.toNat := by
  unfold numV
  cases hw : wideB w with
  | false => exact ⟨Int.le_refl _, Int.pow_pos (by decide)⟩
  | true =>
    have h := valI_lt (l := rawV L w c) (rawL_bytes hb)
    have h8 := wideB_yes hw
    have hl : (rawV L w c).length ≤ w.toNat := by
      unfold rawV rawL
      cases rawOk c.e w (c.left L) <;> simp
      omega
    refine ⟨h.1, Int.lt_of_lt_of_le h.2 ?_⟩
    have h2 := Int.ofNat_le.2 (Nat.pow_le_pow_right (n := 256) (by decide) hl)
    simpa [Int.natCast_pow] using h2
def en1 (L : List Int) (c : Cu) : Cu := textC L 16 c
def en2 (L : List Int) (c : Cu) : Cu := flagC L (en1 L c)
def en3 (L : List Int) (c : Cu) : Cu := textC L 32 (en2 L c)
def en4 (L : List Int) (c : Cu) : Cu := numC L 4 (en3 L c)
def en5 (L : List Int) (c : Cu) : Cu := numC L 1 (en4 L c)
def en6 (L : List Int) (c : Cu) : Cu := numC L 4 (en5 L c)
def en7 (L : List Int) (c : Cu) : Cu := numC L 1 (en6 L c)
def en8 (L : List Int) (c : Cu) : Cu := numC L 2 (en7 L c)
def en9 (L : List Int) (c : Cu) : Cu := numC L 4 (en8 L c)
/-- The entry of what is read, before it is looked at. -/
def enE (L : List Int) (c : Cu) : En := ⟨textV L 16 c, textV L 32 (en2 L c), flagV L (en1 L c), ⟨numV L 4 (en3 L c), numV L 1 (en4 L c)⟩, ⟨numV L 4 (en5 L c), numV L 1 (en6 L c)⟩, numV L 2 (en7 L c), numV L 4 (en8 L c)⟩
def enC (L : List Int) (c : Cu) : Cu := ⟨(en9 L c).a, if checkI (enE L c) = 0 then (en9 L c).e else failI (en9 L c).e 4⟩
def enV (L : List Int) (c : Cu) : En := if (enC L c).e = 0 then enE L c else noEn
theorem en_le {L : List Int} {c : Cu} (hb : bytesB L) (h : c.a ≤ L.length) : (en1 L c).a ≤ L.length ∧ (en2 L c).a ≤ L.length ∧ (en3 L c).a ≤ L.length ∧ (en4 L c).a ≤ L.length ∧ (en5 L c).a ≤ L.length ∧ (en6 L c).a ≤ L.length ∧ (en7 L c).a ≤ L.length ∧ (en8 L c).a ≤ L.length ∧ (en9 L c).a ≤ L.length := by
  have h1 : (en1 L c).a ≤ L.length := textC_le hb h
  have h2 : (en2 L c).a ≤ L.length := flagC_le h1
  have h3 : (en3 L c).a ≤ L.length := textC_le hb h2
  have h4 : (en4 L c).a ≤ L.length := numC_le h3
  have h5 : (en5 L c).a ≤ L.length := numC_le h4
  have h6 : (en6 L c).a ≤ L.length := numC_le h5
  have h7 : (en7 L c).a ≤ L.length := numC_le h6
  have h8 : (en8 L c).a ≤ L.length := numC_le h7
  have h9 : (en9 L c).a ≤ L.length := numC_le h8
  exact ⟨h1, h2, h3, h4, h5, h6, h7, h8, h9⟩
theorem en_cases (L : List Int) (c : Cu) : ((en9 L c).e = 0 ∧ checkI (enE L c) = 0 ∧ enC L c = en9 L c ∧ enV L c = enE L c) ∨ ((en9 L c).e ≠ 0 ∧ checkI (enE L c) = 0 ∧ enC L c = en9 L c ∧ enV L c = noEn) ∨ ((en9 L c).e = 0 ∧ checkI (enE L c) ≠ 0 ∧ enC L c = ⟨(en9 L c).a, 4⟩ ∧ enV L c = noEn) ∨ ((en9 L c).e ≠ 0 ∧ checkI (enE L c) ≠ 0 ∧ enC L c = en9 L c ∧ enV L c = noEn) := by
  by_cases h1 : (en9 L c).e = 0 <;> by_cases h2 : checkI (enE L c) = 0
  · have e : enC L c = en9 L c := by simp [enC, h2]
    exact .inl ⟨h1, h2, e, by simp [enV, e, h1]⟩
  · have e : enC L c = ⟨(en9 L c).a, 4⟩ := by simp [enC, h2, h1, failI]
    exact .inr (.inr (.inl ⟨h1, h2, e, by simp [enV, e]⟩))
  · have e : enC L c = en9 L c := by simp [enC, h2]
    exact .inr (.inl ⟨h1, h2, e, by simp [enV, e, h1]⟩)
  · have e : enC L c = en9 L c := by simp [enC, h2, h1, failI]
    exact .inr (.inr (.inr ⟨h1, h2, e, by simp [enV, e, h1]⟩))
/- quidnunc/entry.Take -/
noncomputable def c75_1 : ACode := .region false [⟨some 2, .alloc [(.string ⟨#[]⟩), (.string ⟨#[]⟩), (.bool false), (.int .i64 0), (.int .i64 0), (.int .i64 0), (.int .i64 0), (.int .i64 0), (.int .i64 0)], [], none⟩] [] [] [0, 2] true [] []
noncomputable def c75_3 : ACode := .region false [⟨some 3, .alloc [(.string ⟨#[]⟩), (.string ⟨#[]⟩), (.bool false), (.int .i64 0), (.int .i64 0), (.int .i64 0), (.int .i64 0), (.int .i64 0), (.int .i64 0)], [], none⟩] [] [] [0, 2, 3] true [] []
noncomputable def c75_5 : ACode := .region false [⟨some 6, .move, [.t 0], none⟩,
  ⟨some 7, .call 66, [.t 6, .c (.val (.int .i64 16))], none⟩,
  ⟨some 8, .addr 0, [.t 3], none⟩,
  ⟨none, .store 1, [.t 8, .t 7], none⟩] [] [] [0, 2, 3] true [] []
noncomputable def c75_7 : ACode := .region false [⟨some 9, .move, [.t 0], none⟩,
  ⟨some 10, .call 64, [.t 9], none⟩,
  ⟨some 11, .addr 2, [.t 3], none⟩,
  ⟨none, .store 1, [.t 11, .t 10], none⟩] [] [] [0, 2, 3] true [] []
noncomputable def c75_9 : ACode := .region false [⟨some 12, .move, [.t 0], none⟩,
  ⟨some 13, .call 66, [.t 12, .c (.val (.int .i64 32))], none⟩,
  ⟨some 14, .addr 1, [.t 3], none⟩,
  ⟨none, .store 1, [.t 14, .t 13], none⟩] [] [] [0, 2, 3] true [] []
noncomputable def c75_12 : ACode := .region false [⟨some 15, .addr 3, [.t 3], none⟩,
  ⟨some 16, .addr 5, [.t 3], none⟩,
  ⟨some 17, .build [(.pointer none), (.pointer none)] [(0, 1), (1, 1)], [.t 15, .t 16], none⟩,
  ⟨some 18, .move, [.c (.val (.int .i64 0))], none⟩] [] [] [0, 2, 3, 17, 18] false [] []
noncomputable def c75_16 : ACode := .region false [⟨some 19, .bin .lss, [.t 18, .c (.val (.int .i64 2))], none⟩] [] [] [0, 2, 3, 17, 18, 19] false [] []
noncomputable def c75_18 : ACode := .cond (.t 19) .skip (.exit 0)
noncomputable def c75_22 : ACode := .region false [⟨some 20, .ixV false 2 1, [.t 17, .t 18], none⟩,
  ⟨some 5, .move, [.t 20], none⟩] [] [] [0, 2, 3, 5, 17, 18] false [] []
noncomputable def c75_24 : ACode := .region false [⟨some 21, .move, [.t 5], none⟩,
  ⟨some 22, .move, [.t 0], none⟩,
  ⟨some 23, .call 62, [.t 22, .c (.val (.int .i64 4))], none⟩,
  ⟨some 24, .conv .i64, [.t 23], none⟩,
  ⟨some 25, .nilChk, [.t 21], none⟩,
  ⟨some 26, .addr 0, [.t 25], none⟩,
  ⟨none, .store 1, [.t 26, .t 24], none⟩] [] [] [0, 2, 3, 5, 17, 18] true [] []
noncomputable def c75_25 : ACode := .region false [⟨some 27, .move, [.t 5], none⟩,
  ⟨some 28, .move, [.t 0], none⟩,
  ⟨some 29, .call 62, [.t 28, .c (.val (.int .i64 1))], none⟩,
  ⟨some 30, .conv .i64, [.t 29], none⟩,
  ⟨some 31, .nilChk, [.t 27], none⟩,
  ⟨some 32, .addr 1, [.t 31], none⟩,
  ⟨none, .store 1, [.t 32, .t 30], none⟩] [] [] [0, 2, 3, 17, 18] true [] []
noncomputable def c75_23 : ACode := .seq c75_24 c75_25
noncomputable def c75_21 : ACode := .seq c75_22 c75_23
noncomputable def c75_20 : ACode := .block 1 c75_21
noncomputable def c75_26 : ACode := .region false [⟨some 33, .bin .add, [.t 18, .c (.val (.int .i64 1))], none⟩,
  ⟨some 18, .move, [.t 33], none⟩] [] [] [0, 2, 3, 17, 18] false [] []
noncomputable def c75_19 : ACode := .seq c75_20 c75_26
noncomputable def c75_17 : ACode := .seq c75_18 c75_19
noncomputable def c75_15 : ACode := .seq c75_16 c75_17
noncomputable def c75_14 : ACode := .loop c75_15
noncomputable def c75_13 : ACode := .block 0 c75_14
noncomputable def c75_11 : ACode := .seq c75_12 c75_13
noncomputable def c75_28 : ACode := .region false [⟨some 34, .move, [.t 0], none⟩,
  ⟨some 35, .call 62, [.t 34, .c (.val (.int .i64 2))], none⟩,
  ⟨some 36, .conv .i64, [.t 35], none⟩,
  ⟨some 37, .addr 7, [.t 3], none⟩,
  ⟨none, .store 1, [.t 37, .t 36], none⟩] [] [] [0, 2, 3] true [] []
noncomputable def c75_30 : ACode := .region false [⟨some 38, .move, [.t 0], none⟩,
  ⟨some 39, .call 62, [.t 38, .c (.val (.int .i64 4))], none⟩,
  ⟨some 40, .conv .i64, [.t 39], none⟩,
  ⟨some 41, .addr 8, [.t 3], none⟩,
  ⟨none, .store 1, [.t 41, .t 40], none⟩] [] [] [0, 2, 3] true [] []
noncomputable def c75_33 : ACode := .region false [⟨some 42, .load true 9, [.t 3], none⟩,
  ⟨some 43, .call 78, [.t 42], none⟩,
  ⟨some 44, .bin .neq, [.t 43, .c (.val (.int .i64 0))], none⟩] [] [] [0, 2, 3, 44] true [] []
noncomputable def c75_35 : ACode := .region false [⟨some 45, .move, [.t 0], none⟩,
  ⟨some 46, .nilChk, [.t 45], none⟩,
  ⟨some 47, .addr 0, [.t 46], none⟩,
  ⟨some 48, .call 68, [.t 47, .c (.val (.int .i64 4))], none⟩] [] [] [0, 2, 3] true [] []
noncomputable def c75_34 : ACode := .cond (.t 44) c75_35 .skip
noncomputable def c75_32 : ACode := .seq c75_33 c75_34
noncomputable def c75_38 : ACode := .region false [⟨some 49, .move, [.t 0], none⟩,
  ⟨some 50, .nilChk, [.t 49], none⟩,
  ⟨some 51, .addr 0, [.t 50], none⟩,
  ⟨some 52, .call 71, [.t 51], none⟩,
  ⟨some 53, .bin .neq, [.t 52, .c (.val (.int .i64 0))], none⟩] [] [] [2, 3, 53] true [] []
noncomputable def c75_41 : ACode := .region false [⟨some 54, .build [(.string ⟨#[]⟩), (.string ⟨#[]⟩), (.bool false), (.int .i64 0), (.int .i64 0), (.int .i64 0), (.int .i64 0), (.int .i64 0), (.int .i64 0)] [], [], none⟩,
  ⟨none, .store 9, [.t 2, .t 54], none⟩] [] [] [2] true [] []
noncomputable def c75_40 : ACode := .seq c75_41 .ret
noncomputable def c75_39 : ACode := .cond (.t 53) c75_40 .skip
noncomputable def c75_37 : ACode := .seq c75_38 c75_39
noncomputable def c75_43 : ACode := .region false [⟨some 55, .load true 9, [.t 3], none⟩,
  ⟨none, .store 9, [.t 2, .t 55], none⟩] [] [] [2] true [] []
noncomputable def c75_42 : ACode := .seq c75_43 .ret
noncomputable def c75_36 : ACode := .seq c75_37 c75_42
noncomputable def c75_31 : ACode := .seq c75_32 c75_36
noncomputable def c75_29 : ACode := .seq c75_30 c75_31
noncomputable def c75_27 : ACode := .seq c75_28 c75_29
noncomputable def c75_10 : ACode := .seq c75_11 c75_27
noncomputable def c75_8 : ACode := .seq c75_9 c75_10
noncomputable def c75_6 : ACode := .seq c75_7 c75_8
noncomputable def c75_4 : ACode := .seq c75_5 c75_6
noncomputable def c75_2 : ACode := .seq c75_3 c75_4
noncomputable def c75_0 : ACode := .seq c75_1 c75_2
noncomputable def code75 : Code := (Try.f75.body).getD .skip
theorem c75_ok : compC Try.prog 56 code75 = some (strip c75_0) := by kernel_rfl
theorem res75_ok : Try.f75.results.toList.mapM (resC Try.prog) = some [(2, some (true, 9))] := by kernel_rfl
/- quidnunc/quidnuncref05.Take -/
noncomputable def c76_1 : ACode := .region false [⟨some 1, .box 0, [.t 0], none⟩,
  ⟨some 2, .alloc [(.slice none 0 0), (.int .i64 0), (.int .i64 0)], [], none⟩,
  ⟨some 3, .alloc [(.string ⟨#[]⟩), (.string ⟨#[]⟩), (.bool false), (.int .i64 0), (.int .i64 0), (.int .i64 0), (.int .i64 0), (.int .i64 0), (.int .i64 0)], [], none⟩] [] [] [1, 2, 3] true [] []
noncomputable def c76_3 : ACode := .region false [⟨some 10, .build [(.string ⟨#[]⟩), (.string ⟨#[]⟩), (.bool false), (.int .i64 0), (.int .i64 0), (.int .i64 0), (.int .i64 0), (.int .i64 0), (.int .i64 0)] [], [], none⟩,
  ⟨some 4, .alloc [(.string ⟨#[]⟩), (.string ⟨#[]⟩), (.bool false), (.int .i64 0), (.int .i64 0), (.int .i64 0), (.int .i64 0), (.int .i64 0), (.int .i64 0)], [], none⟩,
  ⟨none, .store 9, [.t 4, .t 10], none⟩] [] [] [1, 2, 3, 4] true [] []
noncomputable def c76_5 : ACode := .region false [⟨some 12, .load true 3, [.t 1], none⟩,
  ⟨some 13, .call 65, [.t 12, .c (.val (.int .i64 16))], none⟩,
  ⟨some 11, .move, [.t 13], none⟩,
  ⟨some 14, .ext 0, [.t 11], none⟩,
  ⟨some 15, .ext 1, [.t 11], none⟩,
  ⟨none, .store 3, [.t 1, .t 14], none⟩,
  ⟨some 16, .addr 0, [.t 4], none⟩,
  ⟨none, .store 1, [.t 16, .t 15], none⟩] [] [] [1, 2, 3, 4] true [] []
noncomputable def c76_7 : ACode := .region false [⟨some 18, .load true 3, [.t 1], none⟩,
  ⟨some 19, .call 63, [.t 18], none⟩,
  ⟨some 17, .move, [.t 19], none⟩,
  ⟨some 20, .ext 0, [.t 17], none⟩,
  ⟨some 21, .ext 1, [.t 17], none⟩,
  ⟨none, .store 3, [.t 1, .t 20], none⟩,
  ⟨some 22, .addr 2, [.t 4], none⟩,
  ⟨none, .store 1, [.t 22, .t 21], none⟩] [] [] [1, 2, 3, 4] true [] []
noncomputable def c76_9 : ACode := .region false [⟨some 24, .load true 3, [.t 1], none⟩,
  ⟨some 25, .call 65, [.t 24, .c (.val (.int .i64 32))], none⟩,
  ⟨some 23, .move, [.t 25], none⟩,
  ⟨some 26, .ext 0, [.t 23], none⟩,
  ⟨some 27, .ext 1, [.t 23], none⟩,
  ⟨none, .store 3, [.t 1, .t 26], none⟩,
  ⟨some 28, .addr 1, [.t 4], none⟩,
  ⟨none, .store 1, [.t 28, .t 27], none⟩] [] [] [1, 2, 3, 4] true [] []
noncomputable def c76_11 : ACode := .region false [⟨some 29, .build [(.int .u64 0), (.int .u64 0), (.int .u64 0), (.int .u64 0), (.int .u64 0), (.int .u64 0)] [], [], none⟩,
  ⟨some 5, .alloc [(.int .u64 0), (.int .u64 0), (.int .u64 0), (.int .u64 0), (.int .u64 0), (.int .u64 0)], [], none⟩,
  ⟨none, .store 6, [.t 5, .t 29], none⟩] [] [] [1, 2, 3, 4, 5] true [] []
noncomputable def c76_13 : ACode := .region false [⟨some 30, .build [(.int .i64 0), (.int .i64 0), (.int .i64 0), (.int .i64 0), (.int .i64 0), (.int .i64 0)] [(0, 1), (1, 1), (2, 1), (3, 1), (4, 1), (5, 1)], [.c (.val (.int .i64 4)), .c (.val (.int .i64 1)), .c (.val (.int .i64 4)), .c (.val (.int .i64 1)), .c (.val (.int .i64 2)), .c (.val (.int .i64 4))], none⟩,
  ⟨some 6, .alloc [(.int .i64 0), (.int .i64 0), (.int .i64 0), (.int .i64 0), (.int .i64 0), (.int .i64 0)], [], none⟩,
  ⟨none, .store 6, [.t 6, .t 30], none⟩] [] [] [1, 2, 3, 4, 5, 6] true [] []
noncomputable def c76_16 : ACode := .region false [⟨some 7, .move, [.c (.val (.int .i64 0))], none⟩] [] [] [1, 2, 3, 4, 5, 6, 7] false [] []
noncomputable def c76_21 : ACode := .region false [⟨some 31, .move, [.t 7], none⟩,
  ⟨some 32, .bin .lss, [.t 31, .c (.val (.int .i64 6))], none⟩] [] [] [1, 2, 3, 4, 5, 6, 7, 32] false [] []
noncomputable def c76_22 : ACode := .cond (.t 32) .skip (.exit 0)
noncomputable def c76_20 : ACode := .seq c76_21 c76_22
noncomputable def c76_26 : ACode := .region true [⟨some 36, .load true 3, [.t 1], none⟩,
  ⟨some 37, .move, [.t 7], none⟩,
  ⟨some 38, .ixA 6 1, [.t 6, .t 37], none⟩,
  ⟨some 39, .load false 1, [.t 38], none⟩,
  ⟨some 40, .call 61, [.t 36, .t 39], none⟩,
  ⟨some 35, .move, [.t 40], none⟩,
  ⟨some 41, .ext 0, [.t 35], none⟩,
  ⟨some 42, .ext 1, [.t 35], none⟩,
  ⟨some 8, .alloc [(.slice none 0 0), (.int .i64 0), (.int .i64 0)], [], none⟩,
  ⟨none, .store 3, [.t 8, .t 41], none⟩,
  ⟨some 9, .move, [.t 42], none⟩] [] [(4, 8)] [1, 2, 3, 4, 5, 6, 7, 8, 9] true [] []
noncomputable def c76_28 : ACode := .region false [⟨some 43, .load true 3, [.t 8], none⟩,
  ⟨none, .store 3, [.t 1, .t 43], none⟩] [] [] [1, 2, 3, 4, 5, 6, 7, 9] true [] []
noncomputable def c76_29 : ACode := .region false [⟨some 44, .move, [.t 7], none⟩,
  ⟨some 45, .move, [.t 9], none⟩,
  ⟨some 46, .ixA 6 1, [.t 5, .t 44], none⟩,
  ⟨none, .store 1, [.t 46, .t 45], none⟩] [] [] [1, 2, 3, 4, 5, 6, 7] true [] []
noncomputable def c76_27 : ACode := .seq c76_28 c76_29
noncomputable def c76_25 : ACode := .seq c76_26 c76_27
noncomputable def c76_24 : ACode := .block 1 c76_25
noncomputable def c76_30 : ACode := .region false [⟨some 33, .move, [.t 7], none⟩,
  ⟨some 34, .bin .add, [.t 33, .c (.val (.int .i64 1))], none⟩,
  ⟨some 7, .move, [.t 34], none⟩] [] [] [1, 2, 3, 4, 5, 6, 7] false [] []
noncomputable def c76_23 : ACode := .seq c76_24 c76_30
noncomputable def c76_19 : ACode := .seq c76_20 c76_23
noncomputable def c76_18 : ACode := .loop c76_19
noncomputable def c76_17 : ACode := .block 0 c76_18
noncomputable def c76_15 : ACode := .seq c76_16 c76_17
noncomputable def c76_32 : ACode := .region false [⟨some 47, .ixA 6 1, [.t 5, .c (.val (.int .i64 0))], none⟩,
  ⟨some 48, .load false 1, [.t 47], none⟩,
  ⟨some 49, .conv .i64, [.t 48], none⟩,
  ⟨some 50, .ixA 6 1, [.t 5, .c (.val (.int .i64 1))], none⟩,
  ⟨some 51, .load false 1, [.t 50], none⟩,
  ⟨some 52, .conv .i64, [.t 51], none⟩,
  ⟨some 53, .build [(.int .i64 0), (.int .i64 0)] [(0, 1), (1, 1)], [.t 49, .t 52], none⟩,
  ⟨some 54, .addr 3, [.t 4], none⟩,
  ⟨none, .store 2, [.t 54, .t 53], none⟩] [] [] [1, 2, 3, 4, 5] true [] []
noncomputable def c76_34 : ACode := .region false [⟨some 55, .ixA 6 1, [.t 5, .c (.val (.int .i64 2))], none⟩,
  ⟨some 56, .load false 1, [.t 55], none⟩,
  ⟨some 57, .conv .i64, [.t 56], none⟩,
  ⟨some 58, .ixA 6 1, [.t 5, .c (.val (.int .i64 3))], none⟩,
  ⟨some 59, .load false 1, [.t 58], none⟩,
  ⟨some 60, .conv .i64, [.t 59], none⟩,
  ⟨some 61, .build [(.int .i64 0), (.int .i64 0)] [(0, 1), (1, 1)], [.t 57, .t 60], none⟩,
  ⟨some 62, .addr 5, [.t 4], none⟩,
  ⟨none, .store 2, [.t 62, .t 61], none⟩] [] [] [1, 2, 3, 4, 5] true [] []
noncomputable def c76_36 : ACode := .region false [⟨some 63, .ixA 6 1, [.t 5, .c (.val (.int .i64 4))], none⟩,
  ⟨some 64, .load false 1, [.t 63], none⟩,
  ⟨some 65, .conv .i64, [.t 64], none⟩,
  ⟨some 66, .addr 7, [.t 4], none⟩,
  ⟨none, .store 1, [.t 66, .t 65], none⟩] [] [] [1, 2, 3, 4, 5] true [] []
noncomputable def c76_38 : ACode := .region false [⟨some 67, .ixA 6 1, [.t 5, .c (.val (.int .i64 5))], none⟩,
  ⟨some 68, .load false 1, [.t 67], none⟩,
  ⟨some 69, .conv .i64, [.t 68], none⟩,
  ⟨some 70, .addr 8, [.t 4], none⟩,
  ⟨none, .store 1, [.t 70, .t 69], none⟩] [] [] [1, 2, 3, 4] true [] []
noncomputable def c76_41 : ACode := .region false [⟨some 71, .addr 2, [.t 1], none⟩,
  ⟨some 72, .load false 1, [.t 71], none⟩,
  ⟨some 73, .bin .eql, [.t 72, .c (.val (.int .i64 0))], none⟩,
  ⟨some 74, .move, [.t 73], none⟩,
  ⟨some 75, .load true 9, [.t 4], some (some 74, true)⟩,
  ⟨some 76, .call 49, [.t 75], some (some 74, true)⟩,
  ⟨some 77, .bin .neq, [.t 76, .c (.val (.int .i64 0))], some (some 74, true)⟩,
  ⟨some 78, .pick, [.t 74, .t 77, .c (.val (.bool false))], none⟩] [] [] [1, 2, 3, 4, 78] true [] []
noncomputable def c76_43 : ACode := .region false [⟨some 79, .addr 2, [.t 1], none⟩,
  ⟨none, .store 1, [.t 79, .c (.val (.int .i64 4))], none⟩] [] [] [1, 2, 3, 4] true [] []
noncomputable def c76_42 : ACode := .cond (.t 78) c76_43 .skip
noncomputable def c76_40 : ACode := .seq c76_41 c76_42
noncomputable def c76_46 : ACode := .region false [⟨some 80, .addr 2, [.t 1], none⟩,
  ⟨some 81, .load false 1, [.t 80], none⟩,
  ⟨some 82, .bin .neq, [.t 81, .c (.val (.int .i64 0))], none⟩] [] [] [1, 2, 3, 4, 82] false [] []
noncomputable def c76_49 : ACode := .region false [⟨some 83, .load true 3, [.t 1], none⟩,
  ⟨some 84, .build [(.string ⟨#[]⟩), (.string ⟨#[]⟩), (.bool false), (.int .i64 0), (.int .i64 0), (.int .i64 0), (.int .i64 0), (.int .i64 0), (.int .i64 0)] [], [], none⟩,
  ⟨none, .store 3, [.t 2, .t 83], none⟩,
  ⟨none, .store 9, [.t 3, .t 84], none⟩] [] [] [2, 3] true [] []
noncomputable def c76_48 : ACode := .seq c76_49 .ret
noncomputable def c76_47 : ACode := .cond (.t 82) c76_48 .skip
noncomputable def c76_45 : ACode := .seq c76_46 c76_47
noncomputable def c76_51 : ACode := .region true [⟨some 85, .load true 3, [.t 1], none⟩,
  ⟨some 86, .load true 9, [.t 4], none⟩,
  ⟨none, .store 3, [.t 2, .t 85], none⟩,
  ⟨none, .store 9, [.t 3, .t 86], none⟩] [] [] [2, 3] true [2, 3] []
noncomputable def c76_50 : ACode := .seq c76_51 .ret
noncomputable def c76_44 : ACode := .seq c76_45 c76_50
noncomputable def c76_39 : ACode := .seq c76_40 c76_44
noncomputable def c76_37 : ACode := .seq c76_38 c76_39
noncomputable def c76_35 : ACode := .seq c76_36 c76_37
noncomputable def c76_33 : ACode := .seq c76_34 c76_35
noncomputable def c76_31 : ACode := .seq c76_32 c76_33
noncomputable def c76_14 : ACode := .seq c76_15 c76_31
noncomputable def c76_12 : ACode := .seq c76_13 c76_14
noncomputable def c76_10 : ACode := .seq c76_11 c76_12
noncomputable def c76_8 : ACode := .seq c76_9 c76_10
noncomputable def c76_6 : ACode := .seq c76_7 c76_8
noncomputable def c76_4 : ACode := .seq c76_5 c76_6
noncomputable def c76_2 : ACode := .seq c76_3 c76_4
noncomputable def c76_0 : ACode := .seq c76_1 c76_2
noncomputable def code76 : Code := (Try.f76.body).getD .skip
theorem c76_ok : compC Try.prog 87 code76 = some (strip c76_0) := by kernel_rfl
theorem res76_ok : Try.f76.results.toList.mapM (resC Try.prog) = some [(2, some (true, 3)), (3, some (true, 9))] := by kernel_rfl
set_option maxHeartbeats 20000000 in
theorem etake_any {L : List Int} (hL : L.length ≤ 1099511627776) (hb : bytesB L) (c : Cu) (ha : c.a ≤ L.length) : ACall Try.prog 75 [.ptr 0 0] [RdO 1 c.a L.length c.e, .cells true (bA L)] (Det (EnA (enV L c)) [RdO 1 (enC L c).a L.length (enC L c).e, .cells true (bA L)]) := by
  obtain ⟨l1, l2, l3, l4, l5, l6, l7, l8, l9⟩ := en_le hb ha
  have r1 := rtext_any hL hb c ha 16
  have r2 := rflag_any hL (en1 L c) l1
  have r3 := rtext_any hL hb (en2 L c) l2 32
  have r4 := rnum_any hL hb (en3 L c) l3 4
  have r5 := rnum_any hL hb (en4 L c) l4 1
  have r6 := rnum_any hL hb (en5 L c) l5 4
  have r7 := rnum_any hL hb (en6 L c) l6 1
  have r8 := rnum_any hL hb (en7 L c) l7 2
  have r9 := rnum_any hL hb (en8 L c) l8 4
  rw [show textC L 16 c = en1 L c from rfl] at r1
  rw [show flagC L (en1 L c) = en2 L c from rfl] at r2
  rw [show textC L 32 (en2 L c) = en3 L c from rfl] at r3
  rw [show numC L 4 (en3 L c) = en4 L c from rfl] at r4
  rw [show numC L 1 (en4 L c) = en5 L c from rfl] at r5
  rw [show numC L 4 (en5 L c) = en6 L c from rfl] at r6
  rw [show numC L 1 (en6 L c) = en7 L c from rfl] at r7
  rw [show numC L 2 (en7 L c) = en8 L c from rfl] at r8
  rw [show numC L 4 (en8 L c) = en9 L c from rfl] at r9
  have b0 := numV_lt hb 4 (en3 L c)
  have b1 := numV_lt hb 1 (en4 L c)
  have b2 := numV_lt hb 4 (en5 L c)
  have b3 := numV_lt hb 1 (en6 L c)
  have b4 := numV_lt hb 2 (en7 L c)
  have b5 := numV_lt hb 4 (en8 L c)
  simp only [show (4 : Int).toNat = 4 from rfl, show (1 : Int).toNat = 1 from rfl, show (2 : Int).toNat = 2 from rfl, Int.reducePow] at b0 b1 b2 b3 b4 b5
  have hck := check_any (enE L c)
  have hfl := rfail_r (en9 L c).a L (en9 L c).e 4
  have hcs := en_cases L c
  have hf0 : failI 0 4 = 4 := rfl
  have hf1 : (en9 L c).e ≠ 0 → failI (en9 L c).e 4 = (en9 L c).e := fun h => by simp [failI, h]
  simp only [enE] at hck hcs
  generalize enV L c = RV at *
  generalize enC L c = RC at *
  generalize textV L 16 c = v1 at *
  generalize flagV L (en1 L c) = v2 at *
  generalize textV L 32 (en2 L c) = v3 at *
  generalize numV L 4 (en3 L c) = v4 at *
  generalize numV L 1 (en4 L c) = v5 at *
  generalize numV L 4 (en5 L c) = v6 at *
  generalize numV L 1 (en6 L c) = v7 at *
  generalize numV L 2 (en7 L c) = v8 at *
  generalize numV L 4 (en8 L c) = v9 at *
  generalize en1 L c = c1 at *
  generalize en2 L c = c2 at *
  generalize en3 L c = c3 at *
  generalize en4 L c = c4 at *
  generalize en5 L c = c5 at *
  generalize en6 L c = c6 at *
  generalize en7 L c = c7 at *
  generalize en8 L c = c8 at *
  generalize en9 L c = c9 at *
  generalize checkI _ = ck at *
  rcases hcs with ⟨h1, h2, rfl, rfl⟩ | ⟨h1, h2, rfl, rfl⟩ | ⟨h1, h2, rfl, rfl⟩ | ⟨h1, h2, rfl, rfl⟩
  all_goals
    refine ACall.startA c75_ok Try.func75 rfl Try.ntmps75 (by kernel_rfl) res75_ok rfl rfl rfl ?_; simp (maxSteps := 9999999) (disch := omega) only [go_sem]
    (repeat' (first | refine AWpA.seq ?_ | refine AWpA.block ?_ | (with_reducible refine CondP.tt ?_) | (with_reducible refine CondP.ff ?_) | refine AWpA.condv (by simp (maxSteps := 9999999) (disch := omega) only [go_sem, h1, h2]; rfl) ?_ | ((first | (apply AWpA.region; (focus (simp (maxSteps := 9999999) (disch := omega) only [go_sem, h1, h2]; rfl))) | (apply AWpA.draw [] follows; (focus (simp (maxSteps := 9999999) (disch := omega) only [go_sem, h1, h2]; rfl)); (focus (simp (maxSteps := 9999999) (disch := omega) only [go_sem, h1, h2]; first | done | trivial)); (focus (simp (maxSteps := 9999999) (disch := omega) only [go_sem, h1, h2]; rfl))) | (apply TailK.go; (focus (simp (maxSteps := 9999999) (disch := omega) only [go_sem, h1, h2]; rfl))) | refine AWpA.skip ?_ | refine AWpA.exit ?_ | refine AWpA.ret ?_ | (with_reducible refine ARoundsA.succ ?_) | ((first | refine Runs.kt (by assumption) (fun h9 => ?_) | refine Runs.kf (by assumption) (fun h9 => ?_) | refine Runs.nt (by assumption) (fun h9 => ?_) | refine Runs.nf (by assumption) (fun h9 => ?_) | refine CondP.ht (by assumption) (fun h9 => ?_) | refine CondP.hf (by assumption) (fun h9 => ?_) | refine CondP.nt (by assumption) (fun h9 => ?_) | refine CondP.nf (by assumption) (fun h9 => ?_)); (try simp only [h9]); clear h9) | ((first | (with_reducible apply CallG.plain1 [0, 1] (r1)) | (with_reducible apply CallG.draw1 [0, 1] (r1))); (focus ((try refine And.intro (leAs_of_eq rfl) ?_); (try refine And.intro (leOL_of_eq rfl) ?_); simp (maxSteps := 9999999) (disch := omega) only [go_sem, h1, h2]; first | done | (repeat' (first | rfl | (refine And.intro ?_ ?_))))); (focus (simp (maxSteps := 9999999) (disch := omega) only [go_sem, h1, h2]; rfl))) | ((first | (with_reducible apply CallG.plain1 [0, 1] (r2)) | (with_reducible apply CallG.draw1 [0, 1] (r2))); (focus ((try refine And.intro (leAs_of_eq rfl) ?_); (try refine And.intro (leOL_of_eq rfl) ?_); simp (maxSteps := 9999999) (disch := omega) only [go_sem, h1, h2]; first | done | (repeat' (first | rfl | (refine And.intro ?_ ?_))))); (focus (simp (maxSteps := 9999999) (disch := omega) only [go_sem, h1, h2]; rfl))) | ((first | (with_reducible apply CallG.plain1 [0, 1] (r3)) | (with_reducible apply CallG.draw1 [0, 1] (r3))); (focus ((try refine And.intro (leAs_of_eq rfl) ?_); (try refine And.intro (leOL_of_eq rfl) ?_); simp (maxSteps := 9999999) (disch := omega) only [go_sem, h1, h2]; first | done | (repeat' (first | rfl | (refine And.intro ?_ ?_))))); (focus (simp (maxSteps := 9999999) (disch := omega) only [go_sem, h1, h2]; rfl)))); (try simp (maxSteps := 9999999) (disch := omega) only [go_sem, h1, h2]); (try (refine And.intro ?_ ?_; (focus (first | omega | (simp only [go_sem]; done) | (simp; done) | (simp; omega) | assumption))))) | ((first | refine CondP.split (fun hif => ?_) (fun hif => ?_) | refine Runs.part (fun hif => ?_) (fun hif => ?_)) <;> ((try simp only [hif]); (try simp only [decide_eq_true_eq, decide_eq_false_iff_not, Bool.not_eq_true, Bool.not_eq_false, Bool.not_eq_true', Bool.not_eq_false', beq_iff_eq, bne_iff_ne, bne_eq_false_iff_eq, beq_eq_false_iff_ne, ne_eq, Bool.and_eq_true, Bool.or_eq_true, Bool.or_eq_false_iff] at hif); (try (have h9 : _ = true := hif; simp only [h9])); (try (have h9 : _ = false := hif; simp only [h9])); (try simp (maxSteps := 9999999) (disch := omega) only [go_sem, h1, h2]); (try (refine And.intro ?_ ?_; (focus (first | omega | (simp only [go_sem]; done) | (simp; done) | (simp; omega) | assumption)))); (try (exfalso; omega; done))))))
    refine AWpA.rounds 3 ?_
    (repeat' (first | refine AWpA.seq ?_ | refine AWpA.block ?_ | (with_reducible refine CondP.tt ?_) | (with_reducible refine CondP.ff ?_) | refine AWpA.condv (by simp (maxSteps := 9999999) (disch := omega) only [go_sem, h1, h2, hf0, hf1]; rfl) ?_ | ((first | (apply AWpA.region; (focus (simp (maxSteps := 9999999) (disch := omega) only [go_sem, h1, h2, hf0, hf1]; rfl))) | (apply AWpA.draw [] follows; (focus (simp (maxSteps := 9999999) (disch := omega) only [go_sem, h1, h2, hf0, hf1]; rfl)); (focus (simp (maxSteps := 9999999) (disch := omega) only [go_sem, h1, h2, hf0, hf1]; first | done | trivial)); (focus (simp (maxSteps := 9999999) (disch := omega) only [go_sem, h1, h2, hf0, hf1]; rfl))) | (apply TailK.go; (focus (simp (maxSteps := 9999999) (disch := omega) only [go_sem, h1, h2, hf0, hf1]; rfl))) | refine AWpA.skip ?_ | refine AWpA.exit ?_ | refine AWpA.ret ?_ | (with_reducible refine ARoundsA.succ ?_) | ((first | refine Runs.kt (by assumption) (fun h9 => ?_) | refine Runs.kf (by assumption) (fun h9 => ?_) | refine Runs.nt (by assumption) (fun h9 => ?_) | refine Runs.nf (by assumption) (fun h9 => ?_) | refine CondP.ht (by assumption) (fun h9 => ?_) | refine CondP.hf (by assumption) (fun h9 => ?_) | refine CondP.nt (by assumption) (fun h9 => ?_) | refine CondP.nf (by assumption) (fun h9 => ?_)); (try simp only [h9]); clear h9) | ((first | (with_reducible apply CallG.plain1 [0, 1] (r4)) | (with_reducible apply CallG.draw1 [0, 1] (r4))); (focus ((try refine And.intro (leAs_of_eq rfl) ?_); (try refine And.intro (leOL_of_eq rfl) ?_); simp (maxSteps := 9999999) (disch := omega) only [go_sem, h1, h2, hf0, hf1]; first | done | (repeat' (first | rfl | (refine And.intro ?_ ?_))))); (focus (simp (maxSteps := 9999999) (disch := omega) only [go_sem, h1, h2, hf0, hf1]; rfl))) | ((first | (with_reducible apply CallG.plain1 [0, 1] (r5)) | (with_reducible apply CallG.draw1 [0, 1] (r5))); (focus ((try refine And.intro (leAs_of_eq rfl) ?_); (try refine And.intro (leOL_of_eq rfl) ?_); simp (maxSteps := 9999999) (disch := omega) only [go_sem, h1, h2, hf0, hf1]; first | done | (repeat' (first | rfl | (refine And.intro ?_ ?_))))); (focus (simp (maxSteps := 9999999) (disch := omega) only [go_sem, h1, h2, hf0, hf1]; rfl))) | ((first | (with_reducible apply CallG.plain1 [0, 1] (r6)) | (with_reducible apply CallG.draw1 [0, 1] (r6))); (focus ((try refine And.intro (leAs_of_eq rfl) ?_); (try refine And.intro (leOL_of_eq rfl) ?_); simp (maxSteps := 9999999) (disch := omega) only [go_sem, h1, h2, hf0, hf1]; first | done | (repeat' (first | rfl | (refine And.intro ?_ ?_))))); (focus (simp (maxSteps := 9999999) (disch := omega) only [go_sem, h1, h2, hf0, hf1]; rfl))) | ((first | (with_reducible apply CallG.plain1 [0, 1] (r7)) | (with_reducible apply CallG.draw1 [0, 1] (r7))); (focus ((try refine And.intro (leAs_of_eq rfl) ?_); (try refine And.intro (leOL_of_eq rfl) ?_); simp (maxSteps := 9999999) (disch := omega) only [go_sem, h1, h2, hf0, hf1]; first | done | (repeat' (first | rfl | (refine And.intro ?_ ?_))))); (focus (simp (maxSteps := 9999999) (disch := omega) only [go_sem, h1, h2, hf0, hf1]; rfl))) | ((first | (with_reducible apply CallG.plain1 [0, 1] (r8)) | (with_reducible apply CallG.draw1 [0, 1] (r8))); (focus ((try refine And.intro (leAs_of_eq rfl) ?_); (try refine And.intro (leOL_of_eq rfl) ?_); simp (maxSteps := 9999999) (disch := omega) only [go_sem, h1, h2, hf0, hf1]; first | done | (repeat' (first | rfl | (refine And.intro ?_ ?_))))); (focus (simp (maxSteps := 9999999) (disch := omega) only [go_sem, h1, h2, hf0, hf1]; rfl))) | ((first | (with_reducible apply CallG.plain1 [0, 1] (r9)) | (with_reducible apply CallG.draw1 [0, 1] (r9))); (focus ((try refine And.intro (leAs_of_eq rfl) ?_); (try refine And.intro (leOL_of_eq rfl) ?_); simp (maxSteps := 9999999) (disch := omega) only [go_sem, h1, h2, hf0, hf1]; first | done | (repeat' (first | rfl | (refine And.intro ?_ ?_))))); (focus (simp (maxSteps := 9999999) (disch := omega) only [go_sem, h1, h2, hf0, hf1]; rfl))) | ((first | (with_reducible apply CallG.plain1 [] (hck)) | (with_reducible apply CallG.plain1 [0, 1] (hfl)) | (with_reducible apply CallG.plain1 [0] (rerr_any _)) | (with_reducible apply CallG.draw1 [] (hck)) | (with_reducible apply CallG.draw1 [0, 1] (hfl)) | (with_reducible apply CallG.draw1 [0] (rerr_any _))); (focus ((try refine And.intro (leAs_of_eq rfl) ?_); (try refine And.intro (leOL_of_eq rfl) ?_); simp (maxSteps := 9999999) (disch := omega) only [go_sem, h1, h2, hf0, hf1]; first | done | (repeat' (first | rfl | (refine And.intro ?_ ?_))))); (focus (simp (maxSteps := 9999999) (disch := omega) only [go_sem, h1, h2, hf0, hf1]; rfl)))); (try simp (maxSteps := 9999999) (disch := omega) only [go_sem, h1, h2, hf0, hf1]); (try (refine And.intro ?_ ?_; (focus (first | omega | (simp only [go_sem]; done) | (simp; done) | (simp; omega) | assumption))))) | ((first | refine CondP.split (fun hif => ?_) (fun hif => ?_) | refine Runs.part (fun hif => ?_) (fun hif => ?_)) <;> ((try simp only [hif]); (try simp only [decide_eq_true_eq, decide_eq_false_iff_not, Bool.not_eq_true, Bool.not_eq_false, Bool.not_eq_true', Bool.not_eq_false', beq_iff_eq, bne_iff_ne, bne_eq_false_iff_eq, beq_eq_false_iff_ne, ne_eq, Bool.and_eq_true, Bool.or_eq_true, Bool.or_eq_false_iff] at hif); (try (have h9 : _ = true := hif; simp only [h9])); (try (have h9 : _ = false := hif; simp only [h9])); (try simp (maxSteps := 9999999) (disch := omega) only [go_sem, h1, h2, hf0, hf1]); (try (refine And.intro ?_ ?_; (focus (first | omega | (simp only [go_sem]; done) | (simp; done) | (simp; omega) | assumption)))); (try (exfalso; omega; done))))))
    all_goals (apply Ret.det [0, 1]; (focus (first | exact .inl rfl | exact .inr rfl)); (focus (simp (maxSteps := 9999999) (disch := omega) only [go_sem, h1, h2, hf0, hf1]; rfl)); (simp (maxSteps := 9999999) (disch := omega) only [go_sem, h1, h2, hf0, hf1]; (try (repeat' (first | done | trivial | rfl | exact leAs_rfl _ | decide | (refine And.intro ?_ ?_) | (simp; done) | omega | (simp; decide))))))
set_option maxHeartbeats 20000000 in
theorem ctakeE_any {P : List AV} {off : Nat} {L : List Int} (s : Seg P off L) (hb : bytesB L) (c : Cu) (ha : c.a ≤ L.length) : ACall Try.prog 76 [CurA off L.length c.a c.e] [.cells true P] (Det (.tup [CurA off L.length (enC L c).a (enC L c).e, EnA (enV L c)]) [.cells true P]) := by
  obtain ⟨l1, l2, l3, l4, l5, l6, l7, l8, l9⟩ := en_le hb ha
  have r1 := ctext_any s hb c ha 16
  have r2 := cflag_any s (en1 L c) l1
  have r3 := ctext_any s hb (en2 L c) l2 32
  have r4 := ctake_any s hb (en3 L c) l3 4
  have r5 := ctake_any s hb (en4 L c) l4 1
  have r6 := ctake_any s hb (en5 L c) l5 4
  have r7 := ctake_any s hb (en6 L c) l6 1
  have r8 := ctake_any s hb (en7 L c) l7 2
  have r9 := ctake_any s hb (en8 L c) l8 4
  rw [show textC L 16 c = en1 L c from rfl] at r1
  rw [show flagC L (en1 L c) = en2 L c from rfl] at r2
  rw [show textC L 32 (en2 L c) = en3 L c from rfl] at r3
  rw [show numC L 4 (en3 L c) = en4 L c from rfl] at r4
  rw [show numC L 1 (en4 L c) = en5 L c from rfl] at r5
  rw [show numC L 4 (en5 L c) = en6 L c from rfl] at r6
  rw [show numC L 1 (en6 L c) = en7 L c from rfl] at r7
  rw [show numC L 2 (en7 L c) = en8 L c from rfl] at r8
  rw [show numC L 4 (en8 L c) = en9 L c from rfl] at r9
  have b0 := numV_lt hb 4 (en3 L c)
  have b1 := numV_lt hb 1 (en4 L c)
  have b2 := numV_lt hb 4 (en5 L c)
  have b3 := numV_lt hb 1 (en6 L c)
  have b4 := numV_lt hb 2 (en7 L c)
  have b5 := numV_lt hb 4 (en8 L c)
  simp only [show (4 : Int).toNat = 4 from rfl, show (1 : Int).toNat = 1 from rfl, show (2 : Int).toNat = 2 from rfl, Int.reducePow] at b0 b1 b2 b3 b4 b5
  have hck := rcheck_any (enE L c)
  have hcs := en_cases L c
  simp only [enE] at hck hcs
  generalize enV L c = RV at *
  generalize enC L c = RC at *
  generalize textV L 16 c = v1 at *
  generalize flagV L (en1 L c) = v2 at *
  generalize textV L 32 (en2 L c) = v3 at *
  generalize numV L 4 (en3 L c) = v4 at *
  generalize numV L 1 (en4 L c) = v5 at *
  generalize numV L 4 (en5 L c) = v6 at *
  generalize numV L 1 (en6 L c) = v7 at *
  generalize numV L 2 (en7 L c) = v8 at *
  generalize numV L 4 (en8 L c) = v9 at *
  generalize en1 L c = c1 at *
  generalize en2 L c = c2 at *
  generalize en3 L c = c3 at *
  generalize en4 L c = c4 at *
  generalize en5 L c = c5 at *
  generalize en6 L c = c6 at *
  generalize en7 L c = c7 at *
  generalize en8 L c = c8 at *
  generalize en9 L c = c9 at *
  generalize checkI _ = ck at *
  rcases hcs with ⟨h1, h2, rfl, rfl⟩ | ⟨h1, h2, rfl, rfl⟩ | ⟨h1, h2, rfl, rfl⟩ | ⟨h1, h2, rfl, rfl⟩
  all_goals
    refine ACall.startA c76_ok Try.func76 rfl Try.ntmps76 (by kernel_rfl) res76_ok rfl rfl rfl ?_; simp (maxSteps := 9999999) (disch := omega) only [go_sem]
    (repeat' (first | refine AWpA.seq ?_ | refine AWpA.block ?_ | (with_reducible refine CondP.tt ?_) | (with_reducible refine CondP.ff ?_) | refine AWpA.condv (by simp (maxSteps := 9999999) (disch := omega) only [go_sem, h1, h2, s.ren]; rfl) ?_ | ((first | (apply AWpA.region; (focus (simp (maxSteps := 9999999) (disch := omega) only [go_sem, h1, h2, s.ren]; rfl))) | (apply AWpA.draw [] follows; (focus (simp (maxSteps := 9999999) (disch := omega) only [go_sem, h1, h2, s.ren]; rfl)); (focus (simp (maxSteps := 9999999) (disch := omega) only [go_sem, h1, h2, s.ren]; first | done | trivial)); (focus (simp (maxSteps := 9999999) (disch := omega) only [go_sem, h1, h2, s.ren]; rfl))) | (apply TailK.go; (focus (simp (maxSteps := 9999999) (disch := omega) only [go_sem, h1, h2, s.ren]; rfl))) | refine AWpA.skip ?_ | refine AWpA.exit ?_ | refine AWpA.ret ?_ | (with_reducible refine ARoundsA.succ ?_) | ((first | refine Runs.kt (by assumption) (fun h9 => ?_) | refine Runs.kf (by assumption) (fun h9 => ?_) | refine Runs.nt (by assumption) (fun h9 => ?_) | refine Runs.nf (by assumption) (fun h9 => ?_) | refine CondP.ht (by assumption) (fun h9 => ?_) | refine CondP.hf (by assumption) (fun h9 => ?_) | refine CondP.nt (by assumption) (fun h9 => ?_) | refine CondP.nf (by assumption) (fun h9 => ?_)); (try simp only [h9]); clear h9) | ((first | (with_reducible apply CallG.plain1 [0] (r1)) | (with_reducible apply CallG.draw1 [0] (r1))); (focus ((try refine And.intro (leAs_of_eq rfl) ?_); (try refine And.intro (leOL_of_eq rfl) ?_); simp (maxSteps := 9999999) (disch := omega) only [go_sem, h1, h2, s.ren]; first | done | (repeat' (first | rfl | (refine And.intro ?_ ?_))))); (focus (simp (maxSteps := 9999999) (disch := omega) only [go_sem, h1, h2, s.ren]; rfl))) | ((first | (with_reducible apply CallG.plain1 [0] (r2)) | (with_reducible apply CallG.draw1 [0] (r2))); (focus ((try refine And.intro (leAs_of_eq rfl) ?_); (try refine And.intro (leOL_of_eq rfl) ?_); simp (maxSteps := 9999999) (disch := omega) only [go_sem, h1, h2, s.ren]; first | done | (repeat' (first | rfl | (refine And.intro ?_ ?_))))); (focus (simp (maxSteps := 9999999) (disch := omega) only [go_sem, h1, h2, s.ren]; rfl))) | ((first | (with_reducible apply CallG.plain1 [0] (r3)) | (with_reducible apply CallG.draw1 [0] (r3))); (focus ((try refine And.intro (leAs_of_eq rfl) ?_); (try refine And.intro (leOL_of_eq rfl) ?_); simp (maxSteps := 9999999) (disch := omega) only [go_sem, h1, h2, s.ren]; first | done | (repeat' (first | rfl | (refine And.intro ?_ ?_))))); (focus (simp (maxSteps := 9999999) (disch := omega) only [go_sem, h1, h2, s.ren]; rfl)))); (try simp (maxSteps := 9999999) (disch := omega) only [go_sem, h1, h2, s.ren]); (try (refine And.intro ?_ ?_; (focus (first | omega | (simp only [go_sem]; done) | (simp; done) | (simp; omega) | assumption))))) | ((first | refine CondP.split (fun hif => ?_) (fun hif => ?_) | refine Runs.part (fun hif => ?_) (fun hif => ?_)) <;> ((try simp only [hif]); (try simp only [decide_eq_true_eq, decide_eq_false_iff_not, Bool.not_eq_true, Bool.not_eq_false, Bool.not_eq_true', Bool.not_eq_false', beq_iff_eq, bne_iff_ne, bne_eq_false_iff_eq, beq_eq_false_iff_ne, ne_eq, Bool.and_eq_true, Bool.or_eq_true, Bool.or_eq_false_iff] at hif); (try (have h9 : _ = true := hif; simp only [h9])); (try (have h9 : _ = false := hif; simp only [h9])); (try simp (maxSteps := 9999999) (disch := omega) only [go_sem, h1, h2, s.ren]); (try (refine And.intro ?_ ?_; (focus (first | omega | (simp only [go_sem]; done) | (simp; done) | (simp; omega) | assumption)))); (try (exfalso; omega; done))))))
    refine AWpA.rounds 7 ?_
    (repeat' (first | refine AWpA.seq ?_ | refine AWpA.block ?_ | (with_reducible refine CondP.tt ?_) | (with_reducible refine CondP.ff ?_) | refine AWpA.condv (by simp (maxSteps := 9999999) (disch := omega) only [go_sem, h1, h2, s.ren]; rfl) ?_ | ((first | (apply AWpA.region; (focus (simp (maxSteps := 9999999) (disch := omega) only [go_sem, h1, h2, s.ren]; rfl))) | (apply AWpA.draw [] follows; (focus (simp (maxSteps := 9999999) (disch := omega) only [go_sem, h1, h2, s.ren]; rfl)); (focus (simp (maxSteps := 9999999) (disch := omega) only [go_sem, h1, h2, s.ren]; first | done | trivial)); (focus (simp (maxSteps := 9999999) (disch := omega) only [go_sem, h1, h2, s.ren]; rfl))) | (apply TailK.go; (focus (simp (maxSteps := 9999999) (disch := omega) only [go_sem, h1, h2, s.ren]; rfl))) | refine AWpA.skip ?_ | refine AWpA.exit ?_ | refine AWpA.ret ?_ | (with_reducible refine ARoundsA.succ ?_) | ((first | refine Runs.kt (by assumption) (fun h9 => ?_) | refine Runs.kf (by assumption) (fun h9 => ?_) | refine Runs.nt (by assumption) (fun h9 => ?_) | refine Runs.nf (by assumption) (fun h9 => ?_) | refine CondP.ht (by assumption) (fun h9 => ?_) | refine CondP.hf (by assumption) (fun h9 => ?_) | refine CondP.nt (by assumption) (fun h9 => ?_) | refine CondP.nf (by assumption) (fun h9 => ?_)); (try simp only [h9]); clear h9) | ((first | (with_reducible apply CallG.plain1 [0] (r4)) | (with_reducible apply CallG.draw1 [0] (r4))); (focus ((try refine And.intro (leAs_of_eq rfl) ?_); (try refine And.intro (leOL_of_eq rfl) ?_); simp (maxSteps := 9999999) (disch := omega) only [go_sem, h1, h2, s.ren]; first | done | (repeat' (first | rfl | (refine And.intro ?_ ?_))))); (focus (simp (maxSteps := 9999999) (disch := omega) only [go_sem, h1, h2, s.ren]; rfl))) | ((first | (with_reducible apply CallG.plain1 [0] (r5)) | (with_reducible apply CallG.draw1 [0] (r5))); (focus ((try refine And.intro (leAs_of_eq rfl) ?_); (try refine And.intro (leOL_of_eq rfl) ?_); simp (maxSteps := 9999999) (disch := omega) only [go_sem, h1, h2, s.ren]; first | done | (repeat' (first | rfl | (refine And.intro ?_ ?_))))); (focus (simp (maxSteps := 9999999) (disch := omega) only [go_sem, h1, h2, s.ren]; rfl))) | ((first | (with_reducible apply CallG.plain1 [0] (r6)) | (with_reducible apply CallG.draw1 [0] (r6))); (focus ((try refine And.intro (leAs_of_eq rfl) ?_); (try refine And.intro (leOL_of_eq rfl) ?_); simp (maxSteps := 9999999) (disch := omega) only [go_sem, h1, h2, s.ren]; first | done | (repeat' (first | rfl | (refine And.intro ?_ ?_))))); (focus (simp (maxSteps := 9999999) (disch := omega) only [go_sem, h1, h2, s.ren]; rfl))) | ((first | (with_reducible apply CallG.plain1 [0] (r7)) | (with_reducible apply CallG.draw1 [0] (r7))); (focus ((try refine And.intro (leAs_of_eq rfl) ?_); (try refine And.intro (leOL_of_eq rfl) ?_); simp (maxSteps := 9999999) (disch := omega) only [go_sem, h1, h2, s.ren]; first | done | (repeat' (first | rfl | (refine And.intro ?_ ?_))))); (focus (simp (maxSteps := 9999999) (disch := omega) only [go_sem, h1, h2, s.ren]; rfl))) | ((first | (with_reducible apply CallG.plain1 [0] (r8)) | (with_reducible apply CallG.draw1 [0] (r8))); (focus ((try refine And.intro (leAs_of_eq rfl) ?_); (try refine And.intro (leOL_of_eq rfl) ?_); simp (maxSteps := 9999999) (disch := omega) only [go_sem, h1, h2, s.ren]; first | done | (repeat' (first | rfl | (refine And.intro ?_ ?_))))); (focus (simp (maxSteps := 9999999) (disch := omega) only [go_sem, h1, h2, s.ren]; rfl))) | ((first | (with_reducible apply CallG.plain1 [0] (r9)) | (with_reducible apply CallG.draw1 [0] (r9))); (focus ((try refine And.intro (leAs_of_eq rfl) ?_); (try refine And.intro (leOL_of_eq rfl) ?_); simp (maxSteps := 9999999) (disch := omega) only [go_sem, h1, h2, s.ren]; first | done | (repeat' (first | rfl | (refine And.intro ?_ ?_))))); (focus (simp (maxSteps := 9999999) (disch := omega) only [go_sem, h1, h2, s.ren]; rfl))) | ((first | (with_reducible apply CallG.plain1 [] (hck)) | (with_reducible apply CallG.draw1 [] (hck))); (focus ((try refine And.intro (leAs_of_eq rfl) ?_); (try refine And.intro (leOL_of_eq rfl) ?_); simp (maxSteps := 9999999) (disch := omega) only [go_sem, h1, h2, s.ren]; first | done | (repeat' (first | rfl | (refine And.intro ?_ ?_))))); (focus (simp (maxSteps := 9999999) (disch := omega) only [go_sem, h1, h2, s.ren]; rfl)))); (try simp (maxSteps := 9999999) (disch := omega) only [go_sem, h1, h2, s.ren]); (try (refine And.intro ?_ ?_; (focus (first | omega | (simp only [go_sem]; done) | (simp; done) | (simp; omega) | assumption))))) | ((first | refine CondP.split (fun hif => ?_) (fun hif => ?_) | refine Runs.part (fun hif => ?_) (fun hif => ?_)) <;> ((try simp only [hif]); (try simp only [decide_eq_true_eq, decide_eq_false_iff_not, Bool.not_eq_true, Bool.not_eq_false, Bool.not_eq_true', Bool.not_eq_false', beq_iff_eq, bne_iff_ne, bne_eq_false_iff_eq, beq_eq_false_iff_ne, ne_eq, Bool.and_eq_true, Bool.or_eq_true, Bool.or_eq_false_iff] at hif); (try (have h9 : _ = true := hif; simp only [h9])); (try (have h9 : _ = false := hif; simp only [h9])); (try simp (maxSteps := 9999999) (disch := omega) only [go_sem, h1, h2, s.ren]); (try (refine And.intro ?_ ?_; (focus (first | omega | (simp only [go_sem]; done) | (simp; done) | (simp; omega) | assumption)))); (try (exfalso; omega; done))))))
    all_goals (apply Ret.det [0]; (focus (first | exact .inl rfl | exact .inr rfl)); (focus (simp (maxSteps := 9999999) (disch := omega) only [go_sem, h1, h2, s.ren]; rfl)); (simp (maxSteps := 9999999) (disch := omega) only [go_sem, h1, h2, s.ren]; (try (repeat' (first | done | trivial | rfl | exact leAs_rfl _ | decide | (refine And.intro ?_ ?_) | (simp; done) | omega | (simp; decide))))))
theorem enC_le {L : List Int} {c : Cu} (hb : bytesB L) (h : c.a ≤ L.length) : (enC L c).a ≤ L.length := by
  have h9 := (en_le hb h).2.2.2.2.2.2.2.2
  simp only [enC]
  exact h9
attribute [irreducible] en1 en2 en3 en4 en5 en6 en7 en8 en9 enE enC enV
end Go.Proofs.Yteggjhihpjjloaa
