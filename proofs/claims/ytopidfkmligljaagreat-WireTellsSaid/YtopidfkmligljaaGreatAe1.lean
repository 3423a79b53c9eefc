/- Contracts: entries that are read. -/
import Derived.Test.YtopidfkmligljaaGreatAo12
import Derived.Test.YtopidfkmligljaaGreatAc10
namespace Go.Proofs.YtopidfkmligljaaGreat
noncomputable section
set_option linter.unusedSimpArgs false
set_option linter.unusedVariables false
set_option maxHeartbeats 4000000
open Go Go.Am Go.RowKit Go.ChangeShapes Go.WideShapes Go.ChangeAt
set_option maxRecDepth 100000
theorem numV_lt {L : List Int} (hb : bytesB L) (w : Int) (c : Cu) : 0 ≤ numV L w c ∧ numV L w c < 256 ^ w.toNat := by
  unfold numV
  cases hw : wideB w with
  | false => exact ⟨Int.le_refl _, Int.pow_pos (by decide)⟩
  | true =>
    have h := valI_lt (l := rawV L w c) (rawL_bytes hb)
    have h8 := wideB_yes hw
    have hl : (rawV L w c).length ≤ w.toNat := by
      unfold rawV rawL
      cases rawOk c.e w (c.left L) <;> simp
      omega
    refine ⟨h.1, Int.lt_of_lt_of_le h.2 ?_⟩
    have h2 := Int.ofNat_le.2 (Nat.pow_le_pow_right (n := 256) (by decide) hl)
    simpa [Int.natCast_pow] using h2
def en1 (L : List Int) (c : Cu) : Cu := textC L 16 c
def en2 (L : List Int) (c : Cu) : Cu := flagC L (en1 L c)
def en3 (L : List Int) (c : Cu) : Cu := textC L 32 (en2 L c)
def en4 (L : List Int) (c : Cu) : Cu := numC L 4 (en3 L c)
def en5 (L : List Int) (c : Cu) : Cu := numC L 1 (en4 L c)
def en6 (L : List Int) (c : Cu) : Cu := numC L 4 (en5 L c)
def en7 (L : List Int) (c : Cu) : Cu := numC L 1 (en6 L c)
def en8 (L : List Int) (c : Cu) : Cu := numC L 2 (en7 L c)
def en9 (L : List Int) (c : Cu) : Cu := numC L 4 (en8 L c)
/-- The entry of what is read, before it is looked at. -/
def enE (L : List Int) (c : Cu) : En := ⟨textV L 16 c, textV L 32 (en2 L c), flagV L (en1 L c), ⟨numV L 4 (en3 L c), numV L 1 (en4 L c)⟩, ⟨numV L 4 (en5 L c), numV L 1 (en6 L c)⟩, numV L 2 (en7 L c), numV L 4 (en8 L c)⟩
def enC (L : List Int) (c : Cu) : Cu := ⟨(en9 L c).a, if checkI (enE L c) = 0 then (en9 L c).e else failI (en9 L c).e 4⟩
def enV (L : List Int) (c : Cu) : En := if (enC L c).e = 0 then enE L c else noEn
theorem en_le {L : List Int} {c : Cu} (hb : bytesB L) (h : c.a ≤ L.length) : (en1 L c).a ≤ L.length ∧ (en2 L c).a ≤ L.length ∧ (en3 L c).a ≤ L.length ∧ (en4 L c).a ≤ L.length ∧ (en5 L c).a ≤ L.length ∧ (en6 L c).a ≤ L.length ∧ (en7 L c).a ≤ L.length ∧ (en8 L c).a ≤ L.length ∧ (en9 L c).a ≤ L.length := by
  have h1 : (en1 L c).a ≤ L.length := textC_le hb h
  have h2 : (en2 L c).a ≤ L.length := flagC_le h1
  have h3 : (en3 L c).a ≤ L.length := textC_le hb h2
  have h4 : (en4 L c).a ≤ L.length := numC_le h3
  have h5 : (en5 L c).a ≤ L.length := numC_le h4
  have h6 : (en6 L c).a ≤ L.length := numC_le h5
  have h7 : (en7 L c).a ≤ L.length := numC_le h6
  have h8 : (en8 L c).a ≤ L.length := numC_le h7
  have h9 : (en9 L c).a ≤ L.length := numC_le h8
  exact ⟨h1, h2, h3, h4, h5, h6, h7, h8, h9⟩
theorem en_cases (L : List Int) (c : Cu) : ((en9 L c).e = 0 ∧ checkI (enE L c) = 0 ∧ enC L c = en9 L c ∧ enV L c = enE L c) ∨ ((en9 L c).e ≠ 0 ∧ checkI (enE L c) = 0 ∧ enC L c = en9 L c ∧ enV L c = noEn) ∨ ((en9 L c).e = 0 ∧ checkI (enE L c) ≠ 0 ∧ enC L c = ⟨(en9 L c).a, 4⟩ ∧ enV L c = noEn) ∨ ((en9 L c).e ≠ 0 ∧ checkI (enE L c) ≠ 0 ∧ enC L c = en9 L c ∧ enV L c = noEn) := by
  by_cases h1 : (en9 L c).e = 0 <;> by_cases h2 : checkI (enE L c) = 0
  · have e : enC L c = en9 L c := by simp [enC, h2]
    exact .inl ⟨h1, h2, e, by simp [enV, e, h1]⟩
  · have e : enC L c = ⟨(en9 L c).a, 4⟩ := by simp [enC, h2, h1, failI]
    exact .inr (.inr (.inl ⟨h1, h2, e, by simp [enV, e]⟩))
  · have e : enC L c = en9 L c := by simp [enC, h2]
    exact .inr (.inl ⟨h1, h2, e, by simp [enV, e, h1]⟩)
  · have e : enC L c = en9 L c := by simp [enC, h2, h1, failI]
    exact .inr (.inr (.inr ⟨h1, h2, e, by simp [enV, e, h1]⟩))
/- quidnunc/entry.Take -/
def c78_1 : ACode := .region false [⟨some 2, .alloc [(.string ⟨#[]⟩), (.string ⟨#[]⟩), (.bool false), (.int .i64 0), (.int .i64 0), (.int .i64 0), (.int .i64 0), (.int .i64 0), (.int .i64 0)], [], none⟩] [] [] [0, 2] true [] []
def c78_3 : ACode := .region false [⟨some 3, .alloc [(.string ⟨#[]⟩), (.string ⟨#[]⟩), (.bool false), (.int .i64 0), (.int .i64 0), (.int .i64 0), (.int .i64 0), (.int .i64 0), (.int .i64 0)], [], none⟩] [] [] [0, 2, 3] true [] []
def c78_5 : ACode := .region false [⟨some 6, .move, [.t 0], none⟩,
  ⟨some 7, .call 128, [.t 6, .c (.val (.int .i64 16))], none⟩,
  ⟨some 8, .addr 0, [.t 3], none⟩,
  ⟨none, .store 1, [.t 8, .t 7], none⟩] [] [] [0, 2, 3] true [] []
def c78_7 : ACode := .region false [⟨some 9, .move, [.t 0], none⟩,
  ⟨some 10, .call 66, [.t 9], none⟩,
  ⟨some 11, .addr 2, [.t 3], none⟩,
  ⟨none, .store 1, [.t 11, .t 10], none⟩] [] [] [0, 2, 3] true [] []
def c78_9 : ACode := .region false [⟨some 12, .move, [.t 0], none⟩,
  ⟨some 13, .call 128, [.t 12, .c (.val (.int .i64 32))], none⟩,
  ⟨some 14, .addr 1, [.t 3], none⟩,
  ⟨none, .store 1, [.t 14, .t 13], none⟩] [] [] [0, 2, 3] true [] []
def c78_12 : ACode := .region false [⟨some 15, .addr 3, [.t 3], none⟩,
  ⟨some 16, .addr 5, [.t 3], none⟩,
  ⟨some 17, .build [(.pointer none), (.pointer none)] [(0, 1), (1, 1)], [.t 15, .t 16], none⟩,
  ⟨some 18, .move, [.c (.val (.int .i64 0))], none⟩] [] [] [0, 2, 3, 17, 18] false [] []
def c78_16 : ACode := .region false [⟨some 19, .bin .lss, [.t 18, .c (.val (.int .i64 2))], none⟩] [] [] [0, 2, 3, 17, 18, 19] false [] []
def c78_18 : ACode := .cond (.t 19) .skip (.exit 0)
def c78_22 : ACode := .region false [⟨some 20, .ixV false 2 1, [.t 17, .t 18], none⟩,
  ⟨some 5, .move, [.t 20], none⟩] [] [] [0, 2, 3, 5, 17, 18] false [] []
def c78_24 : ACode := .region false [⟨some 21, .move, [.t 5], none⟩,
  ⟨some 22, .move, [.t 0], none⟩,
  ⟨some 23, .call 70, [.t 22, .c (.val (.int .i64 4))], none⟩,
  ⟨some 24, .conv .i64, [.t 23], none⟩,
  ⟨some 25, .nilChk, [.t 21], none⟩,
  ⟨some 26, .addr 0, [.t 25], none⟩,
  ⟨none, .store 1, [.t 26, .t 24], none⟩] [] [] [0, 2, 3, 5, 17, 18] true [] []
def c78_25 : ACode := .region false [⟨some 27, .move, [.t 5], none⟩,
  ⟨some 28, .move, [.t 0], none⟩,
  ⟨some 29, .call 70, [.t 28, .c (.val (.int .i64 1))], none⟩,
  ⟨some 30, .conv .i64, [.t 29], none⟩,
  ⟨some 31, .nilChk, [.t 27], none⟩,
  ⟨some 32, .addr 1, [.t 31], none⟩,
  ⟨none, .store 1, [.t 32, .t 30], none⟩] [] [] [0, 2, 3, 17, 18] true [] []
def c78_23 : ACode := .seq c78_24 c78_25
def c78_21 : ACode := .seq c78_22 c78_23
def c78_20 : ACode := .block 1 c78_21
def c78_26 : ACode := .region false [⟨some 33, .bin .add, [.t 18, .c (.val (.int .i64 1))], none⟩,
  ⟨some 18, .move, [.t 33], none⟩] [] [] [0, 2, 3, 17, 18] false [] []
def c78_19 : ACode := .seq c78_20 c78_26
def c78_17 : ACode := .seq c78_18 c78_19
def c78_15 : ACode := .seq c78_16 c78_17
def c78_14 : ACode := .loop c78_15
def c78_13 : ACode := .block 0 c78_14
def c78_11 : ACode := .seq c78_12 c78_13
def c78_28 : ACode := .region false [⟨some 34, .move, [.t 0], none⟩,
  ⟨some 35, .call 70, [.t 34, .c (.val (.int .i64 2))], none⟩,
  ⟨some 36, .conv .i64, [.t 35], none⟩,
  ⟨some 37, .addr 7, [.t 3], none⟩,
  ⟨none, .store 1, [.t 37, .t 36], none⟩] [] [] [0, 2, 3] true [] []
def c78_30 : ACode := .region false [⟨some 38, .move, [.t 0], none⟩,
  ⟨some 39, .call 70, [.t 38, .c (.val (.int .i64 4))], none⟩,
  ⟨some 40, .conv .i64, [.t 39], none⟩,
  ⟨some 41, .addr 8, [.t 3], none⟩,
  ⟨none, .store 1, [.t 41, .t 40], none⟩] [] [] [0, 2, 3] true [] []
def c78_33 : ACode := .region false [⟨some 42, .load true 9, [.t 3], none⟩,
  ⟨some 43, .call 122, [.t 42], none⟩,
  ⟨some 44, .bin .neq, [.t 43, .c (.val (.int .i64 0))], none⟩] [] [] [0, 2, 3, 44] true [] []
def c78_35 : ACode := .region false [⟨some 45, .move, [.t 0], none⟩,
  ⟨some 46, .nilChk, [.t 45], none⟩,
  ⟨some 47, .addr 0, [.t 46], none⟩,
  ⟨some 48, .call 26, [.t 47, .c (.val (.int .i64 4))], none⟩] [] [] [0, 2, 3] true [] []
def c78_34 : ACode := .cond (.t 44) c78_35 .skip
def c78_32 : ACode := .seq c78_33 c78_34
def c78_38 : ACode := .region false [⟨some 49, .move, [.t 0], none⟩,
  ⟨some 50, .nilChk, [.t 49], none⟩,
  ⟨some 51, .addr 0, [.t 50], none⟩,
  ⟨some 52, .call 25, [.t 51], none⟩,
  ⟨some 53, .bin .neq, [.t 52, .c (.val (.int .i64 0))], none⟩] [] [] [2, 3, 53] true [] []
def c78_41 : ACode := .region false [⟨some 54, .build [(.string ⟨#[]⟩), (.string ⟨#[]⟩), (.bool false), (.int .i64 0), (.int .i64 0), (.int .i64 0), (.int .i64 0), (.int .i64 0), (.int .i64 0)] [], [], none⟩,
  ⟨none, .store 9, [.t 2, .t 54], none⟩] [] [] [2] true [] []
def c78_40 : ACode := .seq c78_41 .ret
def c78_39 : ACode := .cond (.t 53) c78_40 .skip
def c78_37 : ACode := .seq c78_38 c78_39
def c78_43 : ACode := .region false [⟨some 55, .load true 9, [.t 3], none⟩,
  ⟨none, .store 9, [.t 2, .t 55], none⟩] [] [] [2] true [] []
def c78_42 : ACode := .seq c78_43 .ret
def c78_36 : ACode := .seq c78_37 c78_42
def c78_31 : ACode := .seq c78_32 c78_36
def c78_29 : ACode := .seq c78_30 c78_31
def c78_27 : ACode := .seq c78_28 c78_29
def c78_10 : ACode := .seq c78_11 c78_27
def c78_8 : ACode := .seq c78_9 c78_10
def c78_6 : ACode := .seq c78_7 c78_8
def c78_4 : ACode := .seq c78_5 c78_6
def c78_2 : ACode := .seq c78_3 c78_4
def c78_0 : ACode := .seq c78_1 c78_2
def code78 : Code := (Tryz.f78.body).getD .skip
theorem c78_ok : compC Tryz.prog 56 code78 = some (strip c78_0) := by kernel_rfl
theorem res78_ok : Tryz.f78.results.toList.mapM (resC Tryz.prog) = some [(2, some (true, 9))] := by kernel_rfl
/- quidnunc/quidnuncref05.Take -/
set_option maxHeartbeats 20000000 in
theorem etake_any {L : List Int} (hL : L.length ≤ 1099511627776) (hb : bytesB L) (c : Cu) (ha : c.a ≤ L.length) : ACall Tryz.prog 78 [.ptr 0 0] [RdO 1 c.a L.length c.e, .cells true (bA L)] (Det (EnA (enV L c)) [RdO 1 (enC L c).a L.length (enC L c).e, .cells true (bA L)]) := by
  obtain ⟨l1, l2, l3, l4, l5, l6, l7, l8, l9⟩ := en_le hb ha
  have r1 := rtext_any hL hb c ha 16
  have r2 := rflag_any hL (en1 L c) l1
  have r3 := rtext_any hL hb (en2 L c) l2 32
  have r4 := rnum_any hL hb (en3 L c) l3 4
  have r5 := rnum_any hL hb (en4 L c) l4 1
  have r6 := rnum_any hL hb (en5 L c) l5 4
  have r7 := rnum_any hL hb (en6 L c) l6 1
  have r8 := rnum_any hL hb (en7 L c) l7 2
  have r9 := rnum_any hL hb (en8 L c) l8 4
  rw [show textC L 16 c = en1 L c from rfl] at r1
  rw [show flagC L (en1 L c) = en2 L c from rfl] at r2
  rw [show textC L 32 (en2 L c) = en3 L c from rfl] at r3
  rw [show numC L 4 (en3 L c) = en4 L c from rfl] at r4
  rw [show numC L 1 (en4 L c) = en5 L c from rfl] at r5
  rw [show numC L 4 (en5 L c) = en6 L c from rfl] at r6
  rw [show numC L 1 (en6 L c) = en7 L c from rfl] at r7
  rw [show numC L 2 (en7 L c) = en8 L c from rfl] at r8
  rw [show numC L 4 (en8 L c) = en9 L c from rfl] at r9
  have b0 := numV_lt hb 4 (en3 L c)
  have b1 := numV_lt hb 1 (en4 L c)
  have b2 := numV_lt hb 4 (en5 L c)
  have b3 := numV_lt hb 1 (en6 L c)
  have b4 := numV_lt hb 2 (en7 L c)
  have b5 := numV_lt hb 4 (en8 L c)
  simp only [show (4 : Int).toNat = 4 from rfl, show (1 : Int).toNat = 1 from rfl, show (2 : Int).toNat = 2 from rfl, Int.reducePow] at b0 b1 b2 b3 b4 b5
  have hck := check_any (enE L c)
  have hfl := rfail_r (en9 L c).a L (en9 L c).e 4
  have hcs := en_cases L c
  have hf0 : failI 0 4 = 4 := rfl
  have hf1 : (en9 L c).e ≠ 0 → failI (en9 L c).e 4 = (en9 L c).e := fun h => by simp [failI, h]
  simp only [enE] at hck hcs
  generalize enV L c = RV at *
  generalize enC L c = RC at *
  generalize textV L 16 c = v1 at *
  generalize flagV L (en1 L c) = v2 at *
  generalize textV L 32 (en2 L c) = v3 at *
  generalize numV L 4 (en3 L c) = v4 at *
  generalize numV L 1 (en4 L c) = v5 at *
  generalize numV L 4 (en5 L c) = v6 at *
  generalize numV L 1 (en6 L c) = v7 at *
  generalize numV L 2 (en7 L c) = v8 at *
  generalize numV L 4 (en8 L c) = v9 at *
  generalize en1 L c = c1 at *
  generalize en2 L c = c2 at *
  generalize en3 L c = c3 at *
  generalize en4 L c = c4 at *
  generalize en5 L c = c5 at *
  generalize en6 L c = c6 at *
  generalize en7 L c = c7 at *
  generalize en8 L c = c8 at *
  generalize en9 L c = c9 at *
  generalize checkI _ = ck at *
  rcases hcs with ⟨h1, h2, rfl, rfl⟩ | ⟨h1, h2, rfl, rfl⟩ | ⟨h1, h2, rfl, rfl⟩ | ⟨h1, h2, rfl, rfl⟩
  all_goals
    refine ACall.startA c78_ok Tryz.func78 rfl Tryz.ntmps78 (by kernel_rfl) res78_ok rfl rfl rfl ?_; simp (maxSteps := 9999999) (disch := omega) only [go_sem]
    (have k9 := And.intro @h1 (And.intro @h2 (k0)); (repeat' (first | refine AWpA.seq ?_ | refine AWpA.block ?_ | (with_reducible refine CondP.tt ?_) | (with_reducible refine CondP.ff ?_) | refine AWpA.cg ?_ | ((first | refine AWpA.rg ?_ | refine AWpA.dg [] [] follows ?_ | refine TailK.tg ?_ | refine AWpA.skip ?_ | refine AWpA.exit ?_ | refine AWpA.ret ?_ | (with_reducible refine ARoundsA.succ ?_) | ((first | refine Runs.gkt (fun h9 => ?_) | refine Runs.gkf (fun h9 => ?_) | refine Runs.gnt (fun h9 => ?_) | refine Runs.gnf (fun h9 => ?_) | refine CondP.gt (fun h9 => ?_) | refine CondP.gf (fun h9 => ?_) | refine CondP.gnt (fun h9 => ?_) | refine CondP.gnf (fun h9 => ?_)); (try simp only [h9]); clear h9) | refine CallG.pg [0, 1] (r1) ?_ | refine CallG.pg [0, 1] (r2) ?_ | refine CallG.pg [0, 1] (r3) ?_ | refine CallG.dg [0, 1] (r1) ?_ | refine CallG.dg [0, 1] (r2) ?_ | refine CallG.dg [0, 1] (r3) ?_); (try simp (maxSteps := 9999999) (disch := omega) only [go_sem, k9]); (try refine cnd ?_)) | ((first | refine CondP.split (fun hif => ?_) (fun hif => ?_) | refine Runs.part (fun hif => ?_) (fun hif => ?_)) <;> ((try simp only [hif]); (try simp only [BL] at hif); (try (have h9 : _ = true := hif; simp only [h9])); (try (have h9 : _ = false := hif; simp only [h9])); (try simp (maxSteps := 9999999) (disch := omega) only [go_sem, k9]); (try refine cnd ?_); (try (exfalso; omega; done)))))); (all_goals (try clear k9)))
    refine AWpA.rounds 3 ?_
    (have k9 := And.intro @h1 (And.intro @h2 (And.intro @hf0 (And.intro @hf1 (k0)))); (repeat' (first | refine AWpA.seq ?_ | refine AWpA.block ?_ | (with_reducible refine CondP.tt ?_) | (with_reducible refine CondP.ff ?_) | refine AWpA.cg ?_ | ((first | refine AWpA.rg ?_ | refine AWpA.dg [] [] follows ?_ | refine TailK.tg ?_ | refine AWpA.skip ?_ | refine AWpA.exit ?_ | refine AWpA.ret ?_ | (with_reducible refine ARoundsA.succ ?_) | ((first | refine Runs.gkt (fun h9 => ?_) | refine Runs.gkf (fun h9 => ?_) | refine Runs.gnt (fun h9 => ?_) | refine Runs.gnf (fun h9 => ?_) | refine CondP.gt (fun h9 => ?_) | refine CondP.gf (fun h9 => ?_) | refine CondP.gnt (fun h9 => ?_) | refine CondP.gnf (fun h9 => ?_)); (try simp only [h9]); clear h9) | refine CallG.pg [0, 1] (r4) ?_ | refine CallG.pg [0, 1] (r5) ?_ | refine CallG.pg [0, 1] (r6) ?_ | refine CallG.pg [0, 1] (r7) ?_ | refine CallG.pg [0, 1] (r8) ?_ | refine CallG.pg [0, 1] (r9) ?_ | refine CallG.pg [] (hck) ?_ | refine CallG.pg [0, 1] (hfl) ?_ | refine CallG.pg [0] (rerr_any _) ?_ | refine CallG.dg [0, 1] (r4) ?_ | refine CallG.dg [0, 1] (r5) ?_ | refine CallG.dg [0, 1] (r6) ?_ | refine CallG.dg [0, 1] (r7) ?_ | refine CallG.dg [0, 1] (r8) ?_ | refine CallG.dg [0, 1] (r9) ?_ | refine CallG.dg [] (hck) ?_ | refine CallG.dg [0, 1] (hfl) ?_ | refine CallG.dg [0] (rerr_any _) ?_); (try simp (maxSteps := 9999999) (disch := omega) only [go_sem, k9]); (try refine cnd ?_)) | ((first | refine CondP.split (fun hif => ?_) (fun hif => ?_) | refine Runs.part (fun hif => ?_) (fun hif => ?_)) <;> ((try simp only [hif]); (try simp only [BL] at hif); (try (have h9 : _ = true := hif; simp only [h9])); (try (have h9 : _ = false := hif; simp only [h9])); (try simp (maxSteps := 9999999) (disch := omega) only [go_sem, k9]); (try refine cnd ?_); (try (exfalso; omega; done)))))); (all_goals (try clear k9)))
    all_goals (apply Ret.det [0, 1]; (focus (first | exact .inl rfl | exact .inr rfl)); (focus (simp (maxSteps := 9999999) (disch := omega) only [go_sem, h1, h2, hf0, hf1]; rfl)); (simp (maxSteps := 9999999) (disch := omega) only [go_sem, h1, h2, hf0, hf1]; (try (repeat' (first | done | trivial | rfl | exact leAs_rfl _ | decide | (refine And.intro ?_ ?_) | (simp; done) | omega | (simp; decide))))))
theorem enC_le {L : List Int} {c : Cu} (hb : bytesB L) (h : c.a ≤ L.length) : (enC L c).a ≤ L.length := by
  have h9 := (en_le hb h).2.2.2.2.2.2.2.2
  simp only [enC]
  exact h9
attribute [irreducible] en1 en2 en3 en4 en5 en6 en7 en8 en9 enE enC enV
end
end Go.Proofs.YtopidfkmligljaaGreat
