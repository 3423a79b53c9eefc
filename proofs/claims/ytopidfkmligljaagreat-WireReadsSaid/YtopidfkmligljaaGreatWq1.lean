/- Contracts: what the kinds of messages have, and how they are called. -/
import Derived.Test.YtopidfkmligljaaGreatWp4
namespace Go.Proofs.YtopidfkmligljaaGreat
noncomputable section
set_option linter.unusedSimpArgs false
set_option linter.unusedVariables false
set_option maxHeartbeats 4000000
open Go Go.Am Go.RowKit
set_option maxRecDepth 100000
set_option maxHeartbeats 4000000
/-- A kind's name, its fields. -/
def nmW (k : Nat) : ByteArray := if k = 1 then ⟨#[106, 111, 105, 110]⟩ else if k = 2 then ⟨#[102, 111, 114, 119, 97, 114, 100]⟩ else if k = 3 then ⟨#[110, 101, 105, 103, 104, 98, 111, 114]⟩ else if k = 4 then ⟨#[97, 99, 99, 101, 112, 116]⟩ else if k = 5 then ⟨#[114, 101, 102, 117, 115, 101]⟩ else if k = 6 then ⟨#[112, 97, 114, 116]⟩ else if k = 7 then ⟨#[115, 104, 117, 102, 102, 108, 101]⟩ else if k = 8 then ⟨#[115, 119, 97, 112]⟩ else if k = 9 then ⟨#[98, 101, 97, 116]⟩ else if k = 10 then ⟨#[103, 111, 115, 115, 105, 112]⟩ else if k = 11 then ⟨#[104, 97, 118, 101]⟩ else if k = 12 then ⟨#[103, 114, 97, 102, 116]⟩ else if k = 13 then ⟨#[112, 114, 117, 110, 101]⟩ else if k = 14 then ⟨#[114, 117, 109, 111, 114, 115]⟩ else if k = 15 then ⟨#[101, 99, 104, 111]⟩ else if k = 16 then ⟨#[99, 104, 101, 99, 107]⟩ else if k = 17 then ⟨#[109, 97, 116, 99, 104]⟩ else if k = 18 then ⟨#[112, 101, 101, 108]⟩ else if k = 19 then ⟨#[112, 105, 108, 101]⟩ else ⟨#[]⟩
def fldW (k : Nat) : Int := if k = 1 then 0 else if k = 2 then 3 else if k = 3 then 4 else if k = 4 then 0 else if k = 5 then 0 else if k = 6 then 0 else if k = 7 then 11 else if k = 8 then 8 else if k = 9 then 0 else if k = 10 then 256 else if k = 11 then 128 else if k = 12 then 128 else if k = 13 then 0 else if k = 14 then 256 else if k = 15 then 384 else if k = 16 then 304 else if k = 17 then 304 else if k = 18 then 336 else if k = 19 then 368 else 0
abbrev formR (k : Nat) : List AV := [Str (nmW k), I (fldW k), I (manyLo k 7), I (manyHi k 7), I (manyLo k 8), I (manyHi k 8)]
def formsC : List AV := [Str ⟨#[]⟩, I 0, I 0, I 0, I 0, I 0, Str ⟨#[106, 111, 105, 110]⟩, I 0, I 0, I 0, I 0, I 0, Str ⟨#[102, 111, 114, 119, 97, 114, 100]⟩, I 3, I 0, I 0, I 0, I 0, Str ⟨#[110, 101, 105, 103, 104, 98, 111, 114]⟩, I 4, I 0, I 0, I 0, I 0, Str ⟨#[97, 99, 99, 101, 112, 116]⟩, I 0, I 0, I 0, I 0, I 0, Str ⟨#[114, 101, 102, 117, 115, 101]⟩, I 0, I 0, I 0, I 0, I 0, Str ⟨#[112, 97, 114, 116]⟩, I 0, I 0, I 0, I 0, I 0, Str ⟨#[115, 104, 117, 102, 102, 108, 101]⟩, I 11, I 0, I 0, I 0, I 0, Str ⟨#[115, 119, 97, 112]⟩, I 8, I 0, I 0, I 0, I 0, Str ⟨#[98, 101, 97, 116]⟩, I 0, I 0, I 0, I 0, I 0, Str ⟨#[103, 111, 115, 115, 105, 112]⟩, I 256, I 0, I 0, I 1, I 1, Str ⟨#[104, 97, 118, 101]⟩, I 128, I 1, I 8, I 0, I 0, Str ⟨#[103, 114, 97, 102, 116]⟩, I 128, I 1, I 1, I 0, I 0, Str ⟨#[112, 114, 117, 110, 101]⟩, I 0, I 0, I 0, I 0, I 0, Str ⟨#[114, 117, 109, 111, 114, 115]⟩, I 256, I 0, I 0, I 1, I 8, Str ⟨#[101, 99, 104, 111]⟩, I 384, I 0, I 8, I 0, I 8, Str ⟨#[99, 104, 101, 99, 107]⟩, I 304, I 0, I 0, I 0, I 8, Str ⟨#[109, 97, 116, 99, 104]⟩, I 304, I 0, I 0, I 0, I 8, Str ⟨#[112, 101, 101, 108]⟩, I 336, I 0, I 0, I 0, I 8, Str ⟨#[112, 105, 108, 101]⟩, I 368, I 0, I 0, I 0, I 8]
theorem forms_len : formsC.length = 120 := rfl
theorem forms_at : ∀ k, k < 20 → (formsC.drop (k * 6)).take 6 = formR k
  | 0, _ => rfl
  | 1, _ => rfl
  | 2, _ => rfl
  | 3, _ => rfl
  | 4, _ => rfl
  | 5, _ => rfl
  | 6, _ => rfl
  | 7, _ => rfl
  | 8, _ => rfl
  | 9, _ => rfl
  | 10, _ => rfl
  | 11, _ => rfl
  | 12, _ => rfl
  | 13, _ => rfl
  | 14, _ => rfl
  | 15, _ => rfl
  | 16, _ => rfl
  | 17, _ => rfl
  | 18, _ => rfl
  | 19, _ => rfl
  | n + 20, h => absurd h (by omega)
theorem forms_ren (ρ : List Nat) : renL ρ formsC = formsC := by unfold formsC; simp [renL, ren]
/-- Is there such a kind? -/
def kindB (k : Int) : Bool := decide (1 ≤ k) && decide (k ≤ 19)
def formV (k : Int) : AV := cond (kindB k) (.agg (formR k.toNat)) (.agg [Str ⟨#[]⟩, I 0, I 0, I 0, I 0, I 0])
/- quidnunc/wire.forms -/
def c60_1 : ACode := .region false [⟨some 0, .move, [.c (.val (.slice none 0 0))], none⟩] [] [] [] false [] []
def c60_3 : ACode := .region false [⟨some 4, .build [(.int .i64 0), (.int .i64 0)] [(0, 1), (1, 1)], [.c (.val (.int .i64 1)), .c (.val (.int .i64 1))], none⟩,
  ⟨some 5, .build [(.int .i64 0), (.int .i64 0)] [(0, 1), (1, 1)], [.c (.val (.int .i64 1)), .c (.val (.int .i64 8))], none⟩,
  ⟨some 6, .build [(.int .i64 0), (.int .i64 0)] [(0, 1), (1, 1)], [.c (.val (.int .i64 0)), .c (.val (.int .i64 8))], none⟩,
  ⟨some 1, .alloc [(.int .i64 0), (.int .i64 0)], [], none⟩,
  ⟨some 2, .alloc [(.int .i64 0), (.int .i64 0)], [], none⟩,
  ⟨some 3, .alloc [(.int .i64 0), (.int .i64 0)], [], none⟩,
  ⟨none, .store 2, [.t 1, .t 4], none⟩,
  ⟨none, .store 2, [.t 2, .t 5], none⟩,
  ⟨none, .store 2, [.t 3, .t 6], none⟩] [] [] [1, 2, 3] true [] []
def c60_5 : ACode := .region false [⟨some 7, .build [(.string ⟨#[]⟩), (.int .i64 0), (.int .i64 0), (.int .i64 0), (.int .i64 0), (.int .i64 0)] [], [], none⟩,
  ⟨some 8, .build [(.string ⟨#[]⟩), (.int .i64 0), (.int .i64 0), (.int .i64 0), (.int .i64 0), (.int .i64 0)] [(0, 1)], [.c (.val (.string ⟨#[106, 111, 105, 110]⟩))], none⟩,
  ⟨some 9, .build [(.string ⟨#[]⟩), (.int .i64 0), (.int .i64 0), (.int .i64 0), (.int .i64 0), (.int .i64 0)] [(0, 1), (1, 1)], [.c (.val (.string ⟨#[102, 111, 114, 119, 97, 114, 100]⟩)), .c (.val (.int .i64 3))], none⟩,
  ⟨some 10, .build [(.string ⟨#[]⟩), (.int .i64 0), (.int .i64 0), (.int .i64 0), (.int .i64 0), (.int .i64 0)] [(0, 1), (1, 1)], [.c (.val (.string ⟨#[110, 101, 105, 103, 104, 98, 111, 114]⟩)), .c (.val (.int .i64 4))], none⟩,
  ⟨some 11, .build [(.string ⟨#[]⟩), (.int .i64 0), (.int .i64 0), (.int .i64 0), (.int .i64 0), (.int .i64 0)] [(0, 1)], [.c (.val (.string ⟨#[97, 99, 99, 101, 112, 116]⟩))], none⟩,
  ⟨some 12, .build [(.string ⟨#[]⟩), (.int .i64 0), (.int .i64 0), (.int .i64 0), (.int .i64 0), (.int .i64 0)] [(0, 1)], [.c (.val (.string ⟨#[114, 101, 102, 117, 115, 101]⟩))], none⟩,
  ⟨some 13, .build [(.string ⟨#[]⟩), (.int .i64 0), (.int .i64 0), (.int .i64 0), (.int .i64 0), (.int .i64 0)] [(0, 1)], [.c (.val (.string ⟨#[112, 97, 114, 116]⟩))], none⟩,
  ⟨some 14, .build [(.string ⟨#[]⟩), (.int .i64 0), (.int .i64 0), (.int .i64 0), (.int .i64 0), (.int .i64 0)] [(0, 1), (1, 1)], [.c (.val (.string ⟨#[115, 104, 117, 102, 102, 108, 101]⟩)), .c (.val (.int .i64 11))], none⟩,
  ⟨some 15, .build [(.string ⟨#[]⟩), (.int .i64 0), (.int .i64 0), (.int .i64 0), (.int .i64 0), (.int .i64 0)] [(0, 1), (1, 1)], [.c (.val (.string ⟨#[115, 119, 97, 112]⟩)), .c (.val (.int .i64 8))], none⟩,
  ⟨some 16, .build [(.string ⟨#[]⟩), (.int .i64 0), (.int .i64 0), (.int .i64 0), (.int .i64 0), (.int .i64 0)] [(0, 1)], [.c (.val (.string ⟨#[98, 101, 97, 116]⟩))], none⟩,
  ⟨some 17, .load true 2, [.t 1], none⟩,
  ⟨some 18, .build [(.string ⟨#[]⟩), (.int .i64 0), (.int .i64 0), (.int .i64 0), (.int .i64 0), (.int .i64 0)] [(0, 1), (1, 1), (4, 2)], [.c (.val (.string ⟨#[103, 111, 115, 115, 105, 112]⟩)), .c (.val (.int .i64 256)), .t 17], none⟩,
  ⟨some 19, .load true 2, [.t 2], none⟩,
  ⟨some 20, .build [(.string ⟨#[]⟩), (.int .i64 0), (.int .i64 0), (.int .i64 0), (.int .i64 0), (.int .i64 0)] [(0, 1), (1, 1), (2, 2)], [.c (.val (.string ⟨#[104, 97, 118, 101]⟩)), .c (.val (.int .i64 128)), .t 19], none⟩,
  ⟨some 21, .load true 2, [.t 1], none⟩,
  ⟨some 22, .build [(.string ⟨#[]⟩), (.int .i64 0), (.int .i64 0), (.int .i64 0), (.int .i64 0), (.int .i64 0)] [(0, 1), (1, 1), (2, 2)], [.c (.val (.string ⟨#[103, 114, 97, 102, 116]⟩)), .c (.val (.int .i64 128)), .t 21], none⟩,
  ⟨some 23, .build [(.string ⟨#[]⟩), (.int .i64 0), (.int .i64 0), (.int .i64 0), (.int .i64 0), (.int .i64 0)] [(0, 1)], [.c (.val (.string ⟨#[112, 114, 117, 110, 101]⟩))], none⟩,
  ⟨some 24, .load true 2, [.t 2], none⟩,
  ⟨some 25, .build [(.string ⟨#[]⟩), (.int .i64 0), (.int .i64 0), (.int .i64 0), (.int .i64 0), (.int .i64 0)] [(0, 1), (1, 1), (4, 2)], [.c (.val (.string ⟨#[114, 117, 109, 111, 114, 115]⟩)), .c (.val (.int .i64 256)), .t 24], none⟩,
  ⟨some 26, .load true 2, [.t 3], none⟩,
  ⟨some 27, .load true 2, [.t 3], none⟩,
  ⟨some 28, .build [(.string ⟨#[]⟩), (.int .i64 0), (.int .i64 0), (.int .i64 0), (.int .i64 0), (.int .i64 0)] [(0, 1), (1, 1), (2, 2), (4, 2)], [.c (.val (.string ⟨#[101, 99, 104, 111]⟩)), .c (.val (.int .i64 384)), .t 26, .t 27], none⟩,
  ⟨some 29, .load true 2, [.t 3], none⟩,
  ⟨some 30, .build [(.string ⟨#[]⟩), (.int .i64 0), (.int .i64 0), (.int .i64 0), (.int .i64 0), (.int .i64 0)] [(0, 1), (1, 1), (4, 2)], [.c (.val (.string ⟨#[99, 104, 101, 99, 107]⟩)), .c (.val (.int .i64 304)), .t 29], none⟩,
  ⟨some 31, .load true 2, [.t 3], none⟩,
  ⟨some 32, .build [(.string ⟨#[]⟩), (.int .i64 0), (.int .i64 0), (.int .i64 0), (.int .i64 0), (.int .i64 0)] [(0, 1), (1, 1), (4, 2)], [.c (.val (.string ⟨#[109, 97, 116, 99, 104]⟩)), .c (.val (.int .i64 304)), .t 31], none⟩,
  ⟨some 33, .load true 2, [.t 3], none⟩,
  ⟨some 34, .build [(.string ⟨#[]⟩), (.int .i64 0), (.int .i64 0), (.int .i64 0), (.int .i64 0), (.int .i64 0)] [(0, 1), (1, 1), (4, 2)], [.c (.val (.string ⟨#[112, 101, 101, 108]⟩)), .c (.val (.int .i64 336)), .t 33], none⟩,
  ⟨some 35, .load true 2, [.t 3], none⟩,
  ⟨some 36, .build [(.string ⟨#[]⟩), (.int .i64 0), (.int .i64 0), (.int .i64 0), (.int .i64 0), (.int .i64 0)] [(0, 1), (1, 1), (4, 2)], [.c (.val (.string ⟨#[112, 105, 108, 101]⟩)), .c (.val (.int .i64 368)), .t 35], none⟩,
  ⟨some 37, .buildSl 6 20 [(.string ⟨#[]⟩), (.int .i64 0), (.int .i64 0), (.int .i64 0), (.int .i64 0), (.int .i64 0)] [(0, 6), (6, 6), (12, 6), (18, 6), (24, 6), (30, 6), (36, 6), (42, 6), (48, 6), (54, 6), (60, 6), (66, 6), (72, 6), (78, 6), (84, 6), (90, 6), (96, 6), (102, 6), (108, 6), (114, 6)], [.t 7, .t 8, .t 9, .t 10, .t 11, .t 12, .t 13, .t 14, .t 15, .t 16, .t 18, .t 20, .t 22, .t 23, .t 25, .t 28, .t 30, .t 32, .t 34, .t 36], none⟩,
  ⟨some 0, .move, [.t 37], none⟩] [] [] [0] true [] []
def c60_4 : ACode := .seq c60_5 .ret
def c60_2 : ACode := .seq c60_3 c60_4
def c60_0 : ACode := .seq c60_1 c60_2
def code60 : Code := (Tryz.f60.body).getD .skip
theorem c60_ok : compC Tryz.prog 38 code60 = some (strip c60_0) := by kernel_rfl
theorem res60_ok : Tryz.f60.results.toList.mapM (resC Tryz.prog) = some [(0, none)] := by kernel_rfl
/- quidnunc/wire.formOf -/
def c21_1 : ACode := .region false [⟨some 2, .alloc [(.string ⟨#[]⟩), (.int .i64 0), (.int .i64 0), (.int .i64 0), (.int .i64 0), (.int .i64 0)], [], none⟩,
  ⟨some 3, .move, [.c (.val (.bool false))], none⟩] [] [] [0, 2] true [] []
def c21_3 : ACode := .region false [⟨some 5, .call 60, [], none⟩,
  ⟨some 4, .move, [.t 5], none⟩] [] [] [0, 2, 4] true [] []
def c21_6 : ACode := .region false [⟨some 6, .move, [.t 0], none⟩,
  ⟨some 7, .bin .lss, [.t 6, .c (.val (.int .i64 1))], none⟩,
  ⟨some 8, .move, [.t 7], none⟩,
  ⟨some 9, .move, [.t 0], some (some 8, false)⟩,
  ⟨some 10, .move, [.t 4], some (some 8, false)⟩,
  ⟨some 11, .len, [.t 10], some (some 8, false)⟩,
  ⟨some 12, .bin .geq, [.t 9, .t 11], some (some 8, false)⟩,
  ⟨some 13, .pick, [.t 8, .c (.val (.bool true)), .t 12], none⟩] [] [] [0, 2, 4, 13] false [] []
def c21_9 : ACode := .region false [⟨some 14, .build [(.string ⟨#[]⟩), (.int .i64 0), (.int .i64 0), (.int .i64 0), (.int .i64 0), (.int .i64 0)] [], [], none⟩,
  ⟨none, .store 6, [.t 2, .t 14], none⟩,
  ⟨some 3, .move, [.c (.val (.bool false))], none⟩] [] [] [2, 3] true [] []
def c21_8 : ACode := .seq c21_9 .ret
def c21_7 : ACode := .cond (.t 13) c21_8 .skip
def c21_5 : ACode := .seq c21_6 c21_7
def c21_11 : ACode := .region false [⟨some 15, .move, [.t 4], none⟩,
  ⟨some 16, .move, [.t 0], none⟩,
  ⟨some 17, .ixS 6, [.t 15, .t 16], none⟩,
  ⟨some 18, .load true 6, [.t 17], none⟩,
  ⟨none, .store 6, [.t 2, .t 18], none⟩,
  ⟨some 3, .move, [.c (.val (.bool true))], none⟩] [] [] [2, 3] true [] []
def c21_10 : ACode := .seq c21_11 .ret
def c21_4 : ACode := .seq c21_5 c21_10
def c21_2 : ACode := .seq c21_3 c21_4
def c21_0 : ACode := .seq c21_1 c21_2
def code21 : Code := (Tryz.f21.body).getD .skip
theorem c21_ok : compC Tryz.prog 19 code21 = some (strip c21_0) := by kernel_rfl
theorem res21_ok : Tryz.f21.results.toList.mapM (resC Tryz.prog) = some [(2, some (true, 6)), (3, none)] := by kernel_rfl
/- quidnunc/wire.Name -/
/- quidnunc/quidnuncref16.Name -/
theorem forms_any : ACall Tryz.prog 60 [] [] (Det (.sl 0 0 20 6 none) [.cells false formsC]) := by
  unfold formsC
  refine ACall.startA c60_ok Tryz.func60 rfl Tryz.ntmps60 (by kernel_rfl) res60_ok rfl rfl rfl ?_; simp (maxSteps := 9999999) (disch := omega) only [go_sem]
  (have k9 := k0; refine goK ?_; (try clear k9))
  (have k9 := k0; exact Ret.dk [_])
theorem formof_any (k : Int) : ACall Tryz.prog 21 [I k] [] (Det (.tup [formV k, Bo (kindB k)]) []) := by
  have c := forms_any
  have hL := forms_len
  have hr := forms_ren
  unfold formV
  by_cases h1 : k < 1
  · have e : kindB k = false := by unfold kindB; rw [decide_eq_false (by omega)]; rfl
    have g1 : (k < 1) = True := eq_true h1
    rw [e]
    simp only [cond_false]
    generalize formsC = C at *
    refine ACall.startA c21_ok Tryz.func21 rfl Tryz.ntmps21 (by kernel_rfl) res21_ok rfl rfl rfl ?_; simp (maxSteps := 9999999) (disch := omega) only [go_sem]
    (have k9 := And.intro @g1 (And.intro @hr (k0)); have a1 := Arm.mk [] c; refine goK ?_; (try clear k9); (try clear a1))
    (have k9 := k0; exact Ret.dk [])
  · have g1 : (k < 1) = False := eq_false h1
    by_cases h2 : 20 ≤ k
    · have e : kindB k = false := by unfold kindB; rw [decide_eq_false (p := k ≤ 19) (by omega), Bool.and_false]
      have g2 : (20 ≤ k) = True := eq_true h2
      rw [e]
      simp only [cond_false]
      generalize formsC = C at *
      refine ACall.startA c21_ok Tryz.func21 rfl Tryz.ntmps21 (by kernel_rfl) res21_ok rfl rfl rfl ?_; simp (maxSteps := 9999999) (disch := omega) only [go_sem]
      (have k9 := And.intro @g1 (And.intro @g2 (And.intro @hr (k0))); have a1 := Arm.mk [] c; refine goK ?_; (try clear k9); (try clear a1))
      (have k9 := k0; exact Ret.dk [])
    · have e : kindB k = true := by unfold kindB; rw [decide_eq_true (p := 1 ≤ k) (by omega), decide_eq_true (p := k ≤ 19) (by omega)]; rfl
      have g2 : (20 ≤ k) = False := eq_false h2
      have hat := forms_at k.toNat (by omega)
      rw [e]
      simp only [cond_true]
      generalize formsC = C at *
      refine ACall.startA c21_ok Tryz.func21 rfl Tryz.ntmps21 (by kernel_rfl) res21_ok rfl rfl rfl ?_; simp (maxSteps := 9999999) (disch := omega) only [go_sem]
      (have k9 := And.intro @g1 (And.intro @g2 (And.intro @hr (And.intro @hL (And.intro @hat (k0))))); have a1 := Arm.mk [] c; refine goK ?_; (try clear k9); (try clear a1))
      (have k9 := k0; exact Ret.dk [])
end
end Go.Proofs.YtopidfkmligljaaGreat
