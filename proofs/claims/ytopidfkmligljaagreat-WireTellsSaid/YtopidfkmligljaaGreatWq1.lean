/- Contracts: what the kinds of messages have, and how they are called. -/
import Derived.Test.YtopidfkmligljaaGreatWp4
namespace Go.Proofs.YtopidfkmligljaaGreat
noncomputable section
set_option linter.unusedSimpArgs false
set_option linter.unusedVariables false
set_option maxHeartbeats 4000000
open Go Go.Am Go.RowKit
set_option maxRecDepth 100000
set_option maxHeartbeats 4000000
/-- A kind's name, its fields. -/
def nmW (k : Nat) : ByteArray := if k = 1 then ⟨#[106, 111, 105, 110]⟩ else if k = 2 then ⟨#[102, 111, 114, 119, 97, 114, 100]⟩ else if k = 3 then ⟨#[110, 101, 105, 103, 104, 98, 111, 114]⟩ else if k = 4 then ⟨#[97, 99, 99, 101, 112, 116]⟩ else if k = 5 then ⟨#[114, 101, 102, 117, 115, 101]⟩ else if k = 6 then ⟨#[112, 97, 114, 116]⟩ else if k = 7 then ⟨#[115, 104, 117, 102, 102, 108, 101]⟩ else if k = 8 then ⟨#[115, 119, 97, 112]⟩ else if k = 9 then ⟨#[98, 101, 97, 116]⟩ else if k = 10 then ⟨#[103, 111, 115, 115, 105, 112]⟩ else if k = 11 then ⟨#[104, 97, 118, 101]⟩ else if k = 12 then ⟨#[103, 114, 97, 102, 116]⟩ else if k = 13 then ⟨#[112, 114, 117, 110, 101]⟩ else if k = 14 then ⟨#[114, 117, 109, 111, 114, 115]⟩ else if k = 15 then ⟨#[101, 99, 104, 111]⟩ else if k = 16 then ⟨#[99, 104, 101, 99, 107]⟩ else if k = 17 then ⟨#[109, 97, 116, 99, 104]⟩ else if k = 18 then ⟨#[112, 101, 101, 108]⟩ else if k = 19 then ⟨#[112, 105, 108, 101]⟩ else ⟨#[]⟩
def fldW (k : Nat) : Int := if k = 1 then 0 else if k = 2 then 3 else if k = 3 then 4 else if k = 4 then 0 else if k = 5 then 0 else if k = 6 then 0 else if k = 7 then 11 else if k = 8 then 8 else if k = 9 then 0 else if k = 10 then 256 else if k = 11 then 128 else if k = 12 then 128 else if k = 13 then 0 else if k = 14 then 256 else if k = 15 then 384 else if k = 16 then 304 else if k = 17 then 304 else if k = 18 then 336 else if k = 19 then 368 else 0
abbrev formR (k : Nat) : List AV := [Str (nmW k), I (fldW k), I (manyLo k 7), I (manyHi k 7), I (manyLo k 8), I (manyHi k 8)]
def formsC : List AV := [Str ⟨#[]⟩, I 0, I 0, I 0, I 0, I 0, Str ⟨#[106, 111, 105, 110]⟩, I 0, I 0, I 0, I 0, I 0, Str ⟨#[102, 111, 114, 119, 97, 114, 100]⟩, I 3, I 0, I 0, I 0, I 0, Str ⟨#[110, 101, 105, 103, 104, 98, 111, 114]⟩, I 4, I 0, I 0, I 0, I 0, Str ⟨#[97, 99, 99, 101, 112, 116]⟩, I 0, I 0, I 0, I 0, I 0, Str ⟨#[114, 101, 102, 117, 115, 101]⟩, I 0, I 0, I 0, I 0, I 0, Str ⟨#[112, 97, 114, 116]⟩, I 0, I 0, I 0, I 0, I 0, Str ⟨#[115, 104, 117, 102, 102, 108, 101]⟩, I 11, I 0, I 0, I 0, I 0, Str ⟨#[115, 119, 97, 112]⟩, I 8, I 0, I 0, I 0, I 0, Str ⟨#[98, 101, 97, 116]⟩, I 0, I 0, I 0, I 0, I 0, Str ⟨#[103, 111, 115, 115, 105, 112]⟩, I 256, I 0, I 0, I 1, I 1, Str ⟨#[104, 97, 118, 101]⟩, I 128, I 1, I 8, I 0, I 0, Str ⟨#[103, 114, 97, 102, 116]⟩, I 128, I 1, I 1, I 0, I 0, Str ⟨#[112, 114, 117, 110, 101]⟩, I 0, I 0, I 0, I 0, I 0, Str ⟨#[114, 117, 109, 111, 114, 115]⟩, I 256, I 0, I 0, I 1, I 8, Str ⟨#[101, 99, 104, 111]⟩, I 384, I 0, I 8, I 0, I 8, Str ⟨#[99, 104, 101, 99, 107]⟩, I 304, I 0, I 0, I 0, I 8, Str ⟨#[109, 97, 116, 99, 104]⟩, I 304, I 0, I 0, I 0, I 8, Str ⟨#[112, 101, 101, 108]⟩, I 336, I 0, I 0, I 0, I 8, Str ⟨#[112, 105, 108, 101]⟩, I 368, I 0, I 0, I 0, I 8]
theorem forms_len : formsC.length = 120 := rfl
theorem forms_at : ∀ k, k < 20 → (formsC.drop (k * 6)).take 6 = formR k
  | 0, _ => rfl
  | 1, _ => rfl
  | 2, _ => rfl
  | 3, _ => rfl
  | 4, _ => rfl
  | 5, _ => rfl
  | 6, _ => rfl
  | 7, _ => rfl
  | 8, _ => rfl
  | 9, _ => rfl
  | 10, _ => rfl
  | 11, _ => rfl
  | 12, _ => rfl
  | 13, _ => rfl
  | 14, _ => rfl
  | 15, _ => rfl
  | 16, _ => rfl
  | 17, _ => rfl
  | 18, _ => rfl
  | 19, _ => rfl
  | n + 20, h => absurd h (by omega)
theorem forms_ren (ρ : List Nat) : renL ρ formsC = formsC := by unfold formsC; simp [renL, ren]
/-- Is there such a kind? -/
def kindB (k : Int) : Bool := decide (1 ≤ k) && decide (k ≤ 19)
def formV (k : Int) : AV := cond (kindB k) (.agg (formR k.toNat)) (.agg [Str ⟨#[]⟩, I 0, I 0, I 0, I 0, I 0])
/- quidnunc/wire.forms -/
def c60_1 : ACode := .region false [⟨some 0, .move, [.c (.val (.slice none 0 0))], none⟩] [] [] [] false [] []
def c60_3 : ACode := .region false [⟨some 4, .build [(.int .i64 0), (.int .i64 0)] [(0, 1), (1, 1)], [.c (.val (.int .i64 1)), .c (.val (.int .i64 1))], none⟩,
  ⟨some 5, .build [(.int .i64 0), (.int .i64 0)] [(0, 1), (1, 1)], [.c (.val (.int .i64 1)), .c (.val (.int .i64 8))], none⟩,
  ⟨some 6, .build [(.int .i64 0), (.int .i64 0)] [(0, 1), (1, 1)], [.c (.val (.int .i64 0)), .c (.val (.int .i64 8))], none⟩,
  ⟨some 1, .alloc [(.int .i64 0), (.int .i64 0)], [], none⟩,
  ⟨some 2, .alloc [(.int .i64 0), (.int .i64 0)], [], none⟩,
  ⟨some 3, .alloc [(.int .i64 0), (.int .i64 0)], [], none⟩,
  ⟨none, .store 2, [.t 1, .t 4], none⟩,
  ⟨none, .store 2, [.t 2, .t 5], none⟩,
  ⟨none, .store 2, [.t 3, .t 6], none⟩] [] [] [1, 2, 3] true [] []
def c60_5 : ACode := .region false [⟨some 7, .build [(.string ⟨#[]⟩), (.int .i64 0), (.int .i64 0), (.int .i64 0), (.int .i64 0), (.int .i64 0)] [], [], none⟩,
  ⟨some 8, .build [(.string ⟨#[]⟩), (.int .i64 0), (.int .i64 0), (.int .i64 0), (.int .i64 0), (.int .i64 0)] [(0, 1)], [.c (.val (.string ⟨#[106, 111, 105, 110]⟩))], none⟩,
  ⟨some 9, .build [(.string ⟨#[]⟩), (.int .i64 0), (.int .i64 0), (.int .i64 0), (.int .i64 0), (.int .i64 0)] [(0, 1), (1, 1)], [.c (.val (.string ⟨#[102, 111, 114, 119, 97, 114, 100]⟩)), .c (.val (.int .i64 3))], none⟩,
  ⟨some 10, .build [(.string ⟨#[]⟩), (.int .i64 0), (.int .i64 0), (.int .i64 0), (.int .i64 0), (.int .i64 0)] [(0, 1), (1, 1)], [.c (.val (.string ⟨#[110, 101, 105, 103, 104, 98, 111, 114]⟩)), .c (.val (.int .i64 4))], none⟩,
  ⟨some 11, .build [(.string ⟨#[]⟩), (.int .i64 0), (.int .i64 0), (.int .i64 0), (.int .i64 0), (.int .i64 0)] [(0, 1)], [.c (.val (.string ⟨#[97, 99, 99, 101, 112, 116]⟩))], none⟩,
  ⟨some 12, .build [(.string ⟨#[]⟩), (.int .i64 0), (.int .i64 0), (.int .i64 0), (.int .i64 0), (.int .i64 0)] [(0, 1)], [.c (.val (.string ⟨#[114, 101, 102, 117, 115, 101]⟩))], none⟩,
  ⟨some 13, .build [(.string ⟨#[]⟩), (.int .i64 0), (.int .i64 0), (.int .i64 0), (.int .i64 0), (.int .i64 0)] [(0, 1)], [.c (.val (.string ⟨#[112, 97, 114, 116]⟩))], none⟩,
  ⟨some 14, .build [(.string ⟨#[]⟩), (.int .i64 0), (.int .i64 0), (.int .i64 0), (.int .i64 0), (.int .i64 0)] [(0, 1), (1, 1)], [.c (.val (.string ⟨#[115, 104, 117, 102, 102, 108, 101]⟩)), .c (.val (.int .i64 11))], none⟩,
  ⟨some 15, .build [(.string ⟨#[]⟩), (.int .i64 0), (.int .i64 0), (.int .i64 0), (.int .i64 0), (.int .i64 0)] [(0, 1), (1, 1)], [.c (.val (.string ⟨#[115, 119, 97, 112]⟩)), .c (.val (.int .i64 8))], none⟩,
  ⟨some 16, .build [(.string ⟨#[]⟩), (.int .i64 0), (.int .i64 0), (.int .i64 0), (.int .i64 0), (.int .i64 0)] [(0, 1)], [.c (.val (.string ⟨#[98, 101, 97, 116]⟩))], none⟩,
  ⟨some 17, .load true 2, [.t 1], none⟩,
  ⟨some 18, .build [(.string ⟨#[]⟩), (.int .i64 0), (.int .i64 0), (.int .i64 0), (.int .i64 0), (.int .i64 0)] [(0, 1), (1, 1), (4, 2)], [.c (.val (.string ⟨#[103, 111, 115, 115, 105, 112]⟩)), .c (.val (.int .i64 256)), .t 17], none⟩,
  ⟨some 19, .load true 2, [.t 2], none⟩,
  ⟨some 20, .build [(.string ⟨#[]⟩), (.int .i64 0), (.int .i64 0), (.int .i64 0), (.int .i64 0), (.int .i64 0)] [(0, 1), (1, 1), (2, 2)], [.c (.val (.string ⟨#[104, 97, 118, 101]⟩)), .c (.val (.int .i64 128)), .t 19], none⟩,
  ⟨some 21, .load true 2, [.t 1], none⟩,
  ⟨some 22, .build [(.string ⟨#[]⟩), (.int .i64 0), (.int .i64 0), (.int .i64 0), (.int .i64 0), (.int .i64 0)] [(0, 1), (1, 1), (2, 2)], [.c (.val (.string ⟨#[103, 114, 97, 102, 116]⟩)), .c (.val (.int .i64 128)), .t 21], none⟩,
  ⟨some 23, .build [(.string ⟨#[]⟩), (.int .i64 0), (.int .i64 0), (.int .i64 0), (.int .i64 0), (.int .i64 0)] [(0, 1)], [.c (.val (.string ⟨#[112, 114, 117, 110, 101]⟩))], none⟩,
  ⟨some 24, .load true 2, [.t 2], none⟩,
  ⟨some 25, .build [(.string ⟨#[]⟩), (.int .i64 0), (.int .i64 0), (.int .i64 0), (.int .i64 0), (.int .i64 0)] [(0, 1), (1, 1), (4, 2)], [.c (.val (.string ⟨#[114, 117, 109, 111, 114, 115]⟩)), .c (.val (.int .i64 256)), .t 24], none⟩,
  ⟨some 26, .load true 2, [.t 3], none⟩,
  ⟨some 27, .load true 2, [.t 3], none⟩,
  ⟨some 28, .build [(.string ⟨#[]⟩), (.int .i64 0), (.int .i64 0), (.int .i64 0), (.int .i64 0), (.int .i64 0)] [(0, 1), (1, 1), (2, 2), (4, 2)], [.c (.val (.string ⟨#[101, 99, 104, 111]⟩)), .c (.val (.int .i64 384)), .t 26, .t 27], none⟩,
  ⟨some 29, .load true 2, [.t 3], none⟩,
  ⟨some 30, .build [(.string ⟨#[]⟩), (.int .i64 0), (.int .i64 0), (.int .i64 0), (.int .i64 0), (.int .i64 0)] [(0, 1), (1, 1), (4, 2)], [.c (.val (.string ⟨#[99, 104, 101, 99, 107]⟩)), .c (.val (.int .i64 304)), .t 29], none⟩,
  ⟨some 31, .load true 2, [.t 3], none⟩,
  ⟨some 32, .build [(.string ⟨#[]⟩), (.int .i64 0), (.int .i64 0), (.int .i64 0), (.int .i64 0), (.int .i64 0)] [(0, 1), (1, 1), (4, 2)], [.c (.val (.string ⟨#[109, 97, 116, 99, 104]⟩)), .c (.val (.int .i64 304)), .t 31], none⟩,
  ⟨some 33, .load true 2, [.t 3], none⟩,
  ⟨some 34, .build [(.string ⟨#[]⟩), (.int .i64 0), (.int .i64 0), (.int .i64 0), (.int .i64 0), (.int .i64 0)] [(0, 1), (1, 1), (4, 2)], [.c (.val (.string ⟨#[112, 101, 101, 108]⟩)), .c (.val (.int .i64 336)), .t 33], none⟩,
  ⟨some 35, .load true 2, [.t 3], none⟩,
  ⟨some 36, .build [(.string ⟨#[]⟩), (.int .i64 0), (.int .i64 0), (.int .i64 0), (.int .i64 0), (.int .i64 0)] [(0, 1), (1, 1), (4, 2)], [.c (.val (.string ⟨#[112, 105, 108, 101]⟩)), .c (.val (.int .i64 368)), .t 35], none⟩,
  ⟨some 37, .buildSl 6 20 [(.string ⟨#[]⟩), (.int .i64 0), (.int .i64 0), (.int .i64 0), (.int .i64 0), (.int .i64 0)] [(0, 6), (6, 6), (12, 6), (18, 6), (24, 6), (30, 6), (36, 6), (42, 6), (48, 6), (54, 6), (60, 6), (66, 6), (72, 6), (78, 6), (84, 6), (90, 6), (96, 6), (102, 6), (108, 6), (114, 6)], [.t 7, .t 8, .t 9, .t 10, .t 11, .t 12, .t 13, .t 14, .t 15, .t 16, .t 18, .t 20, .t 22, .t 23, .t 25, .t 28, .t 30, .t 32, .t 34, .t 36], none⟩,
  ⟨some 0, .move, [.t 37], none⟩] [] [] [0] true [] []
def c60_4 : ACode := .seq c60_5 .ret
def c60_2 : ACode := .seq c60_3 c60_4
def c60_0 : ACode := .seq c60_1 c60_2
def code60 : Code := (Tryz.f60.body).getD .skip
theorem c60_ok : compC Tryz.prog 38 code60 = some (strip c60_0) := by kernel_rfl
theorem res60_ok : Tryz.f60.results.toList.mapM (resC Tryz.prog) = some [(0, none)] := by kernel_rfl
/- quidnunc/wire.formOf -/
def c21_1 : ACode := .region false [⟨some 2, .alloc [(.string ⟨#[]⟩), (.int .i64 0), (.int .i64 0), (.int .i64 0), (.int .i64 0), (.int .i64 0)], [], none⟩,
  ⟨some 3, .move, [.c (.val (.bool false))], none⟩] [] [] [0, 2] true [] []
def c21_3 : ACode := .region false [⟨some 5, .call 60, [], none⟩,
  ⟨some 4, .move, [.t 5], none⟩] [] [] [0, 2, 4] true [] []
def c21_6 : ACode := .region false [⟨some 6, .move, [.t 0], none⟩,
  ⟨some 7, .bin .lss, [.t 6, .c (.val (.int .i64 1))], none⟩,
  ⟨some 8, .move, [.t 7], none⟩,
  ⟨some 9, .move, [.t 0], some (some 8, false)⟩,
  ⟨some 10, .move, [.t 4], some (some 8, false)⟩,
  ⟨some 11, .len, [.t 10], some (some 8, false)⟩,
  ⟨some 12, .bin .geq, [.t 9, .t 11], some (some 8, false)⟩,
  ⟨some 13, .pick, [.t 8, .c (.val (.bool true)), .t 12], none⟩] [] [] [0, 2, 4, 13] false [] []
def c21_9 : ACode := .region false [⟨some 14, .build [(.string ⟨#[]⟩), (.int .i64 0), (.int .i64 0), (.int .i64 0), (.int .i64 0), (.int .i64 0)] [], [], none⟩,
  ⟨none, .store 6, [.t 2, .t 14], none⟩,
  ⟨some 3, .move, [.c (.val (.bool false))], none⟩] [] [] [2, 3] true [] []
def c21_8 : ACode := .seq c21_9 .ret
def c21_7 : ACode := .cond (.t 13) c21_8 .skip
def c21_5 : ACode := .seq c21_6 c21_7
def c21_11 : ACode := .region false [⟨some 15, .move, [.t 4], none⟩,
  ⟨some 16, .move, [.t 0], none⟩,
  ⟨some 17, .ixS 6, [.t 15, .t 16], none⟩,
  ⟨some 18, .load true 6, [.t 17], none⟩,
  ⟨none, .store 6, [.t 2, .t 18], none⟩,
  ⟨some 3, .move, [.c (.val (.bool true))], none⟩] [] [] [2, 3] true [] []
def c21_10 : ACode := .seq c21_11 .ret
def c21_4 : ACode := .seq c21_5 c21_10
def c21_2 : ACode := .seq c21_3 c21_4
def c21_0 : ACode := .seq c21_1 c21_2
def code21 : Code := (Tryz.f21.body).getD .skip
theorem c21_ok : compC Tryz.prog 19 code21 = some (strip c21_0) := by kernel_rfl
theorem res21_ok : Tryz.f21.results.toList.mapM (resC Tryz.prog) = some [(2, some (true, 6)), (3, none)] := by kernel_rfl
/- quidnunc/wire.Name -/
def c18_1 : ACode := .region false [⟨some 2, .move, [.c (.val (.string ⟨#[]⟩))], none⟩] [] [] [0] false [] []
def c18_3 : ACode := .region false [⟨some 6, .move, [.t 0], none⟩,
  ⟨some 7, .call 21, [.t 6], none⟩,
  ⟨some 5, .move, [.t 7], none⟩,
  ⟨some 8, .ext 0, [.t 5], none⟩,
  ⟨some 9, .ext 1, [.t 5], none⟩,
  ⟨some 3, .alloc [(.string ⟨#[]⟩), (.int .i64 0), (.int .i64 0), (.int .i64 0), (.int .i64 0), (.int .i64 0)], [], none⟩,
  ⟨none, .store 6, [.t 3, .t 8], none⟩,
  ⟨some 4, .move, [.t 9], none⟩] [] [] [3] true [] []
def c18_5 : ACode := .region false [⟨some 10, .addr 0, [.t 3], none⟩,
  ⟨some 11, .load false 1, [.t 10], none⟩,
  ⟨some 2, .move, [.t 11], none⟩] [] [] [2] false [] []
def c18_4 : ACode := .seq c18_5 .ret
def c18_2 : ACode := .seq c18_3 c18_4
def c18_0 : ACode := .seq c18_1 c18_2
def code18 : Code := (Tryz.f18.body).getD .skip
theorem c18_ok : compC Tryz.prog 12 code18 = some (strip c18_0) := by kernel_rfl
theorem res18_ok : Tryz.f18.results.toList.mapM (resC Tryz.prog) = some [(2, none)] := by kernel_rfl
/- quidnunc/quidnuncref16.Name -/
def c19_1 : ACode := .region false [⟨some 2, .move, [.c (.val (.string ⟨#[]⟩))], none⟩] [] [] [0] false [] []
def c19_4 : ACode := .region false [⟨some 4, .move, [.t 0], none⟩,
  ⟨some 5, .bin .lss, [.t 4, .c (.val (.int .i64 1))], none⟩,
  ⟨some 6, .move, [.t 5], none⟩,
  ⟨some 7, .move, [.t 0], some (some 6, false)⟩,
  ⟨some 8, .bin .gtr, [.t 7, .c (.val (.int .i64 19))], some (some 6, false)⟩,
  ⟨some 9, .pick, [.t 6, .c (.val (.bool true)), .t 8], none⟩] [] [] [0, 9] false [] []
def c19_7 : ACode := .region false [⟨some 2, .move, [.c (.val (.string ⟨#[]⟩))], none⟩] [] [] [2] false [] []
def c19_6 : ACode := .seq c19_7 .ret
def c19_5 : ACode := .cond (.t 9) c19_6 .skip
def c19_3 : ACode := .seq c19_4 c19_5
def c19_9 : ACode := .region false [⟨some 10, .buildSl 1 19 [(.string ⟨#[]⟩)] [(0, 1), (1, 1), (2, 1), (3, 1), (4, 1), (5, 1), (6, 1), (7, 1), (8, 1), (9, 1), (10, 1), (11, 1), (12, 1), (13, 1), (14, 1), (15, 1), (16, 1), (17, 1), (18, 1)], [.c (.val (.string ⟨#[106, 111, 105, 110]⟩)), .c (.val (.string ⟨#[102, 111, 114, 119, 97, 114, 100]⟩)), .c (.val (.string ⟨#[110, 101, 105, 103, 104, 98, 111, 114]⟩)), .c (.val (.string ⟨#[97, 99, 99, 101, 112, 116]⟩)), .c (.val (.string ⟨#[114, 101, 102, 117, 115, 101]⟩)), .c (.val (.string ⟨#[112, 97, 114, 116]⟩)), .c (.val (.string ⟨#[115, 104, 117, 102, 102, 108, 101]⟩)), .c (.val (.string ⟨#[115, 119, 97, 112]⟩)), .c (.val (.string ⟨#[98, 101, 97, 116]⟩)), .c (.val (.string ⟨#[103, 111, 115, 115, 105, 112]⟩)), .c (.val (.string ⟨#[104, 97, 118, 101]⟩)), .c (.val (.string ⟨#[103, 114, 97, 102, 116]⟩)), .c (.val (.string ⟨#[112, 114, 117, 110, 101]⟩)), .c (.val (.string ⟨#[114, 117, 109, 111, 114, 115]⟩)), .c (.val (.string ⟨#[101, 99, 104, 111]⟩)), .c (.val (.string ⟨#[99, 104, 101, 99, 107]⟩)), .c (.val (.string ⟨#[109, 97, 116, 99, 104]⟩)), .c (.val (.string ⟨#[112, 101, 101, 108]⟩)), .c (.val (.string ⟨#[112, 105, 108, 101]⟩))], none⟩,
  ⟨some 3, .move, [.t 10], none⟩] [] [] [0, 3] true [] []
def c19_11 : ACode := .region false [⟨some 11, .move, [.t 3], none⟩,
  ⟨some 12, .move, [.t 0], none⟩,
  ⟨some 13, .bin .sub, [.t 12, .c (.val (.int .i64 1))], none⟩,
  ⟨some 14, .ixS 1, [.t 11, .t 13], none⟩,
  ⟨some 15, .load false 1, [.t 14], none⟩,
  ⟨some 2, .move, [.t 15], none⟩] [] [] [2] false [] []
def c19_10 : ACode := .seq c19_11 .ret
def c19_8 : ACode := .seq c19_9 c19_10
def c19_2 : ACode := .seq c19_3 c19_8
def c19_0 : ACode := .seq c19_1 c19_2
def code19 : Code := (Tryz.f19.body).getD .skip
theorem c19_ok : compC Tryz.prog 16 code19 = some (strip c19_0) := by kernel_rfl
theorem res19_ok : Tryz.f19.results.toList.mapM (resC Tryz.prog) = some [(2, none)] := by kernel_rfl
theorem forms_any : ACall Tryz.prog 60 [] [] (Det (.sl 0 0 20 6 none) [.cells false formsC]) := by
  unfold formsC
  refine ACall.startA c60_ok Tryz.func60 rfl Tryz.ntmps60 (by kernel_rfl) res60_ok rfl rfl rfl ?_; simp (maxSteps := 9999999) (disch := omega) only [go_sem]
  (have k9 := k0; refine goK ?_; (try clear k9))
  (have k9 := k0; exact Ret.dk [_])
theorem formof_any (k : Int) : ACall Tryz.prog 21 [I k] [] (Det (.tup [formV k, Bo (kindB k)]) []) := by
  have c := forms_any
  have hL := forms_len
  have hr := forms_ren
  unfold formV
  by_cases h1 : k < 1
  · have e : kindB k = false := by unfold kindB; rw [decide_eq_false (by omega)]; rfl
    have g1 : (k < 1) = True := eq_true h1
    rw [e]
    simp only [cond_false]
    generalize formsC = C at *
    refine ACall.startA c21_ok Tryz.func21 rfl Tryz.ntmps21 (by kernel_rfl) res21_ok rfl rfl rfl ?_; simp (maxSteps := 9999999) (disch := omega) only [go_sem]
    (have k9 := And.intro @g1 (And.intro @hr (k0)); have a1 := Arm.mk [] c; refine goK ?_; (try clear k9); (try clear a1))
    (have k9 := k0; exact Ret.dk [])
  · have g1 : (k < 1) = False := eq_false h1
    by_cases h2 : 20 ≤ k
    · have e : kindB k = false := by unfold kindB; rw [decide_eq_false (p := k ≤ 19) (by omega), Bool.and_false]
      have g2 : (20 ≤ k) = True := eq_true h2
      rw [e]
      simp only [cond_false]
      generalize formsC = C at *
      refine ACall.startA c21_ok Tryz.func21 rfl Tryz.ntmps21 (by kernel_rfl) res21_ok rfl rfl rfl ?_; simp (maxSteps := 9999999) (disch := omega) only [go_sem]
      (have k9 := And.intro @g1 (And.intro @g2 (And.intro @hr (k0))); have a1 := Arm.mk [] c; refine goK ?_; (try clear k9); (try clear a1))
      (have k9 := k0; exact Ret.dk [])
    · have e : kindB k = true := by unfold kindB; rw [decide_eq_true (p := 1 ≤ k) (by omega), decide_eq_true (p := k ≤ 19) (by omega)]; rfl
      have g2 : (20 ≤ k) = False := eq_false h2
      have hat := forms_at k.toNat (by omega)
      rw [e]
      simp only [cond_true]
      generalize formsC = C at *
      refine ACall.startA c21_ok Tryz.func21 rfl Tryz.ntmps21 (by kernel_rfl) res21_ok rfl rfl rfl ?_; simp (maxSteps := 9999999) (disch := omega) only [go_sem]
      (have k9 := And.intro @g1 (And.intro @g2 (And.intro @hr (And.intro @hL (And.intro @hat (k0))))); have a1 := Arm.mk [] c; refine goK ?_; (try clear k9); (try clear a1))
      (have k9 := k0; exact Ret.dk [])
def nameW (k : Int) : ByteArray := cond (kindB k) (nmW k.toNat) ⟨#[]⟩
theorem wname_any (k : Int) : ACall Tryz.prog 18 [I k] [] (Det (Str (nameW k)) []) := by
  have c := formof_any k
  unfold nameW
  unfold formV at c
  generalize kindB k = b at *
  cases b
  all_goals
    simp only [cond_true, cond_false] at c ⊢
    refine ACall.startA c18_ok Tryz.func18 rfl Tryz.ntmps18 (by kernel_rfl) res18_ok rfl rfl rfl ?_; simp (maxSteps := 9999999) (disch := omega) only [go_sem]
    (have k9 := k0; have a1 := Arm.mk [] c; refine goK ?_; (try clear k9); (try clear a1))
    (have k9 := k0; exact Ret.dk [])
def namesC : List AV := [Str ⟨#[106, 111, 105, 110]⟩, Str ⟨#[102, 111, 114, 119, 97, 114, 100]⟩, Str ⟨#[110, 101, 105, 103, 104, 98, 111, 114]⟩, Str ⟨#[97, 99, 99, 101, 112, 116]⟩, Str ⟨#[114, 101, 102, 117, 115, 101]⟩, Str ⟨#[112, 97, 114, 116]⟩, Str ⟨#[115, 104, 117, 102, 102, 108, 101]⟩, Str ⟨#[115, 119, 97, 112]⟩, Str ⟨#[98, 101, 97, 116]⟩, Str ⟨#[103, 111, 115, 115, 105, 112]⟩, Str ⟨#[104, 97, 118, 101]⟩, Str ⟨#[103, 114, 97, 102, 116]⟩, Str ⟨#[112, 114, 117, 110, 101]⟩, Str ⟨#[114, 117, 109, 111, 114, 115]⟩, Str ⟨#[101, 99, 104, 111]⟩, Str ⟨#[99, 104, 101, 99, 107]⟩, Str ⟨#[109, 97, 116, 99, 104]⟩, Str ⟨#[112, 101, 101, 108]⟩, Str ⟨#[112, 105, 108, 101]⟩]
theorem names_at : ∀ k, k < 19 → namesC.getD k .bad = Str (nmW (k + 1))
  | 0, _ => rfl
  | 1, _ => rfl
  | 2, _ => rfl
  | 3, _ => rfl
  | 4, _ => rfl
  | 5, _ => rfl
  | 6, _ => rfl
  | 7, _ => rfl
  | 8, _ => rfl
  | 9, _ => rfl
  | 10, _ => rfl
  | 11, _ => rfl
  | 12, _ => rfl
  | 13, _ => rfl
  | 14, _ => rfl
  | 15, _ => rfl
  | 16, _ => rfl
  | 17, _ => rfl
  | 18, _ => rfl
  | n + 19, h => absurd h (by omega)
theorem rname_any (k : Int) : ACall Tryz.prog 19 [I k] [] (Det (Str (nameW k)) []) := by
  unfold nameW
  by_cases h1 : k < 1
  · have e : kindB k = false := by unfold kindB; rw [decide_eq_false (by omega)]; rfl
    have g1 : (k < 1) = True := eq_true h1
    rw [e]
    refine ACall.startA c19_ok Tryz.func19 rfl Tryz.ntmps19 (by kernel_rfl) res19_ok rfl rfl rfl ?_; simp (maxSteps := 9999999) (disch := omega) only [go_sem]
    (have k9 := And.intro @g1 (k0); (repeat' (first | refine AWpA.seq ?_ | refine AWpA.block ?_ | (with_reducible refine CondP.tt ?_) | (with_reducible refine CondP.ff ?_) | refine AWpA.cg ?_ | ((first | refine AWpA.rg ?_ | refine AWpA.dg [] [] follows ?_ | refine TailK.tg ?_ | refine AWpA.skip ?_ | refine AWpA.exit ?_ | refine AWpA.ret ?_ | (with_reducible refine ARoundsA.succ ?_) | ((first | refine Runs.gkt (fun h9 => ?_) | refine Runs.gkf (fun h9 => ?_) | refine Runs.gnt (fun h9 => ?_) | refine Runs.gnf (fun h9 => ?_) | refine CondP.gt (fun h9 => ?_) | refine CondP.gf (fun h9 => ?_) | refine CondP.gnt (fun h9 => ?_) | refine CondP.gnf (fun h9 => ?_)); (try simp only [h9]); clear h9)); (try simp (maxSteps := 9999999) (disch := omega) only [go_sem, k9]); (try refine cnd ?_)) | ((first | refine CondP.split (fun hif => ?_) (fun hif => ?_) | refine Runs.part (fun hif => ?_) (fun hif => ?_)) <;> ((try simp only [hif]); (try simp only [BL] at hif); (try (have h9 : _ = true := hif; simp only [h9])); (try (have h9 : _ = false := hif; simp only [h9])); (try simp (maxSteps := 9999999) (disch := omega) only [go_sem, k9]); (try refine cnd ?_); (try (exfalso; omega; done)))))); (all_goals (try clear k9)))
    (apply Ret.det []; (focus (first | exact .inl rfl | exact .inr rfl)); (focus (simp (maxSteps := 9999999) (disch := omega) only [go_sem, cond_false]; rfl)); (simp (maxSteps := 9999999) (disch := omega) only [go_sem, cond_false]; (try (repeat' (first | done | trivial | rfl | exact leAs_rfl _ | decide | (refine And.intro ?_ ?_) | (simp; done) | omega | (simp; decide))))))
  · have g1 : (k < 1) = False := eq_false h1
    by_cases h2 : 19 < k
    · have e : kindB k = false := by unfold kindB; rw [decide_eq_false (p := k ≤ 19) (by omega), Bool.and_false]
      have g2 : (19 < k) = True := eq_true h2
      rw [e]
      refine ACall.startA c19_ok Tryz.func19 rfl Tryz.ntmps19 (by kernel_rfl) res19_ok rfl rfl rfl ?_; simp (maxSteps := 9999999) (disch := omega) only [go_sem]
      (have k9 := And.intro @g1 (And.intro @g2 (k0)); (repeat' (first | refine AWpA.seq ?_ | refine AWpA.block ?_ | (with_reducible refine CondP.tt ?_) | (with_reducible refine CondP.ff ?_) | refine AWpA.cg ?_ | ((first | refine AWpA.rg ?_ | refine AWpA.dg [] [] follows ?_ | refine TailK.tg ?_ | refine AWpA.skip ?_ | refine AWpA.exit ?_ | refine AWpA.ret ?_ | (with_reducible refine ARoundsA.succ ?_) | ((first | refine Runs.gkt (fun h9 => ?_) | refine Runs.gkf (fun h9 => ?_) | refine Runs.gnt (fun h9 => ?_) | refine Runs.gnf (fun h9 => ?_) | refine CondP.gt (fun h9 => ?_) | refine CondP.gf (fun h9 => ?_) | refine CondP.gnt (fun h9 => ?_) | refine CondP.gnf (fun h9 => ?_)); (try simp only [h9]); clear h9)); (try simp (maxSteps := 9999999) (disch := omega) only [go_sem, k9]); (try refine cnd ?_)) | ((first | refine CondP.split (fun hif => ?_) (fun hif => ?_) | refine Runs.part (fun hif => ?_) (fun hif => ?_)) <;> ((try simp only [hif]); (try simp only [BL] at hif); (try (have h9 : _ = true := hif; simp only [h9])); (try (have h9 : _ = false := hif; simp only [h9])); (try simp (maxSteps := 9999999) (disch := omega) only [go_sem, k9]); (try refine cnd ?_); (try (exfalso; omega; done)))))); (all_goals (try clear k9)))
      (apply Ret.det []; (focus (first | exact .inl rfl | exact .inr rfl)); (focus (simp (maxSteps := 9999999) (disch := omega) only [go_sem, cond_false]; rfl)); (simp (maxSteps := 9999999) (disch := omega) only [go_sem, cond_false]; (try (repeat' (first | done | trivial | rfl | exact leAs_rfl _ | decide | (refine And.intro ?_ ?_) | (simp; done) | omega | (simp; decide))))))
    · have e : kindB k = true := by unfold kindB; rw [decide_eq_true (p := 1 ≤ k) (by omega), decide_eq_true (p := k ≤ 19) (by omega)]; rfl
      have g2 : (19 < k) = False := eq_false h2
      have hat := names_at (k.toNat - 1) (by omega)
      rw [show k.toNat - 1 + 1 = k.toNat by omega, show k.toNat - 1 = (k - 1).toNat by omega] at hat
      unfold namesC at hat
      rw [e]
      simp only [cond_true]
      refine ACall.startA c19_ok Tryz.func19 rfl Tryz.ntmps19 (by kernel_rfl) res19_ok rfl rfl rfl ?_; simp (maxSteps := 9999999) (disch := omega) only [go_sem]
      (have k9 := And.intro @g1 (And.intro @g2 (And.intro @hat (k0))); (repeat' (first | refine AWpA.seq ?_ | refine AWpA.block ?_ | (with_reducible refine CondP.tt ?_) | (with_reducible refine CondP.ff ?_) | refine AWpA.cg ?_ | ((first | refine AWpA.rg ?_ | refine AWpA.dg [] [] follows ?_ | refine TailK.tg ?_ | refine AWpA.skip ?_ | refine AWpA.exit ?_ | refine AWpA.ret ?_ | (with_reducible refine ARoundsA.succ ?_) | ((first | refine Runs.gkt (fun h9 => ?_) | refine Runs.gkf (fun h9 => ?_) | refine Runs.gnt (fun h9 => ?_) | refine Runs.gnf (fun h9 => ?_) | refine CondP.gt (fun h9 => ?_) | refine CondP.gf (fun h9 => ?_) | refine CondP.gnt (fun h9 => ?_) | refine CondP.gnf (fun h9 => ?_)); (try simp only [h9]); clear h9)); (try simp (maxSteps := 9999999) (disch := omega) only [go_sem, k9]); (try refine cnd ?_)) | ((first | refine CondP.split (fun hif => ?_) (fun hif => ?_) | refine Runs.part (fun hif => ?_) (fun hif => ?_)) <;> ((try simp only [hif]); (try simp only [BL] at hif); (try (have h9 : _ = true := hif; simp only [h9])); (try (have h9 : _ = false := hif; simp only [h9])); (try simp (maxSteps := 9999999) (disch := omega) only [go_sem, k9]); (try refine cnd ?_); (try (exfalso; omega; done)))))); (all_goals (try clear k9)))
      (apply Ret.det []; (focus (first | exact .inl rfl | exact .inr rfl)); (focus (simp (maxSteps := 9999999) (disch := omega) only [go_sem]; rfl)); (simp (maxSteps := 9999999) (disch := omega) only [go_sem]; (try (repeat' (first | done | trivial | rfl | exact leAs_rfl _ | decide | (refine And.intro ?_ ?_) | (simp; done) | omega | (simp; decide))))))
end
end Go.Proofs.YtopidfkmligljaaGreat
