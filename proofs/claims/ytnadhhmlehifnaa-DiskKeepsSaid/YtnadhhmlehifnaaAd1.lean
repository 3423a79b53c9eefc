/- Contracts: a disk. -/
import Derived.Test.YtnadhhmlehifnaaEg4
import Derived.Test.YtnadhhmlehifnaaAb
import Derived.Test.YtnadhhmlehifnaaAbc
namespace Go.Proofs.Ytnadhhmlehifnaa
set_option linter.unusedSimpArgs false
set_option linter.unusedVariables false
set_option maxHeartbeats 4000000
open Go Go.Am
set_option maxRecDepth 100000
abbrev nilP6 : AV := .val (.pointer none)
/-- A disk: its bytes, how many are safe, whether there is no power, and how many calls may be done yet. -/
structure Dk where
  l : List Int
  s : Nat
  off : Bool
  left : Int
structure Dk.ok (d : Dk) : Prop where
  s : d.s ≤ d.l.length
  l : d.l.length ≤ 1048576
  lo : -1 ≤ d.left
  hi : d.left ≤ 9223372036854775807
def leftU (x : Int) : Int := if 0 < x then x - 1 else x
theorem leftU_ok {x : Int} (h1 : -1 ≤ x) (h2 : x ≤ 9223372036854775807) : -1 ≤ leftU x ∧ leftU x ≤ 9223372036854775807 := by
  unfold leftU; split <;> omega
/-- A change of a disk, that may be wrong. -/
def doD (d : Dk) (wrong : Int) (f : Dk → Dk) : Dk := if d.off = true then d else if wrong ≠ 0 then d else if d.left = 0 then { d with off := true } else f { d with left := leftU d.left }
def doE (d : Dk) (wrong : Int) : Int := if d.off = true then 11 else if wrong ≠ 0 then wrong else if d.left = 0 then 11 else 0
def appF (b : List Int) (d : Dk) : Dk := { d with l := d.l ++ b }
def syncF (d : Dk) : Dk := { d with s := d.l.length }
def trimF (n : Nat) (d : Dk) : Dk := { d with l := d.l.take n, s := min d.s n }
def appW (d : Dk) (n : Nat) : Int := if (n : Int) ≤ 1048576 - (d.l.length : Int) then 0 else 7
def trimW (d : Dk) (n : Int) : Int := if 0 ≤ n ∧ n ≤ (d.l.length : Int) then 0 else 2
theorem doD_cases (d : Dk) (wrong : Int) (f : Dk → Dk) : (d.off = true ∧ doD d wrong f = d ∧ doE d wrong = 11) ∨ (d.off = false ∧ wrong ≠ 0 ∧ doD d wrong f = d ∧ doE d wrong = wrong) ∨ (d.off = false ∧ wrong = 0 ∧ d.left = 0 ∧ doD d wrong f = { d with off := true } ∧ doE d wrong = 11) ∨ (d.off = false ∧ wrong = 0 ∧ d.left ≠ 0 ∧ doD d wrong f = f { d with left := leftU d.left } ∧ doE d wrong = 0) := by
  unfold doD doE
  cases h1 : d.off with
  | true => exact .inl ⟨rfl, by simp, by simp⟩
  | false =>
    by_cases h2 : wrong = 0
    · by_cases h3 : d.left = 0
      · exact .inr (.inr (.inl ⟨rfl, h2, h3, by simp [h2, h3], by simp [h2, h3]⟩))
      · exact .inr (.inr (.inr ⟨rfl, h2, h3, by simp [h2, h3], by simp [h2, h3]⟩))
    · exact .inr (.inl ⟨rfl, h2, by simp [h2], by simp [h2]⟩)
abbrev DkO (i : Nat) (d : Dk) : AObj := .cells false [Bo d.off, I d.left, .sl i 0 d.l.length 1 none, I (d.s : Int)]
/- quidnunc/disk.New -/
noncomputable def c14_1 : ACode := .region false [⟨some 0, .move, [.c (.val (.pointer none))], none⟩] [] [] [] false [] []
noncomputable def c14_3 : ACode := .region false [⟨some 1, .build [(.bool false), (.int .i64 0)] [(1, 1)], [.c (.val (.int .i64 (-1)))], none⟩,
  ⟨some 2, .build [(.bool false), (.int .i64 0), (.slice none 0 0), (.int .i64 0)] [(0, 2)], [.t 1], none⟩,
  ⟨some 3, .box 0, [.t 2], none⟩,
  ⟨some 0, .move, [.t 3], none⟩] [] [] [0] true [] []
noncomputable def c14_2 : ACode := .seq c14_3 .ret
noncomputable def c14_0 : ACode := .seq c14_1 c14_2
noncomputable def code14 : Code := (Try.f14.body).getD .skip
theorem c14_ok : compC Try.prog 4 code14 = some (strip c14_0) := by kernel_rfl
theorem res14_ok : Try.f14.results.toList.mapM (resC Try.prog) = some [(0, none)] := by kernel_rfl
/- (*quidnunc/disk.power).use -/
noncomputable def c60_1 : ACode := .region false [⟨some 2, .move, [.c (.val (.bool false))], none⟩] [] [] [0] false [] []
noncomputable def c60_5 : ACode := .region false [⟨some 4, .move, [.t 0], none⟩,
  ⟨some 5, .nilChk, [.t 4], none⟩,
  ⟨some 6, .addr 1, [.t 5], none⟩,
  ⟨some 7, .load false 1, [.t 6], none⟩,
  ⟨some 8, .bin .eql, [.t 7, .c (.val (.int .i64 0))], none⟩,
  ⟨some 3, .move, [.t 8], none⟩] [] [] [0, 3] false [] []
noncomputable def c60_8 : ACode := .region false [⟨some 9, .move, [.t 0], none⟩,
  ⟨some 10, .nilChk, [.t 9], none⟩,
  ⟨some 11, .addr 0, [.t 10], none⟩,
  ⟨none, .store 1, [.t 11, .c (.val (.bool true))], none⟩] [] [] [] true [] []
noncomputable def c60_10 : ACode := .region false [⟨some 2, .move, [.c (.val (.bool false))], none⟩] [] [] [2] false [] []
noncomputable def c60_9 : ACode := .seq c60_10 .ret
noncomputable def c60_7 : ACode := .seq c60_8 c60_9
noncomputable def c60_12 : ACode := .region false [⟨some 13, .move, [.t 0], none⟩,
  ⟨some 14, .nilChk, [.t 13], none⟩,
  ⟨some 15, .addr 1, [.t 14], none⟩,
  ⟨some 16, .load false 1, [.t 15], none⟩,
  ⟨some 17, .bin .gtr, [.t 16, .c (.val (.int .i64 0))], none⟩,
  ⟨some 12, .move, [.t 17], none⟩] [] [] [0, 12] false [] []
noncomputable def c60_14 : ACode := .region false [⟨some 18, .move, [.t 0], none⟩,
  ⟨some 19, .nilChk, [.t 18], none⟩,
  ⟨some 20, .addr 1, [.t 19], none⟩,
  ⟨some 21, .load false 1, [.t 20], none⟩,
  ⟨some 22, .bin .sub, [.t 21, .c (.val (.int .i64 1))], none⟩,
  ⟨some 23, .nilChk, [.t 18], none⟩,
  ⟨some 24, .addr 1, [.t 23], none⟩,
  ⟨none, .store 1, [.t 24, .t 22], none⟩] [] [] [] true [] []
noncomputable def c60_13 : ACode := .cond (.t 12) c60_14 .skip
noncomputable def c60_11 : ACode := .seq c60_12 c60_13
noncomputable def c60_6 : ACode := .cond (.t 3) c60_7 c60_11
noncomputable def c60_4 : ACode := .seq c60_5 c60_6
noncomputable def c60_3 : ACode := .block 0 c60_4
noncomputable def c60_16 : ACode := .region false [⟨some 2, .move, [.c (.val (.bool true))], none⟩] [] [] [2] false [] []
noncomputable def c60_15 : ACode := .seq c60_16 .ret
noncomputable def c60_2 : ACode := .seq c60_3 c60_15
noncomputable def c60_0 : ACode := .seq c60_1 c60_2
noncomputable def code60 : Code := (Try.f60.body).getD .skip
theorem c60_ok : compC Try.prog 25 code60 = some (strip c60_0) := by kernel_rfl
theorem res60_ok : Try.f60.results.toList.mapM (resC Try.prog) = some [(2, none)] := by kernel_rfl
/- quidnunc/disk.unless -/
noncomputable def c41_1 : ACode := .region false [⟨some 4, .move, [.c (.val (.int .i64 0))], none⟩] [] [] [0, 1] false [] []
noncomputable def c41_4 : ACode := .region false [⟨some 5, .move, [.t 0], none⟩] [] [] [1, 5] false [] []
noncomputable def c41_7 : ACode := .region false [⟨some 4, .move, [.c (.val (.int .i64 0))], none⟩] [] [] [4] false [] []
noncomputable def c41_6 : ACode := .seq c41_7 .ret
noncomputable def c41_5 : ACode := .cond (.t 5) c41_6 .skip
noncomputable def c41_3 : ACode := .seq c41_4 c41_5
noncomputable def c41_9 : ACode := .region false [⟨some 6, .move, [.t 1], none⟩,
  ⟨some 4, .move, [.t 6], none⟩] [] [] [4] false [] []
noncomputable def c41_8 : ACode := .seq c41_9 .ret
noncomputable def c41_2 : ACode := .seq c41_3 c41_8
noncomputable def c41_0 : ACode := .seq c41_1 c41_2
noncomputable def code41 : Code := (Try.f41.body).getD .skip
theorem c41_ok : compC Try.prog 7 code41 = some (strip c41_0) := by kernel_rfl
theorem res41_ok : Try.f41.results.toList.mapM (resC Try.prog) = some [(4, none)] := by kernel_rfl
/- (*quidnunc/disk.power).Fuse -/
noncomputable def c25_0 : ACode := .region false [⟨some 4, .move, [.t 0], none⟩,
  ⟨some 5, .move, [.t 1], none⟩,
  ⟨some 6, .max, [.t 5, .c (.val (.int .i64 (-1)))], none⟩,
  ⟨some 7, .nilChk, [.t 4], none⟩,
  ⟨some 8, .addr 1, [.t 7], none⟩,
  ⟨none, .store 1, [.t 8, .t 6], none⟩] [] [] [] true [] []
noncomputable def code25 : Code := (Try.f25.body).getD .skip
theorem c25_ok : compC Try.prog 9 code25 = some (strip c25_0) := by kernel_rfl
theorem res25_ok : Try.f25.results.toList.mapM (resC Try.prog) = some [] := by kernel_rfl
/- (*quidnunc/disk.power).On -/
noncomputable def c26_1 : ACode := .region false [⟨some 2, .move, [.c (.val (.bool false))], none⟩] [] [] [0] false [] []
noncomputable def c26_3 : ACode := .region false [⟨some 3, .move, [.t 0], none⟩,
  ⟨some 4, .nilChk, [.t 3], none⟩,
  ⟨some 5, .addr 0, [.t 4], none⟩,
  ⟨some 6, .load false 1, [.t 5], none⟩,
  ⟨some 7, .un .not, [.t 6], none⟩,
  ⟨some 2, .move, [.t 7], none⟩] [] [] [2] false [] []
noncomputable def c26_2 : ACode := .seq c26_3 .ret
noncomputable def c26_0 : ACode := .seq c26_1 c26_2
noncomputable def code26 : Code := (Try.f26.body).getD .skip
theorem c26_ok : compC Try.prog 8 code26 = some (strip c26_0) := by kernel_rfl
theorem res26_ok : Try.f26.results.toList.mapM (resC Try.prog) = some [(2, none)] := by kernel_rfl
/- (*quidnunc/disk.Disk).Len -/
noncomputable def c16_1 : ACode := .region false [⟨some 2, .move, [.c (.val (.int .i64 0))], none⟩] [] [] [0] false [] []
noncomputable def c16_3 : ACode := .region false [⟨some 3, .move, [.t 0], none⟩,
  ⟨some 4, .nilChk, [.t 3], none⟩,
  ⟨some 5, .addr 2, [.t 4], none⟩,
  ⟨some 6, .load false 1, [.t 5], none⟩,
  ⟨some 7, .len, [.t 6], none⟩,
  ⟨some 2, .move, [.t 7], none⟩] [] [] [2] false [] []
noncomputable def c16_2 : ACode := .seq c16_3 .ret
noncomputable def c16_0 : ACode := .seq c16_1 c16_2
noncomputable def code16 : Code := (Try.f16.body).getD .skip
theorem c16_ok : compC Try.prog 8 code16 = some (strip c16_0) := by kernel_rfl
theorem res16_ok : Try.f16.results.toList.mapM (resC Try.prog) = some [(2, none)] := by kernel_rfl
/- (*quidnunc/disk.Disk).Safe -/
noncomputable def c18_1 : ACode := .region false [⟨some 2, .move, [.c (.val (.int .i64 0))], none⟩] [] [] [0] false [] []
noncomputable def c18_3 : ACode := .region false [⟨some 3, .move, [.t 0], none⟩,
  ⟨some 4, .nilChk, [.t 3], none⟩,
  ⟨some 5, .addr 3, [.t 4], none⟩,
  ⟨some 6, .load false 1, [.t 5], none⟩,
  ⟨some 2, .move, [.t 6], none⟩] [] [] [2] false [] []
noncomputable def c18_2 : ACode := .seq c18_3 .ret
noncomputable def c18_0 : ACode := .seq c18_1 c18_2
noncomputable def code18 : Code := (Try.f18.body).getD .skip
theorem c18_ok : compC Try.prog 7 code18 = some (strip c18_0) := by kernel_rfl
theorem res18_ok : Try.f18.results.toList.mapM (resC Try.prog) = some [(2, none)] := by kernel_rfl
/- (*quidnunc/disk.Disk).do -/
noncomputable def c40_1 : ACode := .region false [⟨some 6, .move, [.c (.val (.int .i64 0))], none⟩] [] [] [0, 1, 2] false [] []
noncomputable def c40_5 : ACode := .region false [⟨some 8, .move, [.t 0], none⟩,
  ⟨some 9, .nilChk, [.t 8], none⟩,
  ⟨some 10, .addr 0, [.t 9], none⟩,
  ⟨some 11, .addr 0, [.t 10], none⟩,
  ⟨some 12, .load false 1, [.t 11], none⟩,
  ⟨some 7, .move, [.t 12], none⟩] [] [] [0, 1, 2, 7] false [] []
noncomputable def c40_8 : ACode := .region false [⟨some 6, .move, [.c (.val (.int .i64 11))], none⟩] [] [] [6] false [] []
noncomputable def c40_7 : ACode := .seq c40_8 .ret
noncomputable def c40_10 : ACode := .region false [⟨some 14, .move, [.t 1], none⟩,
  ⟨some 15, .bin .neq, [.t 14, .c (.val (.int .i64 0))], none⟩,
  ⟨some 13, .move, [.t 15], none⟩] [] [] [0, 1, 2, 13] false [] []
noncomputable def c40_13 : ACode := .region false [⟨some 16, .move, [.t 1], none⟩,
  ⟨some 6, .move, [.t 16], none⟩] [] [] [6] false [] []
noncomputable def c40_12 : ACode := .seq c40_13 .ret
noncomputable def c40_15 : ACode := .region false [⟨some 18, .move, [.t 0], none⟩,
  ⟨some 19, .nilChk, [.t 18], none⟩,
  ⟨some 20, .addr 0, [.t 19], none⟩,
  ⟨some 21, .call 60, [.t 20], none⟩,
  ⟨some 22, .un .not, [.t 21], none⟩,
  ⟨some 17, .move, [.t 22], none⟩] [] [] [2, 17] true [] []
noncomputable def c40_18 : ACode := .region false [⟨some 6, .move, [.c (.val (.int .i64 11))], none⟩] [] [] [6] false [] []
noncomputable def c40_17 : ACode := .seq c40_18 .ret
noncomputable def c40_16 : ACode := .cond (.t 17) c40_17 .skip
noncomputable def c40_14 : ACode := .seq c40_15 c40_16
noncomputable def c40_11 : ACode := .cond (.t 13) c40_12 c40_14
noncomputable def c40_9 : ACode := .seq c40_10 c40_11
noncomputable def c40_6 : ACode := .cond (.t 7) c40_7 c40_9
noncomputable def c40_4 : ACode := .seq c40_5 c40_6
noncomputable def c40_3 : ACode := .block 0 c40_4
noncomputable def c40_20 : ACode := .region false [⟨some 23, .move, [.t 2], none⟩,
  ⟨some 24, .callv, [.t 23], none⟩] [] [] [] true [] []
noncomputable def c40_22 : ACode := .region false [⟨some 6, .move, [.c (.val (.int .i64 0))], none⟩] [] [] [6] false [] []
noncomputable def c40_21 : ACode := .seq c40_22 .ret
noncomputable def c40_19 : ACode := .seq c40_20 c40_21
noncomputable def c40_2 : ACode := .seq c40_3 c40_19
noncomputable def c40_0 : ACode := .seq c40_1 c40_2
noncomputable def code40 : Code := (Try.f40.body).getD .skip
theorem c40_ok : compC Try.prog 25 code40 = some (strip c40_0) := by kernel_rfl
theorem res40_ok : Try.f40.results.toList.mapM (resC Try.prog) = some [(6, none)] := by kernel_rfl
/- (*quidnunc/disk.Disk).Append$1 -/
noncomputable def c42_0 : ACode := .region true [⟨some 2, .load false 1, [.t 0], none⟩,
  ⟨some 3, .load false 1, [.t 0], none⟩,
  ⟨some 4, .nilChk, [.t 3], none⟩,
  ⟨some 5, .addr 2, [.t 4], none⟩,
  ⟨some 6, .load false 1, [.t 5], none⟩,
  ⟨some 7, .load false 1, [.t 1], none⟩,
  ⟨some 8, .append 1 1 false, [.t 6, .t 7], none⟩,
  ⟨some 9, .nilChk, [.t 2], none⟩,
  ⟨some 10, .addr 2, [.t 9], none⟩,
  ⟨none, .store 1, [.t 10, .t 8], none⟩] [4] [] [] true [] []
noncomputable def code42 : Code := (Try.f42.body).getD .skip
theorem c42_ok : compC Try.prog 11 code42 = some (strip c42_0) := by kernel_rfl
theorem res42_ok : Try.f42.results.toList.mapM (resC Try.prog) = some [] := by kernel_rfl
/- (*quidnunc/disk.Disk).Append -/
noncomputable def c15_1 : ACode := .region false [⟨some 2, .box 0, [.t 0], none⟩,
  ⟨some 3, .box 0, [.t 1], none⟩,
  ⟨some 4, .move, [.c (.val (.int .i64 0))], none⟩] [] [] [2, 3] true [] []
noncomputable def c15_3 : ACode := .region true [⟨some 5, .load false 1, [.t 2], none⟩,
  ⟨some 6, .load false 1, [.t 3], none⟩,
  ⟨some 7, .len, [.t 6], none⟩,
  ⟨some 8, .load false 1, [.t 2], none⟩,
  ⟨some 9, .nilChk, [.t 8], none⟩,
  ⟨some 10, .addr 2, [.t 9], none⟩,
  ⟨some 11, .load false 1, [.t 10], none⟩,
  ⟨some 12, .len, [.t 11], none⟩,
  ⟨some 13, .bin .sub, [.c (.val (.int .i64 1048576)), .t 12], none⟩,
  ⟨some 14, .bin .leq, [.t 7, .t 13], none⟩,
  ⟨some 15, .call 41, [.t 14, .c (.val (.int .i64 7))], none⟩,
  ⟨some 16, .mkFn 42 0, [.t 2, .t 3], none⟩,
  ⟨some 17, .call 40, [.t 5, .t 15, .t 16], none⟩,
  ⟨some 4, .move, [.t 17], none⟩] [6] [] [4] true [] []
noncomputable def c15_2 : ACode := .seq c15_3 .ret
noncomputable def c15_0 : ACode := .seq c15_1 c15_2
noncomputable def code15 : Code := (Try.f15.body).getD .skip
theorem c15_ok : compC Try.prog 18 code15 = some (strip c15_0) := by kernel_rfl
theorem res15_ok : Try.f15.results.toList.mapM (resC Try.prog) = some [(4, none)] := by kernel_rfl
/- (*quidnunc/disk.Disk).Sync$1 -/
noncomputable def c43_0 : ACode := .region true [⟨some 1, .load false 1, [.t 0], none⟩,
  ⟨some 2, .load false 1, [.t 0], none⟩,
  ⟨some 3, .nilChk, [.t 2], none⟩,
  ⟨some 4, .addr 2, [.t 3], none⟩,
  ⟨some 5, .load false 1, [.t 4], none⟩,
  ⟨some 6, .len, [.t 5], none⟩,
  ⟨some 7, .nilChk, [.t 1], none⟩,
  ⟨some 8, .addr 3, [.t 7], none⟩,
  ⟨none, .store 1, [.t 8, .t 6], none⟩] [4] [] [] true [] []
noncomputable def code43 : Code := (Try.f43.body).getD .skip
theorem c43_ok : compC Try.prog 9 code43 = some (strip c43_0) := by kernel_rfl
theorem res43_ok : Try.f43.results.toList.mapM (resC Try.prog) = some [] := by kernel_rfl
/- (*quidnunc/disk.Disk).Sync -/
noncomputable def c17_1 : ACode := .region false [⟨some 1, .box 0, [.t 0], none⟩,
  ⟨some 2, .move, [.c (.val (.int .i64 0))], none⟩] [] [] [1] true [] []
noncomputable def c17_3 : ACode := .region false [⟨some 3, .load false 1, [.t 1], none⟩,
  ⟨some 4, .mkFn 43 0, [.t 1], none⟩,
  ⟨some 5, .call 40, [.t 3, .c (.val (.int .i64 0)), .t 4], none⟩,
  ⟨some 2, .move, [.t 5], none⟩] [] [] [2] true [] []
noncomputable def c17_2 : ACode := .seq c17_3 .ret
noncomputable def c17_0 : ACode := .seq c17_1 c17_2
noncomputable def code17 : Code := (Try.f17.body).getD .skip
theorem c17_ok : compC Try.prog 6 code17 = some (strip c17_0) := by kernel_rfl
theorem res17_ok : Try.f17.results.toList.mapM (resC Try.prog) = some [(2, none)] := by kernel_rfl
/- (*quidnunc/disk.Disk).Trim$1 -/
noncomputable def c45_1 : ACode := .region true [⟨some 2, .load false 1, [.t 0], none⟩,
  ⟨some 3, .load false 1, [.t 0], none⟩,
  ⟨some 4, .nilChk, [.t 3], none⟩,
  ⟨some 5, .addr 2, [.t 4], none⟩,
  ⟨some 6, .load false 1, [.t 5], none⟩,
  ⟨some 7, .load false 1, [.t 1], none⟩,
  ⟨some 8, .slS 1 false true false, [.t 6, .t 7], none⟩,
  ⟨some 9, .nilChk, [.t 2], none⟩,
  ⟨some 10, .addr 2, [.t 9], none⟩,
  ⟨none, .store 1, [.t 10, .t 8], none⟩] [4] [] [0, 1] true [] []
noncomputable def c45_2 : ACode := .region true [⟨some 11, .load false 1, [.t 0], none⟩,
  ⟨some 12, .load false 1, [.t 0], none⟩,
  ⟨some 13, .nilChk, [.t 12], none⟩,
  ⟨some 14, .addr 3, [.t 13], none⟩,
  ⟨some 15, .load false 1, [.t 14], none⟩,
  ⟨some 16, .load false 1, [.t 1], none⟩,
  ⟨some 17, .min, [.t 15, .t 16], none⟩,
  ⟨some 18, .nilChk, [.t 11], none⟩,
  ⟨some 19, .addr 3, [.t 18], none⟩,
  ⟨none, .store 1, [.t 19, .t 17], none⟩] [4] [] [] true [] []
noncomputable def c45_0 : ACode := .seq c45_1 c45_2
noncomputable def code45 : Code := (Try.f45.body).getD .skip
theorem c45_ok : compC Try.prog 20 code45 = some (strip c45_0) := by kernel_rfl
theorem res45_ok : Try.f45.results.toList.mapM (resC Try.prog) = some [] := by kernel_rfl
/- (*quidnunc/disk.Disk).Trim -/
noncomputable def c20_1 : ACode := .region false [⟨some 2, .box 0, [.t 0], none⟩,
  ⟨some 3, .box 0, [.t 1], none⟩,
  ⟨some 4, .move, [.c (.val (.int .i64 0))], none⟩] [] [] [2, 3] true [] []
noncomputable def c20_3 : ACode := .region true [⟨some 5, .load false 1, [.t 2], none⟩,
  ⟨some 6, .load false 1, [.t 3], none⟩,
  ⟨some 7, .bin .geq, [.t 6, .c (.val (.int .i64 0))], none⟩,
  ⟨some 8, .move, [.t 7], none⟩,
  ⟨some 9, .load false 1, [.t 3], some (some 8, true)⟩,
  ⟨some 10, .load false 1, [.t 2], some (some 8, true)⟩,
  ⟨some 11, .nilChk, [.t 10], some (some 8, true)⟩,
  ⟨some 12, .addr 2, [.t 11], some (some 8, true)⟩,
  ⟨some 13, .load false 1, [.t 12], some (some 8, true)⟩,
  ⟨some 14, .len, [.t 13], some (some 8, true)⟩,
  ⟨some 15, .bin .leq, [.t 9, .t 14], some (some 8, true)⟩,
  ⟨some 16, .pick, [.t 8, .t 15, .c (.val (.bool false))], none⟩,
  ⟨some 17, .call 41, [.t 16, .c (.val (.int .i64 2))], none⟩,
  ⟨some 18, .mkFn 45 0, [.t 2, .t 3], none⟩,
  ⟨some 19, .call 40, [.t 5, .t 17, .t 18], none⟩,
  ⟨some 4, .move, [.t 19], none⟩] [8] [] [4] true [] []
noncomputable def c20_2 : ACode := .seq c20_3 .ret
noncomputable def c20_0 : ACode := .seq c20_1 c20_2
noncomputable def code20 : Code := (Try.f20.body).getD .skip
theorem c20_ok : compC Try.prog 20 code20 = some (strip c20_0) := by kernel_rfl
theorem res20_ok : Try.f20.results.toList.mapM (resC Try.prog) = some [(4, none)] := by kernel_rfl
/- (*quidnunc/disk.Disk).Read -/
noncomputable def c19_1 : ACode := .region false [⟨some 2, .move, [.c (.val (.slice none 0 0))], none⟩,
  ⟨some 3, .move, [.c (.val (.int .i64 0))], none⟩] [] [] [0] false [] []
noncomputable def c19_4 : ACode := .region false [⟨some 4, .move, [.t 0], none⟩,
  ⟨some 5, .nilChk, [.t 4], none⟩,
  ⟨some 6, .addr 0, [.t 5], none⟩,
  ⟨some 7, .addr 0, [.t 6], none⟩,
  ⟨some 8, .load false 1, [.t 7], none⟩] [] [] [0, 8] false [] []
noncomputable def c19_7 : ACode := .region false [⟨some 2, .move, [.c (.val (.slice none 0 0))], none⟩,
  ⟨some 3, .move, [.c (.val (.int .i64 11))], none⟩] [] [] [2, 3] false [] []
noncomputable def c19_6 : ACode := .seq c19_7 .ret
noncomputable def c19_5 : ACode := .cond (.t 8) c19_6 .skip
noncomputable def c19_3 : ACode := .seq c19_4 c19_5
noncomputable def c19_9 : ACode := .region false [⟨some 9, .move, [.t 0], none⟩,
  ⟨some 10, .nilChk, [.t 9], none⟩,
  ⟨some 11, .addr 2, [.t 10], none⟩,
  ⟨some 12, .load false 1, [.t 11], none⟩,
  ⟨some 13, .call 44, [.t 12], none⟩,
  ⟨some 2, .move, [.t 13], none⟩,
  ⟨some 3, .move, [.c (.val (.int .i64 0))], none⟩] [] [] [2, 3] true [] []
noncomputable def c19_8 : ACode := .seq c19_9 .ret
noncomputable def c19_2 : ACode := .seq c19_3 c19_8
noncomputable def c19_0 : ACode := .seq c19_1 c19_2
noncomputable def code19 : Code := (Try.f19.body).getD .skip
theorem c19_ok : compC Try.prog 14 code19 = some (strip c19_0) := by kernel_rfl
theorem res19_ok : Try.f19.results.toList.mapM (resC Try.prog) = some [(2, none), (3, none)] := by kernel_rfl
/- (*quidnunc/disk.Disk).Crash -/
noncomputable def c21_1 : ACode := .region false [⟨some 4, .move, [.c (.val (.int .i64 0))], none⟩] [] [] [0, 1] false [] []
noncomputable def c21_3 : ACode := .region true [⟨some 6, .move, [.t 1], none⟩,
  ⟨some 7, .max, [.t 6, .c (.val (.int .i64 0))], none⟩,
  ⟨some 8, .move, [.t 0], none⟩,
  ⟨some 9, .nilChk, [.t 8], none⟩,
  ⟨some 10, .addr 2, [.t 9], none⟩,
  ⟨some 11, .load false 1, [.t 10], none⟩,
  ⟨some 12, .len, [.t 11], none⟩,
  ⟨some 13, .move, [.t 0], none⟩,
  ⟨some 14, .nilChk, [.t 13], none⟩,
  ⟨some 15, .addr 3, [.t 14], none⟩,
  ⟨some 16, .load false 1, [.t 15], none⟩,
  ⟨some 17, .bin .sub, [.t 12, .t 16], none⟩,
  ⟨some 18, .min, [.t 7, .t 17], none⟩,
  ⟨some 5, .move, [.t 18], none⟩] [] [] [0, 5] false [] []
noncomputable def c21_5 : ACode := .region true [⟨some 19, .move, [.t 0], none⟩,
  ⟨some 20, .move, [.t 0], none⟩,
  ⟨some 21, .nilChk, [.t 20], none⟩,
  ⟨some 22, .addr 2, [.t 21], none⟩,
  ⟨some 23, .load false 1, [.t 22], none⟩,
  ⟨some 24, .move, [.t 0], none⟩,
  ⟨some 25, .nilChk, [.t 24], none⟩,
  ⟨some 26, .addr 3, [.t 25], none⟩,
  ⟨some 27, .load false 1, [.t 26], none⟩,
  ⟨some 28, .move, [.t 5], none⟩,
  ⟨some 29, .bin .add, [.t 27, .t 28], none⟩,
  ⟨some 30, .slS 1 false true false, [.t 23, .t 29], none⟩] [] [] [0, 5] true [] [⟨some 31, .nilChk, [.t 19], none⟩,
  ⟨some 32, .addr 2, [.t 31], none⟩,
  ⟨none, .store 1, [.t 32, .t 30], none⟩]
noncomputable def c21_7 : ACode := .region false [⟨some 33, .move, [.t 0], none⟩,
  ⟨some 34, .move, [.t 0], none⟩,
  ⟨some 35, .nilChk, [.t 34], none⟩,
  ⟨some 36, .addr 2, [.t 35], none⟩,
  ⟨some 37, .load false 1, [.t 36], none⟩,
  ⟨some 38, .len, [.t 37], none⟩,
  ⟨some 39, .nilChk, [.t 33], none⟩,
  ⟨some 40, .addr 3, [.t 39], none⟩,
  ⟨none, .store 1, [.t 40, .t 38], none⟩] [] [] [0, 5] true [] []
noncomputable def c21_9 : ACode := .region false [⟨some 41, .move, [.t 0], none⟩,
  ⟨some 42, .build [(.bool false), (.int .i64 0)] [(1, 1)], [.c (.val (.int .i64 (-1)))], none⟩,
  ⟨some 43, .nilChk, [.t 41], none⟩,
  ⟨some 44, .addr 0, [.t 43], none⟩,
  ⟨none, .store 2, [.t 44, .t 42], none⟩] [] [] [5] true [] []
noncomputable def c21_11 : ACode := .region false [⟨some 45, .move, [.t 5], none⟩,
  ⟨some 4, .move, [.t 45], none⟩] [] [] [4] false [] []
noncomputable def c21_10 : ACode := .seq c21_11 .ret
noncomputable def c21_8 : ACode := .seq c21_9 c21_10
noncomputable def c21_6 : ACode := .seq c21_7 c21_8
noncomputable def c21_4 : ACode := .seq c21_5 c21_6
noncomputable def c21_2 : ACode := .seq c21_3 c21_4
noncomputable def c21_0 : ACode := .seq c21_1 c21_2
noncomputable def code21 : Code := (Try.f21.body).getD .skip
theorem c21_ok : compC Try.prog 46 code21 = some (strip c21_0) := by kernel_rfl
theorem res21_ok : Try.f21.results.toList.mapM (resC Try.prog) = some [(4, none)] := by kernel_rfl
/- (*quidnunc/disk.Disk).Turn -/
noncomputable def c50_1 : ACode := .region false [⟨some 6, .move, [.c (.val (.int .i64 0))], none⟩] [] [] [0, 1, 2] false [] []
noncomputable def c50_4 : ACode := .region false [⟨some 7, .move, [.t 1], none⟩,
  ⟨some 8, .bin .lss, [.t 7, .c (.val (.int .i64 0))], none⟩,
  ⟨some 9, .move, [.t 8], none⟩,
  ⟨some 10, .move, [.t 1], some (some 9, false)⟩,
  ⟨some 11, .move, [.t 0], some (some 9, false)⟩,
  ⟨some 12, .nilChk, [.t 11], some (some 9, false)⟩,
  ⟨some 13, .addr 2, [.t 12], some (some 9, false)⟩,
  ⟨some 14, .load false 1, [.t 13], some (some 9, false)⟩,
  ⟨some 15, .len, [.t 14], some (some 9, false)⟩,
  ⟨some 16, .bin .geq, [.t 10, .t 15], some (some 9, false)⟩,
  ⟨some 17, .pick, [.t 9, .c (.val (.bool true)), .t 16], none⟩] [] [] [0, 1, 2, 17] false [] []
noncomputable def c50_7 : ACode := .region false [⟨some 6, .move, [.c (.val (.int .i64 2))], none⟩] [] [] [6] false [] []
noncomputable def c50_6 : ACode := .seq c50_7 .ret
noncomputable def c50_5 : ACode := .cond (.t 17) c50_6 .skip
noncomputable def c50_3 : ACode := .seq c50_4 c50_5
noncomputable def c50_9 : ACode := .region false [⟨some 18, .move, [.t 0], none⟩,
  ⟨some 19, .nilChk, [.t 18], none⟩,
  ⟨some 20, .addr 2, [.t 19], none⟩,
  ⟨some 21, .load false 1, [.t 20], none⟩,
  ⟨some 22, .move, [.t 1], none⟩,
  ⟨some 23, .ixS 1, [.t 21, .t 22], none⟩,
  ⟨some 24, .load false 1, [.t 23], none⟩,
  ⟨some 25, .move, [.t 2], none⟩,
  ⟨some 26, .bin .xor, [.t 24, .t 25], none⟩,
  ⟨some 27, .ixS 1, [.t 21, .t 22], none⟩,
  ⟨none, .store 1, [.t 27, .t 26], none⟩] [] [] [] true [] []
noncomputable def c50_11 : ACode := .region false [⟨some 6, .move, [.c (.val (.int .i64 0))], none⟩] [] [] [6] false [] []
noncomputable def c50_10 : ACode := .seq c50_11 .ret
noncomputable def c50_8 : ACode := .seq c50_9 c50_10
noncomputable def c50_2 : ACode := .seq c50_3 c50_8
noncomputable def c50_0 : ACode := .seq c50_1 c50_2
noncomputable def code50 : Code := (Try.f50.body).getD .skip
theorem c50_ok : compC Try.prog 28 code50 = some (strip c50_0) := by kernel_rfl
theorem res50_ok : Try.f50.results.toList.mapM (resC Try.prog) = some [(6, none)] := by kernel_rfl
theorem dnew_any : ACall Try.prog 14 [] [] (Det (.ptr 0 0) [DkO 1 ⟨[], 0, false, -1⟩, .cells false []]) := by
  refine ACall.startA c14_ok Try.func14 rfl Try.ntmps14 (by kernel_rfl) res14_ok rfl rfl rfl ?_; simp (maxSteps := 9999999) (disch := omega) only [go_sem]
  refine AWpA.dummy ?_
  (repeat' (first | refine AWpA.seq ?_ | refine AWpA.block ?_ | (with_reducible refine CondP.tt ?_) | (with_reducible refine CondP.ff ?_) | refine AWpA.condv (by simp (maxSteps := 9999999) (disch := omega) only [go_sem]; rfl) ?_ | ((first | (apply AWpA.region; (focus (simp (maxSteps := 9999999) (disch := omega) only [go_sem]; rfl))) | (apply AWpA.draw [] [] follows; (focus (first | rfl | decide)); (focus (simp (maxSteps := 9999999) (disch := omega) only [go_sem]; rfl)); (focus (simp (maxSteps := 9999999) (disch := omega) only [go_sem]; first | done | trivial)); (focus (simp (maxSteps := 9999999) (disch := omega) only [go_sem]; rfl))) | (apply TailK.go; (focus (simp (maxSteps := 9999999) (disch := omega) only [go_sem]; rfl))) | refine AWpA.skip ?_ | refine AWpA.exit ?_ | refine AWpA.ret ?_ | (with_reducible refine ARoundsA.succ ?_) | ((first | refine Runs.kt (by assumption) (fun h9 => ?_) | refine Runs.kf (by assumption) (fun h9 => ?_) | refine Runs.nt (by assumption) (fun h9 => ?_) | refine Runs.nf (by assumption) (fun h9 => ?_) | refine CondP.ht (by assumption) (fun h9 => ?_) | refine CondP.hf (by assumption) (fun h9 => ?_) | refine CondP.nt (by assumption) (fun h9 => ?_) | refine CondP.nf (by assumption) (fun h9 => ?_)); (try simp only [h9]); clear h9)); (try simp (maxSteps := 9999999) (disch := omega) only [go_sem]); (try (refine And.intro ?_ ?_; (focus (first | omega | (simp only [go_sem]; done) | (simp; done) | (simp; omega) | assumption))))) | ((first | refine CondP.split (fun hif => ?_) (fun hif => ?_) | refine Runs.part (fun hif => ?_) (fun hif => ?_)) <;> ((try simp only [hif]); (try simp only [decide_eq_true_eq, decide_eq_false_iff_not, Bool.not_eq_true, Bool.not_eq_false, Bool.not_eq_true', Bool.not_eq_false', beq_iff_eq, bne_iff_ne, bne_eq_false_iff_eq, beq_eq_false_iff_ne, ne_eq, Bool.and_eq_true, Bool.or_eq_true, Bool.or_eq_false_iff] at hif); (try (have h9 : _ = true := hif; simp only [h9])); (try (have h9 : _ = false := hif; simp only [h9])); (try simp (maxSteps := 9999999) (disch := omega) only [go_sem]); (try (refine And.intro ?_ ?_; (focus (first | omega | (simp only [go_sem]; done) | (simp; done) | (simp; omega) | assumption)))); (try (exfalso; omega; done))))))
  (apply Ret.det [_, 0]; (focus (first | exact .inl rfl | exact .inr rfl)); (focus (simp (maxSteps := 9999999) (disch := omega) only [go_sem]; rfl)); (simp (maxSteps := 9999999) (disch := omega) only [go_sem]; (try (repeat' (first | done | trivial | rfl | exact leAs_rfl _ | decide | (refine And.intro ?_ ?_) | (simp; done) | omega | (simp; decide))))))
theorem unless_any (b : Bool) (e : Int) : ACall Try.prog 41 [Bo b, I e] [] (Det (I (cond b 0 e)) []) := by
  cases b
  · refine ACall.startA c41_ok Try.func41 rfl Try.ntmps41 (by kernel_rfl) res41_ok rfl rfl rfl ?_; simp (maxSteps := 9999999) (disch := omega) only [go_sem]
    (repeat' (first | refine AWpA.seq ?_ | refine AWpA.block ?_ | (with_reducible refine CondP.tt ?_) | (with_reducible refine CondP.ff ?_) | refine AWpA.condv (by simp (maxSteps := 9999999) (disch := omega) only [go_sem]; rfl) ?_ | ((first | (apply AWpA.region; (focus (simp (maxSteps := 9999999) (disch := omega) only [go_sem]; rfl))) | (apply AWpA.draw [] [] follows; (focus (first | rfl | decide)); (focus (simp (maxSteps := 9999999) (disch := omega) only [go_sem]; rfl)); (focus (simp (maxSteps := 9999999) (disch := omega) only [go_sem]; first | done | trivial)); (focus (simp (maxSteps := 9999999) (disch := omega) only [go_sem]; rfl))) | (apply TailK.go; (focus (simp (maxSteps := 9999999) (disch := omega) only [go_sem]; rfl))) | refine AWpA.skip ?_ | refine AWpA.exit ?_ | refine AWpA.ret ?_ | (with_reducible refine ARoundsA.succ ?_) | ((first | refine Runs.kt (by assumption) (fun h9 => ?_) | refine Runs.kf (by assumption) (fun h9 => ?_) | refine Runs.nt (by assumption) (fun h9 => ?_) | refine Runs.nf (by assumption) (fun h9 => ?_) | refine CondP.ht (by assumption) (fun h9 => ?_) | refine CondP.hf (by assumption) (fun h9 => ?_) | refine CondP.nt (by assumption) (fun h9 => ?_) | refine CondP.nf (by assumption) (fun h9 => ?_)); (try simp only [h9]); clear h9)); (try simp (maxSteps := 9999999) (disch := omega) only [go_sem]); (try (refine And.intro ?_ ?_; (focus (first | omega | (simp only [go_sem]; done) | (simp; done) | (simp; omega) | assumption))))) | ((first | refine CondP.split (fun hif => ?_) (fun hif => ?_) | refine Runs.part (fun hif => ?_) (fun hif => ?_)) <;> ((try simp only [hif]); (try simp only [decide_eq_true_eq, decide_eq_false_iff_not, Bool.not_eq_true, Bool.not_eq_false, Bool.not_eq_true', Bool.not_eq_false', beq_iff_eq, bne_iff_ne, bne_eq_false_iff_eq, beq_eq_false_iff_ne, ne_eq, Bool.and_eq_true, Bool.or_eq_true, Bool.or_eq_false_iff] at hif); (try (have h9 : _ = true := hif; simp only [h9])); (try (have h9 : _ = false := hif; simp only [h9])); (try simp (maxSteps := 9999999) (disch := omega) only [go_sem]); (try (refine And.intro ?_ ?_; (focus (first | omega | (simp only [go_sem]; done) | (simp; done) | (simp; omega) | assumption)))); (try (exfalso; omega; done))))))
    (apply Ret.det []; (focus (first | exact .inl rfl | exact .inr rfl)); (focus (simp (maxSteps := 9999999) (disch := omega) only [go_sem]; rfl)); (simp (maxSteps := 9999999) (disch := omega) only [go_sem]; (try (repeat' (first | done | trivial | rfl | exact leAs_rfl _ | decide | (refine And.intro ?_ ?_) | (simp; done) | omega | (simp; decide))))))
  · refine ACall.startA c41_ok Try.func41 rfl Try.ntmps41 (by kernel_rfl) res41_ok rfl rfl rfl ?_; simp (maxSteps := 9999999) (disch := omega) only [go_sem]
    (repeat' (first | refine AWpA.seq ?_ | refine AWpA.block ?_ | (with_reducible refine CondP.tt ?_) | (with_reducible refine CondP.ff ?_) | refine AWpA.condv (by simp (maxSteps := 9999999) (disch := omega) only [go_sem]; rfl) ?_ | ((first | (apply AWpA.region; (focus (simp (maxSteps := 9999999) (disch := omega) only [go_sem]; rfl))) | (apply AWpA.draw [] [] follows; (focus (first | rfl | decide)); (focus (simp (maxSteps := 9999999) (disch := omega) only [go_sem]; rfl)); (focus (simp (maxSteps := 9999999) (disch := omega) only [go_sem]; first | done | trivial)); (focus (simp (maxSteps := 9999999) (disch := omega) only [go_sem]; rfl))) | (apply TailK.go; (focus (simp (maxSteps := 9999999) (disch := omega) only [go_sem]; rfl))) | refine AWpA.skip ?_ | refine AWpA.exit ?_ | refine AWpA.ret ?_ | (with_reducible refine ARoundsA.succ ?_) | ((first | refine Runs.kt (by assumption) (fun h9 => ?_) | refine Runs.kf (by assumption) (fun h9 => ?_) | refine Runs.nt (by assumption) (fun h9 => ?_) | refine Runs.nf (by assumption) (fun h9 => ?_) | refine CondP.ht (by assumption) (fun h9 => ?_) | refine CondP.hf (by assumption) (fun h9 => ?_) | refine CondP.nt (by assumption) (fun h9 => ?_) | refine CondP.nf (by assumption) (fun h9 => ?_)); (try simp only [h9]); clear h9)); (try simp (maxSteps := 9999999) (disch := omega) only [go_sem]); (try (refine And.intro ?_ ?_; (focus (first | omega | (simp only [go_sem]; done) | (simp; done) | (simp; omega) | assumption))))) | ((first | refine CondP.split (fun hif => ?_) (fun hif => ?_) | refine Runs.part (fun hif => ?_) (fun hif => ?_)) <;> ((try simp only [hif]); (try simp only [decide_eq_true_eq, decide_eq_false_iff_not, Bool.not_eq_true, Bool.not_eq_false, Bool.not_eq_true', Bool.not_eq_false', beq_iff_eq, bne_iff_ne, bne_eq_false_iff_eq, beq_eq_false_iff_ne, ne_eq, Bool.and_eq_true, Bool.or_eq_true, Bool.or_eq_false_iff] at hif); (try (have h9 : _ = true := hif; simp only [h9])); (try (have h9 : _ = false := hif; simp only [h9])); (try simp (maxSteps := 9999999) (disch := omega) only [go_sem]); (try (refine And.intro ?_ ?_; (focus (first | omega | (simp only [go_sem]; done) | (simp; done) | (simp; omega) | assumption)))); (try (exfalso; omega; done))))))
    (apply Ret.det []; (focus (first | exact .inl rfl | exact .inr rfl)); (focus (simp (maxSteps := 9999999) (disch := omega) only [go_sem]; rfl)); (simp (maxSteps := 9999999) (disch := omega) only [go_sem]; (try (repeat' (first | done | trivial | rfl | exact leAs_rfl _ | decide | (refine And.intro ?_ ?_) | (simp; done) | omega | (simp; decide))))))
theorem use_no (d : Dk) (h : d.left = 0) : ACall Try.prog 60 [.ptr 0 0] [DkO 1 d, .cells false (bA d.l)] (Det (Bo false) [DkO 1 { d with off := true }, .cells false (bA d.l)]) := by
  refine ACall.startA c60_ok Try.func60 rfl Try.ntmps60 (by kernel_rfl) res60_ok rfl rfl rfl ?_; simp (maxSteps := 9999999) (disch := omega) only [go_sem]
  (repeat' (first | refine AWpA.seq ?_ | refine AWpA.block ?_ | (with_reducible refine CondP.tt ?_) | (with_reducible refine CondP.ff ?_) | refine AWpA.condv (by simp (maxSteps := 9999999) (disch := omega) only [go_sem, h]; rfl) ?_ | ((first | (apply AWpA.region; (focus (simp (maxSteps := 9999999) (disch := omega) only [go_sem, h]; rfl))) | (apply AWpA.draw [] [] follows; (focus (first | rfl | decide)); (focus (simp (maxSteps := 9999999) (disch := omega) only [go_sem, h]; rfl)); (focus (simp (maxSteps := 9999999) (disch := omega) only [go_sem, h]; first | done | trivial)); (focus (simp (maxSteps := 9999999) (disch := omega) only [go_sem, h]; rfl))) | (apply TailK.go; (focus (simp (maxSteps := 9999999) (disch := omega) only [go_sem, h]; rfl))) | refine AWpA.skip ?_ | refine AWpA.exit ?_ | refine AWpA.ret ?_ | (with_reducible refine ARoundsA.succ ?_) | ((first | refine Runs.kt (by assumption) (fun h9 => ?_) | refine Runs.kf (by assumption) (fun h9 => ?_) | refine Runs.nt (by assumption) (fun h9 => ?_) | refine Runs.nf (by assumption) (fun h9 => ?_) | refine CondP.ht (by assumption) (fun h9 => ?_) | refine CondP.hf (by assumption) (fun h9 => ?_) | refine CondP.nt (by assumption) (fun h9 => ?_) | refine CondP.nf (by assumption) (fun h9 => ?_)); (try simp only [h9]); clear h9)); (try simp (maxSteps := 9999999) (disch := omega) only [go_sem, h]); (try (refine And.intro ?_ ?_; (focus (first | omega | (simp only [go_sem]; done) | (simp; done) | (simp; omega) | assumption))))) | ((first | refine CondP.split (fun hif => ?_) (fun hif => ?_) | refine Runs.part (fun hif => ?_) (fun hif => ?_)) <;> ((try simp only [hif]); (try simp only [decide_eq_true_eq, decide_eq_false_iff_not, Bool.not_eq_true, Bool.not_eq_false, Bool.not_eq_true', Bool.not_eq_false', beq_iff_eq, bne_iff_ne, bne_eq_false_iff_eq, beq_eq_false_iff_ne, ne_eq, Bool.and_eq_true, Bool.or_eq_true, Bool.or_eq_false_iff] at hif); (try (have h9 : _ = true := hif; simp only [h9])); (try (have h9 : _ = false := hif; simp only [h9])); (try simp (maxSteps := 9999999) (disch := omega) only [go_sem, h]); (try (refine And.intro ?_ ?_; (focus (first | omega | (simp only [go_sem]; done) | (simp; done) | (simp; omega) | assumption)))); (try (exfalso; omega; done))))))
  (apply Ret.det [0, 1]; (focus (first | exact .inl rfl | exact .inr rfl)); (focus (simp (maxSteps := 9999999) (disch := omega) only [go_sem, h]; rfl)); (simp (maxSteps := 9999999) (disch := omega) only [go_sem, h]; (try (repeat' (first | done | trivial | rfl | exact leAs_rfl _ | decide | (refine And.intro ?_ ?_) | (simp; done) | omega | (simp; decide))))))
theorem use_yes (d : Dk) (hok : d.ok) (h : d.left ≠ 0) : ACall Try.prog 60 [.ptr 0 0] [DkO 1 d, .cells false (bA d.l)] (Det (Bo true) [DkO 1 { d with left := leftU d.left }, .cells false (bA d.l)]) := by
  have h1 := hok.lo
  have h2 := hok.hi
  by_cases h3 : 0 < d.left
  · have e : leftU d.left = d.left - 1 := by simp [leftU, h3]
    rw [e]
    generalize hx : d.left = x at *
    refine ACall.startA c60_ok Try.func60 rfl Try.ntmps60 (by kernel_rfl) res60_ok rfl rfl rfl ?_; simp (maxSteps := 9999999) (disch := omega) only [go_sem]
    (repeat' (first | refine AWpA.seq ?_ | refine AWpA.block ?_ | (with_reducible refine CondP.tt ?_) | (with_reducible refine CondP.ff ?_) | refine AWpA.condv (by simp (maxSteps := 9999999) (disch := omega) only [go_sem, hx, eq_false h, eq_true h3]; rfl) ?_ | ((first | (apply AWpA.region; (focus (simp (maxSteps := 9999999) (disch := omega) only [go_sem, hx, eq_false h, eq_true h3]; rfl))) | (apply AWpA.draw [] [] follows; (focus (first | rfl | decide)); (focus (simp (maxSteps := 9999999) (disch := omega) only [go_sem, hx, eq_false h, eq_true h3]; rfl)); (focus (simp (maxSteps := 9999999) (disch := omega) only [go_sem, hx, eq_false h, eq_true h3]; first | done | trivial)); (focus (simp (maxSteps := 9999999) (disch := omega) only [go_sem, hx, eq_false h, eq_true h3]; rfl))) | (apply TailK.go; (focus (simp (maxSteps := 9999999) (disch := omega) only [go_sem, hx, eq_false h, eq_true h3]; rfl))) | refine AWpA.skip ?_ | refine AWpA.exit ?_ | refine AWpA.ret ?_ | (with_reducible refine ARoundsA.succ ?_) | ((first | refine Runs.kt (by assumption) (fun h9 => ?_) | refine Runs.kf (by assumption) (fun h9 => ?_) | refine Runs.nt (by assumption) (fun h9 => ?_) | refine Runs.nf (by assumption) (fun h9 => ?_) | refine CondP.ht (by assumption) (fun h9 => ?_) | refine CondP.hf (by assumption) (fun h9 => ?_) | refine CondP.nt (by assumption) (fun h9 => ?_) | refine CondP.nf (by assumption) (fun h9 => ?_)); (try simp only [h9]); clear h9)); (try simp (maxSteps := 9999999) (disch := omega) only [go_sem, hx, eq_false h, eq_true h3]); (try (refine And.intro ?_ ?_; (focus (first | omega | (simp only [go_sem]; done) | (simp; done) | (simp; omega) | assumption))))) | ((first | refine CondP.split (fun hif => ?_) (fun hif => ?_) | refine Runs.part (fun hif => ?_) (fun hif => ?_)) <;> ((try simp only [hif]); (try simp only [decide_eq_true_eq, decide_eq_false_iff_not, Bool.not_eq_true, Bool.not_eq_false, Bool.not_eq_true', Bool.not_eq_false', beq_iff_eq, bne_iff_ne, bne_eq_false_iff_eq, beq_eq_false_iff_ne, ne_eq, Bool.and_eq_true, Bool.or_eq_true, Bool.or_eq_false_iff] at hif); (try (have h9 : _ = true := hif; simp only [h9])); (try (have h9 : _ = false := hif; simp only [h9])); (try simp (maxSteps := 9999999) (disch := omega) only [go_sem, hx, eq_false h, eq_true h3]); (try (refine And.intro ?_ ?_; (focus (first | omega | (simp only [go_sem]; done) | (simp; done) | (simp; omega) | assumption)))); (try (exfalso; omega; done))))))
    (apply Ret.det [0, 1]; (focus (first | exact .inl rfl | exact .inr rfl)); (focus (simp (maxSteps := 9999999) (disch := omega) only [go_sem, hx]; rfl)); (simp (maxSteps := 9999999) (disch := omega) only [go_sem, hx]; (try (repeat' (first | done | trivial | rfl | exact leAs_rfl _ | decide | (refine And.intro ?_ ?_) | (simp; done) | omega | (simp; decide))))))
  · have e : leftU d.left = d.left := by simp [leftU, h3]
    rw [e]
    generalize hx : d.left = x at *
    refine ACall.startA c60_ok Try.func60 rfl Try.ntmps60 (by kernel_rfl) res60_ok rfl rfl rfl ?_; simp (maxSteps := 9999999) (disch := omega) only [go_sem]
    (repeat' (first | refine AWpA.seq ?_ | refine AWpA.block ?_ | (with_reducible refine CondP.tt ?_) | (with_reducible refine CondP.ff ?_) | refine AWpA.condv (by simp (maxSteps := 9999999) (disch := omega) only [go_sem, hx, eq_false h, eq_false h3]; rfl) ?_ | ((first | (apply AWpA.region; (focus (simp (maxSteps := 9999999) (disch := omega) only [go_sem, hx, eq_false h, eq_false h3]; rfl))) | (apply AWpA.draw [] [] follows; (focus (first | rfl | decide)); (focus (simp (maxSteps := 9999999) (disch := omega) only [go_sem, hx, eq_false h, eq_false h3]; rfl)); (focus (simp (maxSteps := 9999999) (disch := omega) only [go_sem, hx, eq_false h, eq_false h3]; first | done | trivial)); (focus (simp (maxSteps := 9999999) (disch := omega) only [go_sem, hx, eq_false h, eq_false h3]; rfl))) | (apply TailK.go; (focus (simp (maxSteps := 9999999) (disch := omega) only [go_sem, hx, eq_false h, eq_false h3]; rfl))) | refine AWpA.skip ?_ | refine AWpA.exit ?_ | refine AWpA.ret ?_ | (with_reducible refine ARoundsA.succ ?_) | ((first | refine Runs.kt (by assumption) (fun h9 => ?_) | refine Runs.kf (by assumption) (fun h9 => ?_) | refine Runs.nt (by assumption) (fun h9 => ?_) | refine Runs.nf (by assumption) (fun h9 => ?_) | refine CondP.ht (by assumption) (fun h9 => ?_) | refine CondP.hf (by assumption) (fun h9 => ?_) | refine CondP.nt (by assumption) (fun h9 => ?_) | refine CondP.nf (by assumption) (fun h9 => ?_)); (try simp only [h9]); clear h9)); (try simp (maxSteps := 9999999) (disch := omega) only [go_sem, hx, eq_false h, eq_false h3]); (try (refine And.intro ?_ ?_; (focus (first | omega | (simp only [go_sem]; done) | (simp; done) | (simp; omega) | assumption))))) | ((first | refine CondP.split (fun hif => ?_) (fun hif => ?_) | refine Runs.part (fun hif => ?_) (fun hif => ?_)) <;> ((try simp only [hif]); (try simp only [decide_eq_true_eq, decide_eq_false_iff_not, Bool.not_eq_true, Bool.not_eq_false, Bool.not_eq_true', Bool.not_eq_false', beq_iff_eq, bne_iff_ne, bne_eq_false_iff_eq, beq_eq_false_iff_ne, ne_eq, Bool.and_eq_true, Bool.or_eq_true, Bool.or_eq_false_iff] at hif); (try (have h9 : _ = true := hif; simp only [h9])); (try (have h9 : _ = false := hif; simp only [h9])); (try simp (maxSteps := 9999999) (disch := omega) only [go_sem, hx, eq_false h, eq_false h3]); (try (refine And.intro ?_ ?_; (focus (first | omega | (simp only [go_sem]; done) | (simp; done) | (simp; omega) | assumption)))); (try (exfalso; omega; done))))))
    (apply Ret.det [0, 1]; (focus (first | exact .inl rfl | exact .inr rfl)); (focus (simp (maxSteps := 9999999) (disch := omega) only [go_sem, hx]; rfl)); (simp (maxSteps := 9999999) (disch := omega) only [go_sem, hx]; (try (repeat' (first | done | trivial | rfl | exact leAs_rfl _ | decide | (refine And.intro ?_ ?_) | (simp; done) | omega | (simp; decide))))))
theorem fuse_any (d : Dk) (n : Int) : ACall Try.prog 25 [.ptr 0 0, I n] [DkO 1 d, .cells false (bA d.l)] (Det (.tup []) [DkO 1 { d with left := if -1 > n then -1 else n }, .cells false (bA d.l)]) := by
  refine ACall.startA c25_ok Try.func25 rfl Try.ntmps25 (by kernel_rfl) res25_ok rfl rfl rfl ?_; simp (maxSteps := 9999999) (disch := omega) only [go_sem]
  (repeat' (first | refine AWpA.seq ?_ | refine AWpA.block ?_ | (with_reducible refine CondP.tt ?_) | (with_reducible refine CondP.ff ?_) | refine AWpA.condv (by simp (maxSteps := 9999999) (disch := omega) only [go_sem]; rfl) ?_ | ((first | (apply AWpA.region; (focus (simp (maxSteps := 9999999) (disch := omega) only [go_sem]; rfl))) | (apply AWpA.draw [] [] follows; (focus (first | rfl | decide)); (focus (simp (maxSteps := 9999999) (disch := omega) only [go_sem]; rfl)); (focus (simp (maxSteps := 9999999) (disch := omega) only [go_sem]; first | done | trivial)); (focus (simp (maxSteps := 9999999) (disch := omega) only [go_sem]; rfl))) | (apply TailK.go; (focus (simp (maxSteps := 9999999) (disch := omega) only [go_sem]; rfl))) | refine AWpA.skip ?_ | refine AWpA.exit ?_ | refine AWpA.ret ?_ | (with_reducible refine ARoundsA.succ ?_) | ((first | refine Runs.kt (by assumption) (fun h9 => ?_) | refine Runs.kf (by assumption) (fun h9 => ?_) | refine Runs.nt (by assumption) (fun h9 => ?_) | refine Runs.nf (by assumption) (fun h9 => ?_) | refine CondP.ht (by assumption) (fun h9 => ?_) | refine CondP.hf (by assumption) (fun h9 => ?_) | refine CondP.nt (by assumption) (fun h9 => ?_) | refine CondP.nf (by assumption) (fun h9 => ?_)); (try simp only [h9]); clear h9)); (try simp (maxSteps := 9999999) (disch := omega) only [go_sem]); (try (refine And.intro ?_ ?_; (focus (first | omega | (simp only [go_sem]; done) | (simp; done) | (simp; omega) | assumption))))) | ((first | refine CondP.split (fun hif => ?_) (fun hif => ?_) | refine Runs.part (fun hif => ?_) (fun hif => ?_)) <;> ((try simp only [hif]); (try simp only [decide_eq_true_eq, decide_eq_false_iff_not, Bool.not_eq_true, Bool.not_eq_false, Bool.not_eq_true', Bool.not_eq_false', beq_iff_eq, bne_iff_ne, bne_eq_false_iff_eq, beq_eq_false_iff_ne, ne_eq, Bool.and_eq_true, Bool.or_eq_true, Bool.or_eq_false_iff] at hif); (try (have h9 : _ = true := hif; simp only [h9])); (try (have h9 : _ = false := hif; simp only [h9])); (try simp (maxSteps := 9999999) (disch := omega) only [go_sem]); (try (refine And.intro ?_ ?_; (focus (first | omega | (simp only [go_sem]; done) | (simp; done) | (simp; omega) | assumption)))); (try (exfalso; omega; done))))))
  (apply Ret.det [0, 1]; (focus (first | exact .inl rfl | exact .inr rfl)); (focus (simp (maxSteps := 9999999) (disch := omega) only [go_sem]; rfl)); (simp (maxSteps := 9999999) (disch := omega) only [go_sem]; (try (repeat' (first | done | trivial | rfl | exact leAs_rfl _ | decide | (refine And.intro ?_ ?_) | (simp; done) | omega | (simp; decide))))))
theorem on_any (d : Dk) : ACall Try.prog 26 [.ptr 0 0] [.cells true [Bo d.off, .any, .any, .any]] (Det (Bo (!d.off)) [.cells true [Bo d.off, .any, .any, .any]]) := by
  refine ACall.startA c26_ok Try.func26 rfl Try.ntmps26 (by kernel_rfl) res26_ok rfl rfl rfl ?_; simp (maxSteps := 9999999) (disch := omega) only [go_sem]
  (repeat' (first | refine AWpA.seq ?_ | refine AWpA.block ?_ | (with_reducible refine CondP.tt ?_) | (with_reducible refine CondP.ff ?_) | refine AWpA.condv (by simp (maxSteps := 9999999) (disch := omega) only [go_sem]; rfl) ?_ | ((first | (apply AWpA.region; (focus (simp (maxSteps := 9999999) (disch := omega) only [go_sem]; rfl))) | (apply AWpA.draw [] [] follows; (focus (first | rfl | decide)); (focus (simp (maxSteps := 9999999) (disch := omega) only [go_sem]; rfl)); (focus (simp (maxSteps := 9999999) (disch := omega) only [go_sem]; first | done | trivial)); (focus (simp (maxSteps := 9999999) (disch := omega) only [go_sem]; rfl))) | (apply TailK.go; (focus (simp (maxSteps := 9999999) (disch := omega) only [go_sem]; rfl))) | refine AWpA.skip ?_ | refine AWpA.exit ?_ | refine AWpA.ret ?_ | (with_reducible refine ARoundsA.succ ?_) | ((first | refine Runs.kt (by assumption) (fun h9 => ?_) | refine Runs.kf (by assumption) (fun h9 => ?_) | refine Runs.nt (by assumption) (fun h9 => ?_) | refine Runs.nf (by assumption) (fun h9 => ?_) | refine CondP.ht (by assumption) (fun h9 => ?_) | refine CondP.hf (by assumption) (fun h9 => ?_) | refine CondP.nt (by assumption) (fun h9 => ?_) | refine CondP.nf (by assumption) (fun h9 => ?_)); (try simp only [h9]); clear h9)); (try simp (maxSteps := 9999999) (disch := omega) only [go_sem]); (try (refine And.intro ?_ ?_; (focus (first | omega | (simp only [go_sem]; done) | (simp; done) | (simp; omega) | assumption))))) | ((first | refine CondP.split (fun hif => ?_) (fun hif => ?_) | refine Runs.part (fun hif => ?_) (fun hif => ?_)) <;> ((try simp only [hif]); (try simp only [decide_eq_true_eq, decide_eq_false_iff_not, Bool.not_eq_true, Bool.not_eq_false, Bool.not_eq_true', Bool.not_eq_false', beq_iff_eq, bne_iff_ne, bne_eq_false_iff_eq, beq_eq_false_iff_ne, ne_eq, Bool.and_eq_true, Bool.or_eq_true, Bool.or_eq_false_iff] at hif); (try (have h9 : _ = true := hif; simp only [h9])); (try (have h9 : _ = false := hif; simp only [h9])); (try simp (maxSteps := 9999999) (disch := omega) only [go_sem]); (try (refine And.intro ?_ ?_; (focus (first | omega | (simp only [go_sem]; done) | (simp; done) | (simp; omega) | assumption)))); (try (exfalso; omega; done))))))
  (apply Ret.det [0]; (focus (first | exact .inl rfl | exact .inr rfl)); (focus (simp (maxSteps := 9999999) (disch := omega) only [go_sem]; rfl)); (simp (maxSteps := 9999999) (disch := omega) only [go_sem]; (try (repeat' (first | done | trivial | rfl | exact leAs_rfl _ | decide | (refine And.intro ?_ ?_) | (simp; done) | omega | (simp; decide))))))
theorem dlen_any (d : Dk) : ACall Try.prog 16 [.ptr 0 0] [.cells true [.any, .any, .sl 1 0 d.l.length 1 none, .any], .cells true (bA d.l)] (Det (I d.l.length) [.cells true [.any, .any, .sl 1 0 d.l.length 1 none, .any], .cells true (bA d.l)]) := by
  refine ACall.startA c16_ok Try.func16 rfl Try.ntmps16 (by kernel_rfl) res16_ok rfl rfl rfl ?_; simp (maxSteps := 9999999) (disch := omega) only [go_sem]
  (repeat' (first | refine AWpA.seq ?_ | refine AWpA.block ?_ | (with_reducible refine CondP.tt ?_) | (with_reducible refine CondP.ff ?_) | refine AWpA.condv (by simp (maxSteps := 9999999) (disch := omega) only [go_sem]; rfl) ?_ | ((first | (apply AWpA.region; (focus (simp (maxSteps := 9999999) (disch := omega) only [go_sem]; rfl))) | (apply AWpA.draw [] [] follows; (focus (first | rfl | decide)); (focus (simp (maxSteps := 9999999) (disch := omega) only [go_sem]; rfl)); (focus (simp (maxSteps := 9999999) (disch := omega) only [go_sem]; first | done | trivial)); (focus (simp (maxSteps := 9999999) (disch := omega) only [go_sem]; rfl))) | (apply TailK.go; (focus (simp (maxSteps := 9999999) (disch := omega) only [go_sem]; rfl))) | refine AWpA.skip ?_ | refine AWpA.exit ?_ | refine AWpA.ret ?_ | (with_reducible refine ARoundsA.succ ?_) | ((first | refine Runs.kt (by assumption) (fun h9 => ?_) | refine Runs.kf (by assumption) (fun h9 => ?_) | refine Runs.nt (by assumption) (fun h9 => ?_) | refine Runs.nf (by assumption) (fun h9 => ?_) | refine CondP.ht (by assumption) (fun h9 => ?_) | refine CondP.hf (by assumption) (fun h9 => ?_) | refine CondP.nt (by assumption) (fun h9 => ?_) | refine CondP.nf (by assumption) (fun h9 => ?_)); (try simp only [h9]); clear h9)); (try simp (maxSteps := 9999999) (disch := omega) only [go_sem]); (try (refine And.intro ?_ ?_; (focus (first | omega | (simp only [go_sem]; done) | (simp; done) | (simp; omega) | assumption))))) | ((first | refine CondP.split (fun hif => ?_) (fun hif => ?_) | refine Runs.part (fun hif => ?_) (fun hif => ?_)) <;> ((try simp only [hif]); (try simp only [decide_eq_true_eq, decide_eq_false_iff_not, Bool.not_eq_true, Bool.not_eq_false, Bool.not_eq_true', Bool.not_eq_false', beq_iff_eq, bne_iff_ne, bne_eq_false_iff_eq, beq_eq_false_iff_ne, ne_eq, Bool.and_eq_true, Bool.or_eq_true, Bool.or_eq_false_iff] at hif); (try (have h9 : _ = true := hif; simp only [h9])); (try (have h9 : _ = false := hif; simp only [h9])); (try simp (maxSteps := 9999999) (disch := omega) only [go_sem]); (try (refine And.intro ?_ ?_; (focus (first | omega | (simp only [go_sem]; done) | (simp; done) | (simp; omega) | assumption)))); (try (exfalso; omega; done))))))
  (apply Ret.det [0, 1]; (focus (first | exact .inl rfl | exact .inr rfl)); (focus (simp (maxSteps := 9999999) (disch := omega) only [go_sem]; rfl)); (simp (maxSteps := 9999999) (disch := omega) only [go_sem]; (try (repeat' (first | done | trivial | rfl | exact leAs_rfl _ | decide | (refine And.intro ?_ ?_) | (simp; done) | omega | (simp; decide))))))
theorem dsafe_any (d : Dk) : ACall Try.prog 18 [.ptr 0 0] [.cells true [.any, .any, .any, I (d.s : Int)]] (Det (I (d.s : Int)) [.cells true [.any, .any, .any, I (d.s : Int)]]) := by
  refine ACall.startA c18_ok Try.func18 rfl Try.ntmps18 (by kernel_rfl) res18_ok rfl rfl rfl ?_; simp (maxSteps := 9999999) (disch := omega) only [go_sem]
  (repeat' (first | refine AWpA.seq ?_ | refine AWpA.block ?_ | (with_reducible refine CondP.tt ?_) | (with_reducible refine CondP.ff ?_) | refine AWpA.condv (by simp (maxSteps := 9999999) (disch := omega) only [go_sem]; rfl) ?_ | ((first | (apply AWpA.region; (focus (simp (maxSteps := 9999999) (disch := omega) only [go_sem]; rfl))) | (apply AWpA.draw [] [] follows; (focus (first | rfl | decide)); (focus (simp (maxSteps := 9999999) (disch := omega) only [go_sem]; rfl)); (focus (simp (maxSteps := 9999999) (disch := omega) only [go_sem]; first | done | trivial)); (focus (simp (maxSteps := 9999999) (disch := omega) only [go_sem]; rfl))) | (apply TailK.go; (focus (simp (maxSteps := 9999999) (disch := omega) only [go_sem]; rfl))) | refine AWpA.skip ?_ | refine AWpA.exit ?_ | refine AWpA.ret ?_ | (with_reducible refine ARoundsA.succ ?_) | ((first | refine Runs.kt (by assumption) (fun h9 => ?_) | refine Runs.kf (by assumption) (fun h9 => ?_) | refine Runs.nt (by assumption) (fun h9 => ?_) | refine Runs.nf (by assumption) (fun h9 => ?_) | refine CondP.ht (by assumption) (fun h9 => ?_) | refine CondP.hf (by assumption) (fun h9 => ?_) | refine CondP.nt (by assumption) (fun h9 => ?_) | refine CondP.nf (by assumption) (fun h9 => ?_)); (try simp only [h9]); clear h9)); (try simp (maxSteps := 9999999) (disch := omega) only [go_sem]); (try (refine And.intro ?_ ?_; (focus (first | omega | (simp only [go_sem]; done) | (simp; done) | (simp; omega) | assumption))))) | ((first | refine CondP.split (fun hif => ?_) (fun hif => ?_) | refine Runs.part (fun hif => ?_) (fun hif => ?_)) <;> ((try simp only [hif]); (try simp only [decide_eq_true_eq, decide_eq_false_iff_not, Bool.not_eq_true, Bool.not_eq_false, Bool.not_eq_true', Bool.not_eq_false', beq_iff_eq, bne_iff_ne, bne_eq_false_iff_eq, beq_eq_false_iff_ne, ne_eq, Bool.and_eq_true, Bool.or_eq_true, Bool.or_eq_false_iff] at hif); (try (have h9 : _ = true := hif; simp only [h9])); (try (have h9 : _ = false := hif; simp only [h9])); (try simp (maxSteps := 9999999) (disch := omega) only [go_sem]); (try (refine And.intro ?_ ?_; (focus (first | omega | (simp only [go_sem]; done) | (simp; done) | (simp; omega) | assumption)))); (try (exfalso; omega; done))))))
  (apply Ret.det [0]; (focus (first | exact .inl rfl | exact .inr rfl)); (focus (simp (maxSteps := 9999999) (disch := omega) only [go_sem]; rfl)); (simp (maxSteps := 9999999) (disch := omega) only [go_sem]; (try (repeat' (first | done | trivial | rfl | exact leAs_rfl _ | decide | (refine And.intro ?_ ?_) | (simp; done) | omega | (simp; decide))))))
theorem app1_any (d : Dk) (hok : d.ok) {P : List AV} {o : Nat} {b : List Int} (s : Seg P o b) : ACall Try.prog 42 [.ptr 0 0, .ptr 1 0] [.cells true [.ptr 2 0], .cells true [.sl 4 o b.length 1 none], DkO 3 d, .cells false (bA d.l), .cells true P] (Det (.tup []) [.cells true [.ptr 2 0], .cells true [.sl 4 o b.length 1 none], DkO 5 (appF b d), .gone, .cells true P, .cells false (bA (d.l ++ b))]) := by
  have h1 := hok.l
  have h2 := s.small
  have h3 := s.le
  refine ACall.startA c42_ok Try.func42 rfl Try.ntmps42 (by kernel_rfl) res42_ok rfl rfl rfl ?_; simp (maxSteps := 9999999) (disch := omega) only [go_sem]
  (repeat' (first | refine AWpA.seq ?_ | refine AWpA.block ?_ | (with_reducible refine CondP.tt ?_) | (with_reducible refine CondP.ff ?_) | refine AWpA.condv (by simp (maxSteps := 9999999) (disch := omega) only [go_sem, s.ren, s.seg, s.noAny]; rfl) ?_ | ((first | (apply AWpA.region; (focus (simp (maxSteps := 9999999) (disch := omega) only [go_sem, s.ren, s.seg, s.noAny]; rfl))) | (apply AWpA.draw [2, 3] [] follows; (focus (first | rfl | decide)); (focus (simp (maxSteps := 9999999) (disch := omega) only [go_sem, s.ren, s.seg, s.noAny]; rfl)); (focus (simp (maxSteps := 9999999) (disch := omega) only [go_sem, s.ren, s.seg, s.noAny]; first | done | trivial)); (focus (simp (maxSteps := 9999999) (disch := omega) only [go_sem, s.ren, s.seg, s.noAny]; rfl))) | (apply TailK.go; (focus (simp (maxSteps := 9999999) (disch := omega) only [go_sem, s.ren, s.seg, s.noAny]; rfl))) | refine AWpA.skip ?_ | refine AWpA.exit ?_ | refine AWpA.ret ?_ | (with_reducible refine ARoundsA.succ ?_) | ((first | refine Runs.kt (by assumption) (fun h9 => ?_) | refine Runs.kf (by assumption) (fun h9 => ?_) | refine Runs.nt (by assumption) (fun h9 => ?_) | refine Runs.nf (by assumption) (fun h9 => ?_) | refine CondP.ht (by assumption) (fun h9 => ?_) | refine CondP.hf (by assumption) (fun h9 => ?_) | refine CondP.nt (by assumption) (fun h9 => ?_) | refine CondP.nf (by assumption) (fun h9 => ?_)); (try simp only [h9]); clear h9)); (try simp (maxSteps := 9999999) (disch := omega) only [go_sem, s.ren, s.seg, s.noAny]); (try (refine And.intro ?_ ?_; (focus (first | omega | (simp only [go_sem]; done) | (simp; done) | (simp; omega) | assumption))))) | ((first | refine CondP.split (fun hif => ?_) (fun hif => ?_) | refine Runs.part (fun hif => ?_) (fun hif => ?_)) <;> ((try simp only [hif]); (try simp only [decide_eq_true_eq, decide_eq_false_iff_not, Bool.not_eq_true, Bool.not_eq_false, Bool.not_eq_true', Bool.not_eq_false', beq_iff_eq, bne_iff_ne, bne_eq_false_iff_eq, beq_eq_false_iff_ne, ne_eq, Bool.and_eq_true, Bool.or_eq_true, Bool.or_eq_false_iff] at hif); (try (have h9 : _ = true := hif; simp only [h9])); (try (have h9 : _ = false := hif; simp only [h9])); (try simp (maxSteps := 9999999) (disch := omega) only [go_sem, s.ren, s.seg, s.noAny]); (try (refine And.intro ?_ ?_; (focus (first | omega | (simp only [go_sem]; done) | (simp; done) | (simp; omega) | assumption)))); (try (exfalso; omega; done))))))
  (apply Ret.det [0, 1, 2, 3, 4, _]; (focus (first | exact .inl rfl | exact .inr rfl)); (focus (simp (maxSteps := 9999999) (disch := omega) only [go_sem, s.ren, appF]; rfl)); (simp (maxSteps := 9999999) (disch := omega) only [go_sem, s.ren, appF]; (try (repeat' (first | done | trivial | rfl | exact leAs_rfl _ | decide | (refine And.intro ?_ ?_) | (simp; done) | omega | (simp; decide))))))
theorem do_app (d : Dk) (hok : d.ok) (w : Int) {P : List AV} {o : Nat} {b : List Int} (s : Seg P o b) : ACall Try.prog 40 [.ptr 2 0, I w, .fn 42 [] [.ptr 0 0, .ptr 1 0]] [.cells true [.ptr 2 0], .cells true [.sl 4 o b.length 1 none], DkO 3 d, .cells false (bA d.l), .cells true P] (Det (I (doE d w)) [.cells true [.ptr 2 0], .cells true [.sl 4 o b.length 1 none], DkO 5 (doD d w (appF b)), .gone, .cells true P, .cells false (bA (doD d w (appF b)).l)]) := by
  rcases doD_cases d w (appF b) with ⟨h1, h2, h3⟩ | ⟨h1, h2, h3, h4⟩ | ⟨h1, h2, h3, h4, h5⟩ | ⟨h1, h2, h3, h4, h5⟩
  · rw [h2, h3]
    refine ACall.startA c40_ok Try.func40 rfl Try.ntmps40 (by kernel_rfl) res40_ok rfl rfl rfl ?_; simp (maxSteps := 9999999) (disch := omega) only [go_sem]
    (repeat' (first | refine AWpA.seq ?_ | refine AWpA.block ?_ | (with_reducible refine CondP.tt ?_) | (with_reducible refine CondP.ff ?_) | refine AWpA.condv (by simp (maxSteps := 9999999) (disch := omega) only [go_sem, s.ren, h1]; rfl) ?_ | ((first | (apply AWpA.region; (focus (simp (maxSteps := 9999999) (disch := omega) only [go_sem, s.ren, h1]; rfl))) | (apply AWpA.draw [] [] follows; (focus (first | rfl | decide)); (focus (simp (maxSteps := 9999999) (disch := omega) only [go_sem, s.ren, h1]; rfl)); (focus (simp (maxSteps := 9999999) (disch := omega) only [go_sem, s.ren, h1]; first | done | trivial)); (focus (simp (maxSteps := 9999999) (disch := omega) only [go_sem, s.ren, h1]; rfl))) | (apply TailK.go; (focus (simp (maxSteps := 9999999) (disch := omega) only [go_sem, s.ren, h1]; rfl))) | refine AWpA.skip ?_ | refine AWpA.exit ?_ | refine AWpA.ret ?_ | (with_reducible refine ARoundsA.succ ?_) | ((first | refine Runs.kt (by assumption) (fun h9 => ?_) | refine Runs.kf (by assumption) (fun h9 => ?_) | refine Runs.nt (by assumption) (fun h9 => ?_) | refine Runs.nf (by assumption) (fun h9 => ?_) | refine CondP.ht (by assumption) (fun h9 => ?_) | refine CondP.hf (by assumption) (fun h9 => ?_) | refine CondP.nt (by assumption) (fun h9 => ?_) | refine CondP.nf (by assumption) (fun h9 => ?_)); (try simp only [h9]); clear h9)); (try simp (maxSteps := 9999999) (disch := omega) only [go_sem, s.ren, h1]); (try (refine And.intro ?_ ?_; (focus (first | omega | (simp only [go_sem]; done) | (simp; done) | (simp; omega) | assumption))))) | ((first | refine CondP.split (fun hif => ?_) (fun hif => ?_) | refine Runs.part (fun hif => ?_) (fun hif => ?_)) <;> ((try simp only [hif]); (try simp only [decide_eq_true_eq, decide_eq_false_iff_not, Bool.not_eq_true, Bool.not_eq_false, Bool.not_eq_true', Bool.not_eq_false', beq_iff_eq, bne_iff_ne, bne_eq_false_iff_eq, beq_eq_false_iff_ne, ne_eq, Bool.and_eq_true, Bool.or_eq_true, Bool.or_eq_false_iff] at hif); (try (have h9 : _ = true := hif; simp only [h9])); (try (have h9 : _ = false := hif; simp only [h9])); (try simp (maxSteps := 9999999) (disch := omega) only [go_sem, s.ren, h1]); (try (refine And.intro ?_ ?_; (focus (first | omega | (simp only [go_sem]; done) | (simp; done) | (simp; omega) | assumption)))); (try (exfalso; omega; done))))))
    (apply Ret.det [0, 1, 2, 3, 4, 3]; (focus (first | exact .inl rfl | exact .inr rfl)); (focus (simp (maxSteps := 9999999) (disch := omega) only [go_sem, s.ren, h1]; rfl)); (simp (maxSteps := 9999999) (disch := omega) only [go_sem, s.ren, h1]; (try (repeat' (first | done | trivial | rfl | exact leAs_rfl _ | decide | (refine And.intro ?_ ?_) | (simp; done) | omega | (simp; decide))))))
  · rw [h3, h4]
    refine ACall.startA c40_ok Try.func40 rfl Try.ntmps40 (by kernel_rfl) res40_ok rfl rfl rfl ?_; simp (maxSteps := 9999999) (disch := omega) only [go_sem]
    (repeat' (first | refine AWpA.seq ?_ | refine AWpA.block ?_ | (with_reducible refine CondP.tt ?_) | (with_reducible refine CondP.ff ?_) | refine AWpA.condv (by simp (maxSteps := 9999999) (disch := omega) only [go_sem, s.ren, h1, eq_false h2]; rfl) ?_ | ((first | (apply AWpA.region; (focus (simp (maxSteps := 9999999) (disch := omega) only [go_sem, s.ren, h1, eq_false h2]; rfl))) | (apply AWpA.draw [] [] follows; (focus (first | rfl | decide)); (focus (simp (maxSteps := 9999999) (disch := omega) only [go_sem, s.ren, h1, eq_false h2]; rfl)); (focus (simp (maxSteps := 9999999) (disch := omega) only [go_sem, s.ren, h1, eq_false h2]; first | done | trivial)); (focus (simp (maxSteps := 9999999) (disch := omega) only [go_sem, s.ren, h1, eq_false h2]; rfl))) | (apply TailK.go; (focus (simp (maxSteps := 9999999) (disch := omega) only [go_sem, s.ren, h1, eq_false h2]; rfl))) | refine AWpA.skip ?_ | refine AWpA.exit ?_ | refine AWpA.ret ?_ | (with_reducible refine ARoundsA.succ ?_) | ((first | refine Runs.kt (by assumption) (fun h9 => ?_) | refine Runs.kf (by assumption) (fun h9 => ?_) | refine Runs.nt (by assumption) (fun h9 => ?_) | refine Runs.nf (by assumption) (fun h9 => ?_) | refine CondP.ht (by assumption) (fun h9 => ?_) | refine CondP.hf (by assumption) (fun h9 => ?_) | refine CondP.nt (by assumption) (fun h9 => ?_) | refine CondP.nf (by assumption) (fun h9 => ?_)); (try simp only [h9]); clear h9)); (try simp (maxSteps := 9999999) (disch := omega) only [go_sem, s.ren, h1, eq_false h2]); (try (refine And.intro ?_ ?_; (focus (first | omega | (simp only [go_sem]; done) | (simp; done) | (simp; omega) | assumption))))) | ((first | refine CondP.split (fun hif => ?_) (fun hif => ?_) | refine Runs.part (fun hif => ?_) (fun hif => ?_)) <;> ((try simp only [hif]); (try simp only [decide_eq_true_eq, decide_eq_false_iff_not, Bool.not_eq_true, Bool.not_eq_false, Bool.not_eq_true', Bool.not_eq_false', beq_iff_eq, bne_iff_ne, bne_eq_false_iff_eq, beq_eq_false_iff_ne, ne_eq, Bool.and_eq_true, Bool.or_eq_true, Bool.or_eq_false_iff] at hif); (try (have h9 : _ = true := hif; simp only [h9])); (try (have h9 : _ = false := hif; simp only [h9])); (try simp (maxSteps := 9999999) (disch := omega) only [go_sem, s.ren, h1, eq_false h2]); (try (refine And.intro ?_ ?_; (focus (first | omega | (simp only [go_sem]; done) | (simp; done) | (simp; omega) | assumption)))); (try (exfalso; omega; done))))))
    all_goals (first | (exfalso; omega) | skip)
    all_goals (apply Ret.det [0, 1, 2, 3, 4, 3]; (focus (first | exact .inl rfl | exact .inr rfl)); (focus (simp (maxSteps := 9999999) (disch := omega) only [go_sem, s.ren, h1]; rfl)); (simp (maxSteps := 9999999) (disch := omega) only [go_sem, s.ren, h1]; (try (repeat' (first | done | trivial | rfl | exact leAs_rfl _ | decide | (refine And.intro ?_ ?_) | (simp; done) | omega | (simp; decide))))))
  · rw [h4, h5]
    refine ACall.startA c40_ok Try.func40 rfl Try.ntmps40 (by kernel_rfl) res40_ok rfl rfl rfl ?_; simp (maxSteps := 9999999) (disch := omega) only [go_sem]
    (repeat' (first | refine AWpA.seq ?_ | refine AWpA.block ?_ | (with_reducible refine CondP.tt ?_) | (with_reducible refine CondP.ff ?_) | refine AWpA.condv (by simp (maxSteps := 9999999) (disch := omega) only [go_sem, s.ren, h1, h2]; rfl) ?_ | ((first | (apply AWpA.region; (focus (simp (maxSteps := 9999999) (disch := omega) only [go_sem, s.ren, h1, h2]; rfl))) | (apply AWpA.draw [] [] follows; (focus (first | rfl | decide)); (focus (simp (maxSteps := 9999999) (disch := omega) only [go_sem, s.ren, h1, h2]; rfl)); (focus (simp (maxSteps := 9999999) (disch := omega) only [go_sem, s.ren, h1, h2]; first | done | trivial)); (focus (simp (maxSteps := 9999999) (disch := omega) only [go_sem, s.ren, h1, h2]; rfl))) | (apply TailK.go; (focus (simp (maxSteps := 9999999) (disch := omega) only [go_sem, s.ren, h1, h2]; rfl))) | refine AWpA.skip ?_ | refine AWpA.exit ?_ | refine AWpA.ret ?_ | (with_reducible refine ARoundsA.succ ?_) | ((first | refine Runs.kt (by assumption) (fun h9 => ?_) | refine Runs.kf (by assumption) (fun h9 => ?_) | refine Runs.nt (by assumption) (fun h9 => ?_) | refine Runs.nf (by assumption) (fun h9 => ?_) | refine CondP.ht (by assumption) (fun h9 => ?_) | refine CondP.hf (by assumption) (fun h9 => ?_) | refine CondP.nt (by assumption) (fun h9 => ?_) | refine CondP.nf (by assumption) (fun h9 => ?_)); (try simp only [h9]); clear h9) | ((first | (with_reducible apply CallG.plain1 [2, 3] (use_no d h3)) | (with_reducible apply CallG.draw1 [2, 3] (use_no d h3))); (focus ((try refine And.intro (leAs_of_eq rfl) ?_); (try refine And.intro (leOL_of_eq rfl) ?_); simp (maxSteps := 9999999) (disch := omega) only [go_sem, s.ren, h1, h2]; first | done | (repeat' (first | rfl | (refine And.intro ?_ ?_))))); (focus (simp (maxSteps := 9999999) (disch := omega) only [go_sem, s.ren, h1, h2]; rfl)))); (try simp (maxSteps := 9999999) (disch := omega) only [go_sem, s.ren, h1, h2]); (try (refine And.intro ?_ ?_; (focus (first | omega | (simp only [go_sem]; done) | (simp; done) | (simp; omega) | assumption))))) | ((first | refine CondP.split (fun hif => ?_) (fun hif => ?_) | refine Runs.part (fun hif => ?_) (fun hif => ?_)) <;> ((try simp only [hif]); (try simp only [decide_eq_true_eq, decide_eq_false_iff_not, Bool.not_eq_true, Bool.not_eq_false, Bool.not_eq_true', Bool.not_eq_false', beq_iff_eq, bne_iff_ne, bne_eq_false_iff_eq, beq_eq_false_iff_ne, ne_eq, Bool.and_eq_true, Bool.or_eq_true, Bool.or_eq_false_iff] at hif); (try (have h9 : _ = true := hif; simp only [h9])); (try (have h9 : _ = false := hif; simp only [h9])); (try simp (maxSteps := 9999999) (disch := omega) only [go_sem, s.ren, h1, h2]); (try (refine And.intro ?_ ?_; (focus (first | omega | (simp only [go_sem]; done) | (simp; done) | (simp; omega) | assumption)))); (try (exfalso; omega; done))))))
    (apply Ret.det [0, 1, 2, 3, 4, 3]; (focus (first | exact .inl rfl | exact .inr rfl)); (focus (simp (maxSteps := 9999999) (disch := omega) only [go_sem, s.ren]; rfl)); (simp (maxSteps := 9999999) (disch := omega) only [go_sem, s.ren]; (try (repeat' (first | done | trivial | rfl | exact leAs_rfl _ | decide | (refine And.intro ?_ ?_) | (simp; done) | omega | (simp; decide))))))
  · rw [h4, h5]
    have hu := use_yes d hok h3
    have hk : (⟨d.l, d.s, d.off, leftU d.left⟩ : Dk).ok := ⟨hok.s, hok.l, (leftU_ok hok.lo hok.hi).1, (leftU_ok hok.lo hok.hi).2⟩
    have ha := app1_any ⟨d.l, d.s, d.off, leftU d.left⟩ hk s
    refine ACall.startA c40_ok Try.func40 rfl Try.ntmps40 (by kernel_rfl) res40_ok rfl rfl rfl ?_; simp (maxSteps := 9999999) (disch := omega) only [go_sem]
    (repeat' (first | refine AWpA.seq ?_ | refine AWpA.block ?_ | (with_reducible refine CondP.tt ?_) | (with_reducible refine CondP.ff ?_) | refine AWpA.condv (by simp (maxSteps := 9999999) (disch := omega) only [go_sem, s.ren, h1, h2]; rfl) ?_ | ((first | (apply AWpA.region; (focus (simp (maxSteps := 9999999) (disch := omega) only [go_sem, s.ren, h1, h2]; rfl))) | (apply AWpA.draw [] [] follows; (focus (first | rfl | decide)); (focus (simp (maxSteps := 9999999) (disch := omega) only [go_sem, s.ren, h1, h2]; rfl)); (focus (simp (maxSteps := 9999999) (disch := omega) only [go_sem, s.ren, h1, h2]; first | done | trivial)); (focus (simp (maxSteps := 9999999) (disch := omega) only [go_sem, s.ren, h1, h2]; rfl))) | (apply TailK.go; (focus (simp (maxSteps := 9999999) (disch := omega) only [go_sem, s.ren, h1, h2]; rfl))) | refine AWpA.skip ?_ | refine AWpA.exit ?_ | refine AWpA.ret ?_ | (with_reducible refine ARoundsA.succ ?_) | ((first | refine Runs.kt (by assumption) (fun h9 => ?_) | refine Runs.kf (by assumption) (fun h9 => ?_) | refine Runs.nt (by assumption) (fun h9 => ?_) | refine Runs.nf (by assumption) (fun h9 => ?_) | refine CondP.ht (by assumption) (fun h9 => ?_) | refine CondP.hf (by assumption) (fun h9 => ?_) | refine CondP.nt (by assumption) (fun h9 => ?_) | refine CondP.nf (by assumption) (fun h9 => ?_)); (try simp only [h9]); clear h9) | ((first | (with_reducible apply CallG.plain1 [2, 3] (hu)) | (with_reducible apply CallG.plain1 [0, 1, 2, 3, 4] (ha)) | (with_reducible apply CallG.draw1 [2, 3] (hu)) | (with_reducible apply CallG.draw1 [0, 1, 2, 3, 4] (ha))); (focus ((try refine And.intro (leAs_of_eq rfl) ?_); (try refine And.intro (leOL_of_eq rfl) ?_); simp (maxSteps := 9999999) (disch := omega) only [go_sem, s.ren, h1, h2]; first | done | (repeat' (first | rfl | (refine And.intro ?_ ?_))))); (focus (simp (maxSteps := 9999999) (disch := omega) only [go_sem, s.ren, h1, h2]; rfl)))); (try simp (maxSteps := 9999999) (disch := omega) only [go_sem, s.ren, h1, h2]); (try (refine And.intro ?_ ?_; (focus (first | omega | (simp only [go_sem]; done) | (simp; done) | (simp; omega) | assumption))))) | ((first | refine CondP.split (fun hif => ?_) (fun hif => ?_) | refine Runs.part (fun hif => ?_) (fun hif => ?_)) <;> ((try simp only [hif]); (try simp only [decide_eq_true_eq, decide_eq_false_iff_not, Bool.not_eq_true, Bool.not_eq_false, Bool.not_eq_true', Bool.not_eq_false', beq_iff_eq, bne_iff_ne, bne_eq_false_iff_eq, beq_eq_false_iff_ne, ne_eq, Bool.and_eq_true, Bool.or_eq_true, Bool.or_eq_false_iff] at hif); (try (have h9 : _ = true := hif; simp only [h9])); (try (have h9 : _ = false := hif; simp only [h9])); (try simp (maxSteps := 9999999) (disch := omega) only [go_sem, s.ren, h1, h2]); (try (refine And.intro ?_ ?_; (focus (first | omega | (simp only [go_sem]; done) | (simp; done) | (simp; omega) | assumption)))); (try (exfalso; omega; done))))))
    (apply Ret.det [0, 1, 2, 3, 4, _]; (focus (first | exact .inl rfl | exact .inr rfl)); (focus (simp (maxSteps := 9999999) (disch := omega) only [go_sem, s.ren, appF, h1]; rfl)); (simp (maxSteps := 9999999) (disch := omega) only [go_sem, s.ren, appF, h1]; (try (repeat' (first | done | trivial | rfl | exact leAs_rfl _ | decide | (refine And.intro ?_ ?_) | (simp; done) | omega | (simp; decide))))))
end Go.Proofs.Ytnadhhmlehifnaa
