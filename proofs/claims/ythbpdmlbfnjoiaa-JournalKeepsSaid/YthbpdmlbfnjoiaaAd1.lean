/- Contracts: a disk. -/
import Derived.Test.YthbpdmlbfnjoiaaEg4
import Derived.Test.YthbpdmlbfnjoiaaAb
import Derived.Test.YthbpdmlbfnjoiaaAbc
namespace Go.Proofs.Ythbpdmlbfnjoiaa
set_option linter.unusedSimpArgs false
set_option linter.unusedVariables false
set_option maxHeartbeats 4000000
open Go Go.Am
set_option maxRecDepth 100000
abbrev nilP6 : AV := .val (.pointer none)
/-- A disk: its bytes, how many are safe, whether there is no power, and how many calls may be done yet. -/
structure Dk where
  l : List Int
  s : Nat
  off : Bool
  left : Int
structure Dk.ok (d : Dk) : Prop where
  s : d.s ≤ d.l.length
  l : d.l.length ≤ 1048576
  lo : -1 ≤ d.left
  hi : d.left ≤ 9223372036854775807
def leftU (x : Int) : Int := if 0 < x then x - 1 else x
theorem leftU_ok {x : Int} (h1 : -1 ≤ x) (h2 : x ≤ 9223372036854775807) : -1 ≤ leftU x ∧ leftU x ≤ 9223372036854775807 := by
  unfold leftU; split <;> omega
/-- A change of a disk, that may be wrong. -/
def doD (d : Dk) (wrong : Int) (f : Dk → Dk) : Dk := if d.off = true then d else if wrong ≠ 0 then d else if d.left = 0 then { d with off := true } else f { d with left := leftU d.left }
def doE (d : Dk) (wrong : Int) : Int := if d.off = true then 11 else if wrong ≠ 0 then wrong else if d.left = 0 then 11 else 0
def appF (b : List Int) (d : Dk) : Dk := { d with l := d.l ++ b }
def syncF (d : Dk) : Dk := { d with s := d.l.length }
def trimF (n : Nat) (d : Dk) : Dk := { d with l := d.l.take n, s := min d.s n }
def appW (d : Dk) (n : Nat) : Int := if (n : Int) ≤ 1048576 - (d.l.length : Int) then 0 else 7
def trimW (d : Dk) (n : Int) : Int := if 0 ≤ n ∧ n ≤ (d.l.length : Int) then 0 else 2
theorem doD_cases (d : Dk) (wrong : Int) (f : Dk → Dk) : (d.off = true ∧ doD d wrong f = d ∧ doE d wrong = 11) ∨ (d.off = false ∧ wrong ≠ 0 ∧ doD d wrong f = d ∧ doE d wrong = wrong) ∨ (d.off = false ∧ wrong = 0 ∧ d.left = 0 ∧ doD d wrong f = { d with off := true } ∧ doE d wrong = 11) ∨ (d.off = false ∧ wrong = 0 ∧ d.left ≠ 0 ∧ doD d wrong f = f { d with left := leftU d.left } ∧ doE d wrong = 0) := by
  unfold doD doE
  cases h1 : d.off with
  | true => exact .inl ⟨rfl, by simp, by simp⟩
  | false =>
    by_cases h2 : wrong = 0
    · by_cases h3 : d.left = 0
      · exact .inr (.inr (.inl ⟨rfl, h2, h3, by simp [h2, h3], by simp [h2, h3]⟩))
      · exact .inr (.inr (.inr ⟨rfl, h2, h3, by simp [h2, h3], by simp [h2, h3]⟩))
    · exact .inr (.inl ⟨rfl, h2, by simp [h2], by simp [h2]⟩)
abbrev DkO (i : Nat) (d : Dk) : AObj := .cells false [Bo d.off, I d.left, .sl i 0 d.l.length 1 none, I (d.s : Int)]
/- quidnunc/disk.New -/
noncomputable def c32_1 : ACode := .region false [⟨some 0, .move, [.c (.val (.pointer none))], none⟩] [] [] [] false [] []
noncomputable def c32_3 : ACode := .region false [⟨some 1, .build [(.bool false), (.int .i64 0)] [(1, 1)], [.c (.val (.int .i64 (-1)))], none⟩,
  ⟨some 2, .build [(.bool false), (.int .i64 0), (.slice none 0 0), (.int .i64 0)] [(0, 2)], [.t 1], none⟩,
  ⟨some 3, .box 0, [.t 2], none⟩,
  ⟨some 0, .move, [.t 3], none⟩] [] [] [0] true [] []
noncomputable def c32_2 : ACode := .seq c32_3 .ret
noncomputable def c32_0 : ACode := .seq c32_1 c32_2
noncomputable def code32 : Code := (Try.f32.body).getD .skip
theorem c32_ok : compC Try.prog 4 code32 = some (strip c32_0) := by kernel_rfl
theorem res32_ok : Try.f32.results.toList.mapM (resC Try.prog) = some [(0, none)] := by kernel_rfl
/- (*quidnunc/disk.power).use -/
noncomputable def c77_1 : ACode := .region false [⟨some 2, .move, [.c (.val (.bool false))], none⟩] [] [] [0] false [] []
noncomputable def c77_5 : ACode := .region false [⟨some 4, .move, [.t 0], none⟩,
  ⟨some 5, .nilChk, [.t 4], none⟩,
  ⟨some 6, .addr 1, [.t 5], none⟩,
  ⟨some 7, .load false 1, [.t 6], none⟩,
  ⟨some 8, .bin .eql, [.t 7, .c (.val (.int .i64 0))], none⟩,
  ⟨some 3, .move, [.t 8], none⟩] [] [] [0, 3] false [] []
noncomputable def c77_8 : ACode := .region false [⟨some 9, .move, [.t 0], none⟩,
  ⟨some 10, .nilChk, [.t 9], none⟩,
  ⟨some 11, .addr 0, [.t 10], none⟩,
  ⟨none, .store 1, [.t 11, .c (.val (.bool true))], none⟩] [] [] [] true [] []
noncomputable def c77_10 : ACode := .region false [⟨some 2, .move, [.c (.val (.bool false))], none⟩] [] [] [2] false [] []
noncomputable def c77_9 : ACode := .seq c77_10 .ret
noncomputable def c77_7 : ACode := .seq c77_8 c77_9
noncomputable def c77_12 : ACode := .region false [⟨some 13, .move, [.t 0], none⟩,
  ⟨some 14, .nilChk, [.t 13], none⟩,
  ⟨some 15, .addr 1, [.t 14], none⟩,
  ⟨some 16, .load false 1, [.t 15], none⟩,
  ⟨some 17, .bin .gtr, [.t 16, .c (.val (.int .i64 0))], none⟩,
  ⟨some 12, .move, [.t 17], none⟩] [] [] [0, 12] false [] []
noncomputable def c77_14 : ACode := .region false [⟨some 18, .move, [.t 0], none⟩,
  ⟨some 19, .nilChk, [.t 18], none⟩,
  ⟨some 20, .addr 1, [.t 19], none⟩,
  ⟨some 21, .load false 1, [.t 20], none⟩,
  ⟨some 22, .bin .sub, [.t 21, .c (.val (.int .i64 1))], none⟩,
  ⟨some 23, .nilChk, [.t 18], none⟩,
  ⟨some 24, .addr 1, [.t 23], none⟩,
  ⟨none, .store 1, [.t 24, .t 22], none⟩] [] [] [] true [] []
noncomputable def c77_13 : ACode := .cond (.t 12) c77_14 .skip
noncomputable def c77_11 : ACode := .seq c77_12 c77_13
noncomputable def c77_6 : ACode := .cond (.t 3) c77_7 c77_11
noncomputable def c77_4 : ACode := .seq c77_5 c77_6
noncomputable def c77_3 : ACode := .block 0 c77_4
noncomputable def c77_16 : ACode := .region false [⟨some 2, .move, [.c (.val (.bool true))], none⟩] [] [] [2] false [] []
noncomputable def c77_15 : ACode := .seq c77_16 .ret
noncomputable def c77_2 : ACode := .seq c77_3 c77_15
noncomputable def c77_0 : ACode := .seq c77_1 c77_2
noncomputable def code77 : Code := (Try.f77.body).getD .skip
theorem c77_ok : compC Try.prog 25 code77 = some (strip c77_0) := by kernel_rfl
theorem res77_ok : Try.f77.results.toList.mapM (resC Try.prog) = some [(2, none)] := by kernel_rfl
/- quidnunc/disk.unless -/
noncomputable def c62_1 : ACode := .region false [⟨some 4, .move, [.c (.val (.int .i64 0))], none⟩] [] [] [0, 1] false [] []
noncomputable def c62_4 : ACode := .region false [⟨some 5, .move, [.t 0], none⟩] [] [] [1, 5] false [] []
noncomputable def c62_7 : ACode := .region false [⟨some 4, .move, [.c (.val (.int .i64 0))], none⟩] [] [] [4] false [] []
noncomputable def c62_6 : ACode := .seq c62_7 .ret
noncomputable def c62_5 : ACode := .cond (.t 5) c62_6 .skip
noncomputable def c62_3 : ACode := .seq c62_4 c62_5
noncomputable def c62_9 : ACode := .region false [⟨some 6, .move, [.t 1], none⟩,
  ⟨some 4, .move, [.t 6], none⟩] [] [] [4] false [] []
noncomputable def c62_8 : ACode := .seq c62_9 .ret
noncomputable def c62_2 : ACode := .seq c62_3 c62_8
noncomputable def c62_0 : ACode := .seq c62_1 c62_2
noncomputable def code62 : Code := (Try.f62.body).getD .skip
theorem c62_ok : compC Try.prog 7 code62 = some (strip c62_0) := by kernel_rfl
theorem res62_ok : Try.f62.results.toList.mapM (resC Try.prog) = some [(4, none)] := by kernel_rfl
/- (*quidnunc/disk.power).Fuse -/
noncomputable def c34_0 : ACode := .region false [⟨some 4, .move, [.t 0], none⟩,
  ⟨some 5, .move, [.t 1], none⟩,
  ⟨some 6, .max, [.t 5, .c (.val (.int .i64 (-1)))], none⟩,
  ⟨some 7, .nilChk, [.t 4], none⟩,
  ⟨some 8, .addr 1, [.t 7], none⟩,
  ⟨none, .store 1, [.t 8, .t 6], none⟩] [] [] [] true [] []
noncomputable def code34 : Code := (Try.f34.body).getD .skip
theorem c34_ok : compC Try.prog 9 code34 = some (strip c34_0) := by kernel_rfl
theorem res34_ok : Try.f34.results.toList.mapM (resC Try.prog) = some [] := by kernel_rfl
/- (*quidnunc/disk.power).On -/
noncomputable def c36_1 : ACode := .region false [⟨some 2, .move, [.c (.val (.bool false))], none⟩] [] [] [0] false [] []
noncomputable def c36_3 : ACode := .region false [⟨some 3, .move, [.t 0], none⟩,
  ⟨some 4, .nilChk, [.t 3], none⟩,
  ⟨some 5, .addr 0, [.t 4], none⟩,
  ⟨some 6, .load false 1, [.t 5], none⟩,
  ⟨some 7, .un .not, [.t 6], none⟩,
  ⟨some 2, .move, [.t 7], none⟩] [] [] [2] false [] []
noncomputable def c36_2 : ACode := .seq c36_3 .ret
noncomputable def c36_0 : ACode := .seq c36_1 c36_2
noncomputable def code36 : Code := (Try.f36.body).getD .skip
theorem c36_ok : compC Try.prog 8 code36 = some (strip c36_0) := by kernel_rfl
theorem res36_ok : Try.f36.results.toList.mapM (resC Try.prog) = some [(2, none)] := by kernel_rfl
/- (*quidnunc/disk.Disk).Len -/
noncomputable def c37_1 : ACode := .region false [⟨some 2, .move, [.c (.val (.int .i64 0))], none⟩] [] [] [0] false [] []
noncomputable def c37_3 : ACode := .region false [⟨some 3, .move, [.t 0], none⟩,
  ⟨some 4, .nilChk, [.t 3], none⟩,
  ⟨some 5, .addr 2, [.t 4], none⟩,
  ⟨some 6, .load false 1, [.t 5], none⟩,
  ⟨some 7, .len, [.t 6], none⟩,
  ⟨some 2, .move, [.t 7], none⟩] [] [] [2] false [] []
noncomputable def c37_2 : ACode := .seq c37_3 .ret
noncomputable def c37_0 : ACode := .seq c37_1 c37_2
noncomputable def code37 : Code := (Try.f37.body).getD .skip
theorem c37_ok : compC Try.prog 8 code37 = some (strip c37_0) := by kernel_rfl
theorem res37_ok : Try.f37.results.toList.mapM (resC Try.prog) = some [(2, none)] := by kernel_rfl
/- (*quidnunc/disk.Disk).Safe -/
noncomputable def c41_1 : ACode := .region false [⟨some 2, .move, [.c (.val (.int .i64 0))], none⟩] [] [] [0] false [] []
noncomputable def c41_3 : ACode := .region false [⟨some 3, .move, [.t 0], none⟩,
  ⟨some 4, .nilChk, [.t 3], none⟩,
  ⟨some 5, .addr 3, [.t 4], none⟩,
  ⟨some 6, .load false 1, [.t 5], none⟩,
  ⟨some 2, .move, [.t 6], none⟩] [] [] [2] false [] []
noncomputable def c41_2 : ACode := .seq c41_3 .ret
noncomputable def c41_0 : ACode := .seq c41_1 c41_2
noncomputable def code41 : Code := (Try.f41.body).getD .skip
theorem c41_ok : compC Try.prog 7 code41 = some (strip c41_0) := by kernel_rfl
theorem res41_ok : Try.f41.results.toList.mapM (resC Try.prog) = some [(2, none)] := by kernel_rfl
/- (*quidnunc/disk.Disk).do -/
noncomputable def c61_1 : ACode := .region false [⟨some 6, .move, [.c (.val (.int .i64 0))], none⟩] [] [] [0, 1, 2] false [] []
noncomputable def c61_5 : ACode := .region false [⟨some 8, .move, [.t 0], none⟩,
  ⟨some 9, .nilChk, [.t 8], none⟩,
  ⟨some 10, .addr 0, [.t 9], none⟩,
  ⟨some 11, .addr 0, [.t 10], none⟩,
  ⟨some 12, .load false 1, [.t 11], none⟩,
  ⟨some 7, .move, [.t 12], none⟩] [] [] [0, 1, 2, 7] false [] []
noncomputable def c61_8 : ACode := .region false [⟨some 6, .move, [.c (.val (.int .i64 11))], none⟩] [] [] [6] false [] []
noncomputable def c61_7 : ACode := .seq c61_8 .ret
noncomputable def c61_10 : ACode := .region false [⟨some 14, .move, [.t 1], none⟩,
  ⟨some 15, .bin .neq, [.t 14, .c (.val (.int .i64 0))], none⟩,
  ⟨some 13, .move, [.t 15], none⟩] [] [] [0, 1, 2, 13] false [] []
noncomputable def c61_13 : ACode := .region false [⟨some 16, .move, [.t 1], none⟩,
  ⟨some 6, .move, [.t 16], none⟩] [] [] [6] false [] []
noncomputable def c61_12 : ACode := .seq c61_13 .ret
noncomputable def c61_15 : ACode := .region false [⟨some 18, .move, [.t 0], none⟩,
  ⟨some 19, .nilChk, [.t 18], none⟩,
  ⟨some 20, .addr 0, [.t 19], none⟩,
  ⟨some 21, .call 77, [.t 20], none⟩,
  ⟨some 22, .un .not, [.t 21], none⟩,
  ⟨some 17, .move, [.t 22], none⟩] [] [] [2, 17] true [] []
noncomputable def c61_18 : ACode := .region false [⟨some 6, .move, [.c (.val (.int .i64 11))], none⟩] [] [] [6] false [] []
noncomputable def c61_17 : ACode := .seq c61_18 .ret
noncomputable def c61_16 : ACode := .cond (.t 17) c61_17 .skip
noncomputable def c61_14 : ACode := .seq c61_15 c61_16
noncomputable def c61_11 : ACode := .cond (.t 13) c61_12 c61_14
noncomputable def c61_9 : ACode := .seq c61_10 c61_11
noncomputable def c61_6 : ACode := .cond (.t 7) c61_7 c61_9
noncomputable def c61_4 : ACode := .seq c61_5 c61_6
noncomputable def c61_3 : ACode := .block 0 c61_4
noncomputable def c61_20 : ACode := .region false [⟨some 23, .move, [.t 2], none⟩,
  ⟨some 24, .callv, [.t 23], none⟩] [] [] [] true [] []
noncomputable def c61_22 : ACode := .region false [⟨some 6, .move, [.c (.val (.int .i64 0))], none⟩] [] [] [6] false [] []
noncomputable def c61_21 : ACode := .seq c61_22 .ret
noncomputable def c61_19 : ACode := .seq c61_20 c61_21
noncomputable def c61_2 : ACode := .seq c61_3 c61_19
noncomputable def c61_0 : ACode := .seq c61_1 c61_2
noncomputable def code61 : Code := (Try.f61.body).getD .skip
theorem c61_ok : compC Try.prog 25 code61 = some (strip c61_0) := by kernel_rfl
theorem res61_ok : Try.f61.results.toList.mapM (resC Try.prog) = some [(6, none)] := by kernel_rfl
/- (*quidnunc/disk.Disk).Append$1 -/
noncomputable def c63_0 : ACode := .region true [⟨some 2, .load false 1, [.t 0], none⟩,
  ⟨some 3, .load false 1, [.t 0], none⟩,
  ⟨some 4, .nilChk, [.t 3], none⟩,
  ⟨some 5, .addr 2, [.t 4], none⟩,
  ⟨some 6, .load false 1, [.t 5], none⟩,
  ⟨some 7, .load false 1, [.t 1], none⟩,
  ⟨some 8, .append 1 1 false, [.t 6, .t 7], none⟩,
  ⟨some 9, .nilChk, [.t 2], none⟩,
  ⟨some 10, .addr 2, [.t 9], none⟩,
  ⟨none, .store 1, [.t 10, .t 8], none⟩] [4] [] [] true [] []
noncomputable def code63 : Code := (Try.f63.body).getD .skip
theorem c63_ok : compC Try.prog 11 code63 = some (strip c63_0) := by kernel_rfl
theorem res63_ok : Try.f63.results.toList.mapM (resC Try.prog) = some [] := by kernel_rfl
/- (*quidnunc/disk.Disk).Append -/
noncomputable def c33_1 : ACode := .region false [⟨some 2, .box 0, [.t 0], none⟩,
  ⟨some 3, .box 0, [.t 1], none⟩,
  ⟨some 4, .move, [.c (.val (.int .i64 0))], none⟩] [] [] [2, 3] true [] []
noncomputable def c33_3 : ACode := .region true [⟨some 5, .load false 1, [.t 2], none⟩,
  ⟨some 6, .load false 1, [.t 3], none⟩,
  ⟨some 7, .len, [.t 6], none⟩,
  ⟨some 8, .load false 1, [.t 2], none⟩,
  ⟨some 9, .nilChk, [.t 8], none⟩,
  ⟨some 10, .addr 2, [.t 9], none⟩,
  ⟨some 11, .load false 1, [.t 10], none⟩,
  ⟨some 12, .len, [.t 11], none⟩,
  ⟨some 13, .bin .sub, [.c (.val (.int .i64 1048576)), .t 12], none⟩,
  ⟨some 14, .bin .leq, [.t 7, .t 13], none⟩,
  ⟨some 15, .call 62, [.t 14, .c (.val (.int .i64 7))], none⟩,
  ⟨some 16, .mkFn 63 0, [.t 2, .t 3], none⟩,
  ⟨some 17, .call 61, [.t 5, .t 15, .t 16], none⟩,
  ⟨some 4, .move, [.t 17], none⟩] [6] [] [4] true [] []
noncomputable def c33_2 : ACode := .seq c33_3 .ret
noncomputable def c33_0 : ACode := .seq c33_1 c33_2
noncomputable def code33 : Code := (Try.f33.body).getD .skip
theorem c33_ok : compC Try.prog 18 code33 = some (strip c33_0) := by kernel_rfl
theorem res33_ok : Try.f33.results.toList.mapM (resC Try.prog) = some [(4, none)] := by kernel_rfl
/- (*quidnunc/disk.Disk).Sync$1 -/
noncomputable def c79_0 : ACode := .region true [⟨some 1, .load false 1, [.t 0], none⟩,
  ⟨some 2, .load false 1, [.t 0], none⟩,
  ⟨some 3, .nilChk, [.t 2], none⟩,
  ⟨some 4, .addr 2, [.t 3], none⟩,
  ⟨some 5, .load false 1, [.t 4], none⟩,
  ⟨some 6, .len, [.t 5], none⟩,
  ⟨some 7, .nilChk, [.t 1], none⟩,
  ⟨some 8, .addr 3, [.t 7], none⟩,
  ⟨none, .store 1, [.t 8, .t 6], none⟩] [4] [] [] true [] []
noncomputable def code79 : Code := (Try.f79.body).getD .skip
theorem c79_ok : compC Try.prog 9 code79 = some (strip c79_0) := by kernel_rfl
theorem res79_ok : Try.f79.results.toList.mapM (resC Try.prog) = some [] := by kernel_rfl
/- (*quidnunc/disk.Disk).Sync -/
noncomputable def c66_1 : ACode := .region false [⟨some 1, .box 0, [.t 0], none⟩,
  ⟨some 2, .move, [.c (.val (.int .i64 0))], none⟩] [] [] [1] true [] []
noncomputable def c66_3 : ACode := .region false [⟨some 3, .load false 1, [.t 1], none⟩,
  ⟨some 4, .mkFn 79 0, [.t 1], none⟩,
  ⟨some 5, .call 61, [.t 3, .c (.val (.int .i64 0)), .t 4], none⟩,
  ⟨some 2, .move, [.t 5], none⟩] [] [] [2] true [] []
noncomputable def c66_2 : ACode := .seq c66_3 .ret
noncomputable def c66_0 : ACode := .seq c66_1 c66_2
noncomputable def code66 : Code := (Try.f66.body).getD .skip
theorem c66_ok : compC Try.prog 6 code66 = some (strip c66_0) := by kernel_rfl
theorem res66_ok : Try.f66.results.toList.mapM (resC Try.prog) = some [(2, none)] := by kernel_rfl
/- (*quidnunc/disk.Disk).Trim$1 -/
noncomputable def c78_1 : ACode := .region true [⟨some 2, .load false 1, [.t 0], none⟩,
  ⟨some 3, .load false 1, [.t 0], none⟩,
  ⟨some 4, .nilChk, [.t 3], none⟩,
  ⟨some 5, .addr 2, [.t 4], none⟩,
  ⟨some 6, .load false 1, [.t 5], none⟩,
  ⟨some 7, .load false 1, [.t 1], none⟩,
  ⟨some 8, .slS 1 false true false, [.t 6, .t 7], none⟩,
  ⟨some 9, .nilChk, [.t 2], none⟩,
  ⟨some 10, .addr 2, [.t 9], none⟩,
  ⟨none, .store 1, [.t 10, .t 8], none⟩] [4] [] [0, 1] true [] []
noncomputable def c78_2 : ACode := .region true [⟨some 11, .load false 1, [.t 0], none⟩,
  ⟨some 12, .load false 1, [.t 0], none⟩,
  ⟨some 13, .nilChk, [.t 12], none⟩,
  ⟨some 14, .addr 3, [.t 13], none⟩,
  ⟨some 15, .load false 1, [.t 14], none⟩,
  ⟨some 16, .load false 1, [.t 1], none⟩,
  ⟨some 17, .min, [.t 15, .t 16], none⟩,
  ⟨some 18, .nilChk, [.t 11], none⟩,
  ⟨some 19, .addr 3, [.t 18], none⟩,
  ⟨none, .store 1, [.t 19, .t 17], none⟩] [4] [] [] true [] []
noncomputable def c78_0 : ACode := .seq c78_1 c78_2
noncomputable def code78 : Code := (Try.f78.body).getD .skip
theorem c78_ok : compC Try.prog 20 code78 = some (strip c78_0) := by kernel_rfl
theorem res78_ok : Try.f78.results.toList.mapM (resC Try.prog) = some [] := by kernel_rfl
/- (*quidnunc/disk.Disk).Trim -/
noncomputable def c64_1 : ACode := .region false [⟨some 2, .box 0, [.t 0], none⟩,
  ⟨some 3, .box 0, [.t 1], none⟩,
  ⟨some 4, .move, [.c (.val (.int .i64 0))], none⟩] [] [] [2, 3] true [] []
noncomputable def c64_3 : ACode := .region true [⟨some 5, .load false 1, [.t 2], none⟩,
  ⟨some 6, .load false 1, [.t 3], none⟩,
  ⟨some 7, .bin .geq, [.t 6, .c (.val (.int .i64 0))], none⟩,
  ⟨some 8, .move, [.t 7], none⟩,
  ⟨some 9, .load false 1, [.t 3], some (some 8, true)⟩,
  ⟨some 10, .load false 1, [.t 2], some (some 8, true)⟩,
  ⟨some 11, .nilChk, [.t 10], some (some 8, true)⟩,
  ⟨some 12, .addr 2, [.t 11], some (some 8, true)⟩,
  ⟨some 13, .load false 1, [.t 12], some (some 8, true)⟩,
  ⟨some 14, .len, [.t 13], some (some 8, true)⟩,
  ⟨some 15, .bin .leq, [.t 9, .t 14], some (some 8, true)⟩,
  ⟨some 16, .pick, [.t 8, .t 15, .c (.val (.bool false))], none⟩,
  ⟨some 17, .call 62, [.t 16, .c (.val (.int .i64 2))], none⟩,
  ⟨some 18, .mkFn 78 0, [.t 2, .t 3], none⟩,
  ⟨some 19, .call 61, [.t 5, .t 17, .t 18], none⟩,
  ⟨some 4, .move, [.t 19], none⟩] [8] [] [4] true [] []
noncomputable def c64_2 : ACode := .seq c64_3 .ret
noncomputable def c64_0 : ACode := .seq c64_1 c64_2
noncomputable def code64 : Code := (Try.f64.body).getD .skip
theorem c64_ok : compC Try.prog 20 code64 = some (strip c64_0) := by kernel_rfl
theorem res64_ok : Try.f64.results.toList.mapM (resC Try.prog) = some [(4, none)] := by kernel_rfl
/- (*quidnunc/disk.Disk).Read -/
noncomputable def c38_1 : ACode := .region false [⟨some 2, .move, [.c (.val (.slice none 0 0))], none⟩,
  ⟨some 3, .move, [.c (.val (.int .i64 0))], none⟩] [] [] [0] false [] []
noncomputable def c38_4 : ACode := .region false [⟨some 4, .move, [.t 0], none⟩,
  ⟨some 5, .nilChk, [.t 4], none⟩,
  ⟨some 6, .addr 0, [.t 5], none⟩,
  ⟨some 7, .addr 0, [.t 6], none⟩,
  ⟨some 8, .load false 1, [.t 7], none⟩] [] [] [0, 8] false [] []
noncomputable def c38_7 : ACode := .region false [⟨some 2, .move, [.c (.val (.slice none 0 0))], none⟩,
  ⟨some 3, .move, [.c (.val (.int .i64 11))], none⟩] [] [] [2, 3] false [] []
noncomputable def c38_6 : ACode := .seq c38_7 .ret
noncomputable def c38_5 : ACode := .cond (.t 8) c38_6 .skip
noncomputable def c38_3 : ACode := .seq c38_4 c38_5
noncomputable def c38_9 : ACode := .region false [⟨some 9, .move, [.t 0], none⟩,
  ⟨some 10, .nilChk, [.t 9], none⟩,
  ⟨some 11, .addr 2, [.t 10], none⟩,
  ⟨some 12, .load false 1, [.t 11], none⟩,
  ⟨some 13, .call 65, [.t 12], none⟩,
  ⟨some 2, .move, [.t 13], none⟩,
  ⟨some 3, .move, [.c (.val (.int .i64 0))], none⟩] [] [] [2, 3] true [] []
noncomputable def c38_8 : ACode := .seq c38_9 .ret
noncomputable def c38_2 : ACode := .seq c38_3 c38_8
noncomputable def c38_0 : ACode := .seq c38_1 c38_2
noncomputable def code38 : Code := (Try.f38.body).getD .skip
theorem c38_ok : compC Try.prog 14 code38 = some (strip c38_0) := by kernel_rfl
theorem res38_ok : Try.f38.results.toList.mapM (resC Try.prog) = some [(2, none), (3, none)] := by kernel_rfl
/- (*quidnunc/disk.Disk).Crash -/
noncomputable def c43_1 : ACode := .region false [⟨some 4, .move, [.c (.val (.int .i64 0))], none⟩] [] [] [0, 1] false [] []
noncomputable def c43_3 : ACode := .region true [⟨some 6, .move, [.t 1], none⟩,
  ⟨some 7, .max, [.t 6, .c (.val (.int .i64 0))], none⟩,
  ⟨some 8, .move, [.t 0], none⟩,
  ⟨some 9, .nilChk, [.t 8], none⟩,
  ⟨some 10, .addr 2, [.t 9], none⟩,
  ⟨some 11, .load false 1, [.t 10], none⟩,
  ⟨some 12, .len, [.t 11], none⟩,
  ⟨some 13, .move, [.t 0], none⟩,
  ⟨some 14, .nilChk, [.t 13], none⟩,
  ⟨some 15, .addr 3, [.t 14], none⟩,
  ⟨some 16, .load false 1, [.t 15], none⟩,
  ⟨some 17, .bin .sub, [.t 12, .t 16], none⟩,
  ⟨some 18, .min, [.t 7, .t 17], none⟩,
  ⟨some 5, .move, [.t 18], none⟩] [] [] [0, 5] false [] []
noncomputable def c43_5 : ACode := .region true [⟨some 19, .move, [.t 0], none⟩,
  ⟨some 20, .move, [.t 0], none⟩,
  ⟨some 21, .nilChk, [.t 20], none⟩,
  ⟨some 22, .addr 2, [.t 21], none⟩,
  ⟨some 23, .load false 1, [.t 22], none⟩,
  ⟨some 24, .move, [.t 0], none⟩,
  ⟨some 25, .nilChk, [.t 24], none⟩,
  ⟨some 26, .addr 3, [.t 25], none⟩,
  ⟨some 27, .load false 1, [.t 26], none⟩,
  ⟨some 28, .move, [.t 5], none⟩,
  ⟨some 29, .bin .add, [.t 27, .t 28], none⟩,
  ⟨some 30, .slS 1 false true false, [.t 23, .t 29], none⟩] [] [] [0, 5] true [] [⟨some 31, .nilChk, [.t 19], none⟩,
  ⟨some 32, .addr 2, [.t 31], none⟩,
  ⟨none, .store 1, [.t 32, .t 30], none⟩]
noncomputable def c43_7 : ACode := .region false [⟨some 33, .move, [.t 0], none⟩,
  ⟨some 34, .move, [.t 0], none⟩,
  ⟨some 35, .nilChk, [.t 34], none⟩,
  ⟨some 36, .addr 2, [.t 35], none⟩,
  ⟨some 37, .load false 1, [.t 36], none⟩,
  ⟨some 38, .len, [.t 37], none⟩,
  ⟨some 39, .nilChk, [.t 33], none⟩,
  ⟨some 40, .addr 3, [.t 39], none⟩,
  ⟨none, .store 1, [.t 40, .t 38], none⟩] [] [] [0, 5] true [] []
noncomputable def c43_9 : ACode := .region false [⟨some 41, .move, [.t 0], none⟩,
  ⟨some 42, .build [(.bool false), (.int .i64 0)] [(1, 1)], [.c (.val (.int .i64 (-1)))], none⟩,
  ⟨some 43, .nilChk, [.t 41], none⟩,
  ⟨some 44, .addr 0, [.t 43], none⟩,
  ⟨none, .store 2, [.t 44, .t 42], none⟩] [] [] [5] true [] []
noncomputable def c43_11 : ACode := .region false [⟨some 45, .move, [.t 5], none⟩,
  ⟨some 4, .move, [.t 45], none⟩] [] [] [4] false [] []
noncomputable def c43_10 : ACode := .seq c43_11 .ret
noncomputable def c43_8 : ACode := .seq c43_9 c43_10
noncomputable def c43_6 : ACode := .seq c43_7 c43_8
noncomputable def c43_4 : ACode := .seq c43_5 c43_6
noncomputable def c43_2 : ACode := .seq c43_3 c43_4
noncomputable def c43_0 : ACode := .seq c43_1 c43_2
noncomputable def code43 : Code := (Try.f43.body).getD .skip
theorem c43_ok : compC Try.prog 46 code43 = some (strip c43_0) := by kernel_rfl
theorem res43_ok : Try.f43.results.toList.mapM (resC Try.prog) = some [(4, none)] := by kernel_rfl
/- (*quidnunc/disk.Disk).Turn -/
noncomputable def c42_1 : ACode := .region false [⟨some 6, .move, [.c (.val (.int .i64 0))], none⟩] [] [] [0, 1, 2] false [] []
noncomputable def c42_4 : ACode := .region false [⟨some 7, .move, [.t 1], none⟩,
  ⟨some 8, .bin .lss, [.t 7, .c (.val (.int .i64 0))], none⟩,
  ⟨some 9, .move, [.t 8], none⟩,
  ⟨some 10, .move, [.t 1], some (some 9, false)⟩,
  ⟨some 11, .move, [.t 0], some (some 9, false)⟩,
  ⟨some 12, .nilChk, [.t 11], some (some 9, false)⟩,
  ⟨some 13, .addr 2, [.t 12], some (some 9, false)⟩,
  ⟨some 14, .load false 1, [.t 13], some (some 9, false)⟩,
  ⟨some 15, .len, [.t 14], some (some 9, false)⟩,
  ⟨some 16, .bin .geq, [.t 10, .t 15], some (some 9, false)⟩,
  ⟨some 17, .pick, [.t 9, .c (.val (.bool true)), .t 16], none⟩] [] [] [0, 1, 2, 17] false [] []
noncomputable def c42_7 : ACode := .region false [⟨some 6, .move, [.c (.val (.int .i64 2))], none⟩] [] [] [6] false [] []
noncomputable def c42_6 : ACode := .seq c42_7 .ret
noncomputable def c42_5 : ACode := .cond (.t 17) c42_6 .skip
noncomputable def c42_3 : ACode := .seq c42_4 c42_5
noncomputable def c42_9 : ACode := .region false [⟨some 18, .move, [.t 0], none⟩,
  ⟨some 19, .nilChk, [.t 18], none⟩,
  ⟨some 20, .addr 2, [.t 19], none⟩,
  ⟨some 21, .load false 1, [.t 20], none⟩,
  ⟨some 22, .move, [.t 1], none⟩,
  ⟨some 23, .ixS 1, [.t 21, .t 22], none⟩,
  ⟨some 24, .load false 1, [.t 23], none⟩,
  ⟨some 25, .move, [.t 2], none⟩,
  ⟨some 26, .bin .xor, [.t 24, .t 25], none⟩,
  ⟨some 27, .ixS 1, [.t 21, .t 22], none⟩,
  ⟨none, .store 1, [.t 27, .t 26], none⟩] [] [] [] true [] []
noncomputable def c42_11 : ACode := .region false [⟨some 6, .move, [.c (.val (.int .i64 0))], none⟩] [] [] [6] false [] []
noncomputable def c42_10 : ACode := .seq c42_11 .ret
noncomputable def c42_8 : ACode := .seq c42_9 c42_10
noncomputable def c42_2 : ACode := .seq c42_3 c42_8
noncomputable def c42_0 : ACode := .seq c42_1 c42_2
noncomputable def code42 : Code := (Try.f42.body).getD .skip
theorem c42_ok : compC Try.prog 28 code42 = some (strip c42_0) := by kernel_rfl
theorem res42_ok : Try.f42.results.toList.mapM (resC Try.prog) = some [(6, none)] := by kernel_rfl
theorem dnew_any : ACall Try.prog 32 [] [] (Det (.ptr 0 0) [DkO 1 ⟨[], 0, false, -1⟩, .cells false []]) := by
  refine ACall.startA c32_ok Try.func32 rfl Try.ntmps32 (by kernel_rfl) res32_ok rfl rfl rfl ?_; simp (maxSteps := 9999999) (disch := omega) only [go_sem]
  refine AWpA.dummy ?_
  (have k9 := k0; (repeat' (first | refine AWpA.seq ?_ | refine AWpA.block ?_ | (with_reducible refine CondP.tt ?_) | (with_reducible refine CondP.ff ?_) | refine AWpA.cg ?_ | ((first | refine AWpA.rg ?_ | refine AWpA.dg [] [] follows ?_ | refine TailK.tg ?_ | refine AWpA.skip ?_ | refine AWpA.exit ?_ | refine AWpA.ret ?_ | (with_reducible refine ARoundsA.succ ?_) | ((first | refine Runs.gkt (fun h9 => ?_) | refine Runs.gkf (fun h9 => ?_) | refine Runs.gnt (fun h9 => ?_) | refine Runs.gnf (fun h9 => ?_) | refine CondP.gt (fun h9 => ?_) | refine CondP.gf (fun h9 => ?_) | refine CondP.gnt (fun h9 => ?_) | refine CondP.gnf (fun h9 => ?_)); (try simp only [h9]); clear h9)); (try simp (maxSteps := 9999999) (disch := omega) only [go_sem, k9]); (try refine cnd ?_)) | ((first | refine CondP.split (fun hif => ?_) (fun hif => ?_) | refine Runs.part (fun hif => ?_) (fun hif => ?_)) <;> ((try simp only [hif]); (try simp only [BL] at hif); (try (have h9 : _ = true := hif; simp only [h9])); (try (have h9 : _ = false := hif; simp only [h9])); (try simp (maxSteps := 9999999) (disch := omega) only [go_sem, k9]); (try refine cnd ?_); (try (exfalso; omega; done)))))); (all_goals (try clear k9)))
  (apply Ret.det [_, 0]; (focus (first | exact .inl rfl | exact .inr rfl)); (focus (simp (maxSteps := 9999999) (disch := omega) only [go_sem]; rfl)); (simp (maxSteps := 9999999) (disch := omega) only [go_sem]; (try (repeat' (first | done | trivial | rfl | exact leAs_rfl _ | decide | (refine And.intro ?_ ?_) | (simp; done) | omega | (simp; decide))))))
theorem unless_any (b : Bool) (e : Int) : ACall Try.prog 62 [Bo b, I e] [] (Det (I (cond b 0 e)) []) := by
  cases b
  · refine ACall.startA c62_ok Try.func62 rfl Try.ntmps62 (by kernel_rfl) res62_ok rfl rfl rfl ?_; simp (maxSteps := 9999999) (disch := omega) only [go_sem]
    (have k9 := k0; (repeat' (first | refine AWpA.seq ?_ | refine AWpA.block ?_ | (with_reducible refine CondP.tt ?_) | (with_reducible refine CondP.ff ?_) | refine AWpA.cg ?_ | ((first | refine AWpA.rg ?_ | refine AWpA.dg [] [] follows ?_ | refine TailK.tg ?_ | refine AWpA.skip ?_ | refine AWpA.exit ?_ | refine AWpA.ret ?_ | (with_reducible refine ARoundsA.succ ?_) | ((first | refine Runs.gkt (fun h9 => ?_) | refine Runs.gkf (fun h9 => ?_) | refine Runs.gnt (fun h9 => ?_) | refine Runs.gnf (fun h9 => ?_) | refine CondP.gt (fun h9 => ?_) | refine CondP.gf (fun h9 => ?_) | refine CondP.gnt (fun h9 => ?_) | refine CondP.gnf (fun h9 => ?_)); (try simp only [h9]); clear h9)); (try simp (maxSteps := 9999999) (disch := omega) only [go_sem, k9]); (try refine cnd ?_)) | ((first | refine CondP.split (fun hif => ?_) (fun hif => ?_) | refine Runs.part (fun hif => ?_) (fun hif => ?_)) <;> ((try simp only [hif]); (try simp only [BL] at hif); (try (have h9 : _ = true := hif; simp only [h9])); (try (have h9 : _ = false := hif; simp only [h9])); (try simp (maxSteps := 9999999) (disch := omega) only [go_sem, k9]); (try refine cnd ?_); (try (exfalso; omega; done)))))); (all_goals (try clear k9)))
    (apply Ret.det []; (focus (first | exact .inl rfl | exact .inr rfl)); (focus (simp (maxSteps := 9999999) (disch := omega) only [go_sem]; rfl)); (simp (maxSteps := 9999999) (disch := omega) only [go_sem]; (try (repeat' (first | done | trivial | rfl | exact leAs_rfl _ | decide | (refine And.intro ?_ ?_) | (simp; done) | omega | (simp; decide))))))
  · refine ACall.startA c62_ok Try.func62 rfl Try.ntmps62 (by kernel_rfl) res62_ok rfl rfl rfl ?_; simp (maxSteps := 9999999) (disch := omega) only [go_sem]
    (have k9 := k0; (repeat' (first | refine AWpA.seq ?_ | refine AWpA.block ?_ | (with_reducible refine CondP.tt ?_) | (with_reducible refine CondP.ff ?_) | refine AWpA.cg ?_ | ((first | refine AWpA.rg ?_ | refine AWpA.dg [] [] follows ?_ | refine TailK.tg ?_ | refine AWpA.skip ?_ | refine AWpA.exit ?_ | refine AWpA.ret ?_ | (with_reducible refine ARoundsA.succ ?_) | ((first | refine Runs.gkt (fun h9 => ?_) | refine Runs.gkf (fun h9 => ?_) | refine Runs.gnt (fun h9 => ?_) | refine Runs.gnf (fun h9 => ?_) | refine CondP.gt (fun h9 => ?_) | refine CondP.gf (fun h9 => ?_) | refine CondP.gnt (fun h9 => ?_) | refine CondP.gnf (fun h9 => ?_)); (try simp only [h9]); clear h9)); (try simp (maxSteps := 9999999) (disch := omega) only [go_sem, k9]); (try refine cnd ?_)) | ((first | refine CondP.split (fun hif => ?_) (fun hif => ?_) | refine Runs.part (fun hif => ?_) (fun hif => ?_)) <;> ((try simp only [hif]); (try simp only [BL] at hif); (try (have h9 : _ = true := hif; simp only [h9])); (try (have h9 : _ = false := hif; simp only [h9])); (try simp (maxSteps := 9999999) (disch := omega) only [go_sem, k9]); (try refine cnd ?_); (try (exfalso; omega; done)))))); (all_goals (try clear k9)))
    (apply Ret.det []; (focus (first | exact .inl rfl | exact .inr rfl)); (focus (simp (maxSteps := 9999999) (disch := omega) only [go_sem]; rfl)); (simp (maxSteps := 9999999) (disch := omega) only [go_sem]; (try (repeat' (first | done | trivial | rfl | exact leAs_rfl _ | decide | (refine And.intro ?_ ?_) | (simp; done) | omega | (simp; decide))))))
theorem use_no (d : Dk) (h : d.left = 0) : ACall Try.prog 77 [.ptr 0 0] [DkO 1 d, .cells false (bA d.l)] (Det (Bo false) [DkO 1 { d with off := true }, .cells false (bA d.l)]) := by
  refine ACall.startA c77_ok Try.func77 rfl Try.ntmps77 (by kernel_rfl) res77_ok rfl rfl rfl ?_; simp (maxSteps := 9999999) (disch := omega) only [go_sem]
  (have k9 := And.intro @h (k0); (repeat' (first | refine AWpA.seq ?_ | refine AWpA.block ?_ | (with_reducible refine CondP.tt ?_) | (with_reducible refine CondP.ff ?_) | refine AWpA.cg ?_ | ((first | refine AWpA.rg ?_ | refine AWpA.dg [] [] follows ?_ | refine TailK.tg ?_ | refine AWpA.skip ?_ | refine AWpA.exit ?_ | refine AWpA.ret ?_ | (with_reducible refine ARoundsA.succ ?_) | ((first | refine Runs.gkt (fun h9 => ?_) | refine Runs.gkf (fun h9 => ?_) | refine Runs.gnt (fun h9 => ?_) | refine Runs.gnf (fun h9 => ?_) | refine CondP.gt (fun h9 => ?_) | refine CondP.gf (fun h9 => ?_) | refine CondP.gnt (fun h9 => ?_) | refine CondP.gnf (fun h9 => ?_)); (try simp only [h9]); clear h9)); (try simp (maxSteps := 9999999) (disch := omega) only [go_sem, k9]); (try refine cnd ?_)) | ((first | refine CondP.split (fun hif => ?_) (fun hif => ?_) | refine Runs.part (fun hif => ?_) (fun hif => ?_)) <;> ((try simp only [hif]); (try simp only [BL] at hif); (try (have h9 : _ = true := hif; simp only [h9])); (try (have h9 : _ = false := hif; simp only [h9])); (try simp (maxSteps := 9999999) (disch := omega) only [go_sem, k9]); (try refine cnd ?_); (try (exfalso; omega; done)))))); (all_goals (try clear k9)))
  (apply Ret.det [0, 1]; (focus (first | exact .inl rfl | exact .inr rfl)); (focus (simp (maxSteps := 9999999) (disch := omega) only [go_sem, h]; rfl)); (simp (maxSteps := 9999999) (disch := omega) only [go_sem, h]; (try (repeat' (first | done | trivial | rfl | exact leAs_rfl _ | decide | (refine And.intro ?_ ?_) | (simp; done) | omega | (simp; decide))))))
theorem use_yes (d : Dk) (hok : d.ok) (h : d.left ≠ 0) : ACall Try.prog 77 [.ptr 0 0] [DkO 1 d, .cells false (bA d.l)] (Det (Bo true) [DkO 1 { d with left := leftU d.left }, .cells false (bA d.l)]) := by
  have h1 := hok.lo
  have h2 := hok.hi
  by_cases h3 : 0 < d.left
  · have e : leftU d.left = d.left - 1 := by simp [leftU, h3]
    rw [e]
    generalize hx : d.left = x at *
    refine ACall.startA c77_ok Try.func77 rfl Try.ntmps77 (by kernel_rfl) res77_ok rfl rfl rfl ?_; simp (maxSteps := 9999999) (disch := omega) only [go_sem]
    (have k9 := And.intro @hx (And.intro (eq_false h) (And.intro (eq_true h3) (k0))); (repeat' (first | refine AWpA.seq ?_ | refine AWpA.block ?_ | (with_reducible refine CondP.tt ?_) | (with_reducible refine CondP.ff ?_) | refine AWpA.cg ?_ | ((first | refine AWpA.rg ?_ | refine AWpA.dg [] [] follows ?_ | refine TailK.tg ?_ | refine AWpA.skip ?_ | refine AWpA.exit ?_ | refine AWpA.ret ?_ | (with_reducible refine ARoundsA.succ ?_) | ((first | refine Runs.gkt (fun h9 => ?_) | refine Runs.gkf (fun h9 => ?_) | refine Runs.gnt (fun h9 => ?_) | refine Runs.gnf (fun h9 => ?_) | refine CondP.gt (fun h9 => ?_) | refine CondP.gf (fun h9 => ?_) | refine CondP.gnt (fun h9 => ?_) | refine CondP.gnf (fun h9 => ?_)); (try simp only [h9]); clear h9)); (try simp (maxSteps := 9999999) (disch := omega) only [go_sem, k9]); (try refine cnd ?_)) | ((first | refine CondP.split (fun hif => ?_) (fun hif => ?_) | refine Runs.part (fun hif => ?_) (fun hif => ?_)) <;> ((try simp only [hif]); (try simp only [BL] at hif); (try (have h9 : _ = true := hif; simp only [h9])); (try (have h9 : _ = false := hif; simp only [h9])); (try simp (maxSteps := 9999999) (disch := omega) only [go_sem, k9]); (try refine cnd ?_); (try (exfalso; omega; done)))))); (all_goals (try clear k9)))
    (apply Ret.det [0, 1]; (focus (first | exact .inl rfl | exact .inr rfl)); (focus (simp (maxSteps := 9999999) (disch := omega) only [go_sem, hx]; rfl)); (simp (maxSteps := 9999999) (disch := omega) only [go_sem, hx]; (try (repeat' (first | done | trivial | rfl | exact leAs_rfl _ | decide | (refine And.intro ?_ ?_) | (simp; done) | omega | (simp; decide))))))
  · have e : leftU d.left = d.left := by simp [leftU, h3]
    rw [e]
    generalize hx : d.left = x at *
    refine ACall.startA c77_ok Try.func77 rfl Try.ntmps77 (by kernel_rfl) res77_ok rfl rfl rfl ?_; simp (maxSteps := 9999999) (disch := omega) only [go_sem]
    (have k9 := And.intro @hx (And.intro (eq_false h) (And.intro (eq_false h3) (k0))); (repeat' (first | refine AWpA.seq ?_ | refine AWpA.block ?_ | (with_reducible refine CondP.tt ?_) | (with_reducible refine CondP.ff ?_) | refine AWpA.cg ?_ | ((first | refine AWpA.rg ?_ | refine AWpA.dg [] [] follows ?_ | refine TailK.tg ?_ | refine AWpA.skip ?_ | refine AWpA.exit ?_ | refine AWpA.ret ?_ | (with_reducible refine ARoundsA.succ ?_) | ((first | refine Runs.gkt (fun h9 => ?_) | refine Runs.gkf (fun h9 => ?_) | refine Runs.gnt (fun h9 => ?_) | refine Runs.gnf (fun h9 => ?_) | refine CondP.gt (fun h9 => ?_) | refine CondP.gf (fun h9 => ?_) | refine CondP.gnt (fun h9 => ?_) | refine CondP.gnf (fun h9 => ?_)); (try simp only [h9]); clear h9)); (try simp (maxSteps := 9999999) (disch := omega) only [go_sem, k9]); (try refine cnd ?_)) | ((first | refine CondP.split (fun hif => ?_) (fun hif => ?_) | refine Runs.part (fun hif => ?_) (fun hif => ?_)) <;> ((try simp only [hif]); (try simp only [BL] at hif); (try (have h9 : _ = true := hif; simp only [h9])); (try (have h9 : _ = false := hif; simp only [h9])); (try simp (maxSteps := 9999999) (disch := omega) only [go_sem, k9]); (try refine cnd ?_); (try (exfalso; omega; done)))))); (all_goals (try clear k9)))
    (apply Ret.det [0, 1]; (focus (first | exact .inl rfl | exact .inr rfl)); (focus (simp (maxSteps := 9999999) (disch := omega) only [go_sem, hx]; rfl)); (simp (maxSteps := 9999999) (disch := omega) only [go_sem, hx]; (try (repeat' (first | done | trivial | rfl | exact leAs_rfl _ | decide | (refine And.intro ?_ ?_) | (simp; done) | omega | (simp; decide))))))
theorem fuse_any (d : Dk) (n : Int) : ACall Try.prog 34 [.ptr 0 0, I n] [DkO 1 d, .cells false (bA d.l)] (Det (.tup []) [DkO 1 { d with left := if -1 > n then -1 else n }, .cells false (bA d.l)]) := by
  refine ACall.startA c34_ok Try.func34 rfl Try.ntmps34 (by kernel_rfl) res34_ok rfl rfl rfl ?_; simp (maxSteps := 9999999) (disch := omega) only [go_sem]
  (have k9 := k0; (repeat' (first | refine AWpA.seq ?_ | refine AWpA.block ?_ | (with_reducible refine CondP.tt ?_) | (with_reducible refine CondP.ff ?_) | refine AWpA.cg ?_ | ((first | refine AWpA.rg ?_ | refine AWpA.dg [] [] follows ?_ | refine TailK.tg ?_ | refine AWpA.skip ?_ | refine AWpA.exit ?_ | refine AWpA.ret ?_ | (with_reducible refine ARoundsA.succ ?_) | ((first | refine Runs.gkt (fun h9 => ?_) | refine Runs.gkf (fun h9 => ?_) | refine Runs.gnt (fun h9 => ?_) | refine Runs.gnf (fun h9 => ?_) | refine CondP.gt (fun h9 => ?_) | refine CondP.gf (fun h9 => ?_) | refine CondP.gnt (fun h9 => ?_) | refine CondP.gnf (fun h9 => ?_)); (try simp only [h9]); clear h9)); (try simp (maxSteps := 9999999) (disch := omega) only [go_sem, k9]); (try refine cnd ?_)) | ((first | refine CondP.split (fun hif => ?_) (fun hif => ?_) | refine Runs.part (fun hif => ?_) (fun hif => ?_)) <;> ((try simp only [hif]); (try simp only [BL] at hif); (try (have h9 : _ = true := hif; simp only [h9])); (try (have h9 : _ = false := hif; simp only [h9])); (try simp (maxSteps := 9999999) (disch := omega) only [go_sem, k9]); (try refine cnd ?_); (try (exfalso; omega; done)))))); (all_goals (try clear k9)))
  (apply Ret.det [0, 1]; (focus (first | exact .inl rfl | exact .inr rfl)); (focus (simp (maxSteps := 9999999) (disch := omega) only [go_sem]; rfl)); (simp (maxSteps := 9999999) (disch := omega) only [go_sem]; (try (repeat' (first | done | trivial | rfl | exact leAs_rfl _ | decide | (refine And.intro ?_ ?_) | (simp; done) | omega | (simp; decide))))))
theorem on_any (d : Dk) : ACall Try.prog 36 [.ptr 0 0] [.cells true [Bo d.off, .any, .any, .any]] (Det (Bo (!d.off)) [.cells true [Bo d.off, .any, .any, .any]]) := by
  refine ACall.startA c36_ok Try.func36 rfl Try.ntmps36 (by kernel_rfl) res36_ok rfl rfl rfl ?_; simp (maxSteps := 9999999) (disch := omega) only [go_sem]
  (have k9 := k0; (repeat' (first | refine AWpA.seq ?_ | refine AWpA.block ?_ | (with_reducible refine CondP.tt ?_) | (with_reducible refine CondP.ff ?_) | refine AWpA.cg ?_ | ((first | refine AWpA.rg ?_ | refine AWpA.dg [] [] follows ?_ | refine TailK.tg ?_ | refine AWpA.skip ?_ | refine AWpA.exit ?_ | refine AWpA.ret ?_ | (with_reducible refine ARoundsA.succ ?_) | ((first | refine Runs.gkt (fun h9 => ?_) | refine Runs.gkf (fun h9 => ?_) | refine Runs.gnt (fun h9 => ?_) | refine Runs.gnf (fun h9 => ?_) | refine CondP.gt (fun h9 => ?_) | refine CondP.gf (fun h9 => ?_) | refine CondP.gnt (fun h9 => ?_) | refine CondP.gnf (fun h9 => ?_)); (try simp only [h9]); clear h9)); (try simp (maxSteps := 9999999) (disch := omega) only [go_sem, k9]); (try refine cnd ?_)) | ((first | refine CondP.split (fun hif => ?_) (fun hif => ?_) | refine Runs.part (fun hif => ?_) (fun hif => ?_)) <;> ((try simp only [hif]); (try simp only [BL] at hif); (try (have h9 : _ = true := hif; simp only [h9])); (try (have h9 : _ = false := hif; simp only [h9])); (try simp (maxSteps := 9999999) (disch := omega) only [go_sem, k9]); (try refine cnd ?_); (try (exfalso; omega; done)))))); (all_goals (try clear k9)))
  (apply Ret.det [0]; (focus (first | exact .inl rfl | exact .inr rfl)); (focus (simp (maxSteps := 9999999) (disch := omega) only [go_sem]; rfl)); (simp (maxSteps := 9999999) (disch := omega) only [go_sem]; (try (repeat' (first | done | trivial | rfl | exact leAs_rfl _ | decide | (refine And.intro ?_ ?_) | (simp; done) | omega | (simp; decide))))))
theorem dlen_any (d : Dk) : ACall Try.prog 37 [.ptr 0 0] [.cells true [.any, .any, .sl 1 0 d.l.length 1 none, .any], .cells true (bA d.l)] (Det (I d.l.length) [.cells true [.any, .any, .sl 1 0 d.l.length 1 none, .any], .cells true (bA d.l)]) := by
  refine ACall.startA c37_ok Try.func37 rfl Try.ntmps37 (by kernel_rfl) res37_ok rfl rfl rfl ?_; simp (maxSteps := 9999999) (disch := omega) only [go_sem]
  (have k9 := k0; (repeat' (first | refine AWpA.seq ?_ | refine AWpA.block ?_ | (with_reducible refine CondP.tt ?_) | (with_reducible refine CondP.ff ?_) | refine AWpA.cg ?_ | ((first | refine AWpA.rg ?_ | refine AWpA.dg [] [] follows ?_ | refine TailK.tg ?_ | refine AWpA.skip ?_ | refine AWpA.exit ?_ | refine AWpA.ret ?_ | (with_reducible refine ARoundsA.succ ?_) | ((first | refine Runs.gkt (fun h9 => ?_) | refine Runs.gkf (fun h9 => ?_) | refine Runs.gnt (fun h9 => ?_) | refine Runs.gnf (fun h9 => ?_) | refine CondP.gt (fun h9 => ?_) | refine CondP.gf (fun h9 => ?_) | refine CondP.gnt (fun h9 => ?_) | refine CondP.gnf (fun h9 => ?_)); (try simp only [h9]); clear h9)); (try simp (maxSteps := 9999999) (disch := omega) only [go_sem, k9]); (try refine cnd ?_)) | ((first | refine CondP.split (fun hif => ?_) (fun hif => ?_) | refine Runs.part (fun hif => ?_) (fun hif => ?_)) <;> ((try simp only [hif]); (try simp only [BL] at hif); (try (have h9 : _ = true := hif; simp only [h9])); (try (have h9 : _ = false := hif; simp only [h9])); (try simp (maxSteps := 9999999) (disch := omega) only [go_sem, k9]); (try refine cnd ?_); (try (exfalso; omega; done)))))); (all_goals (try clear k9)))
  (apply Ret.det [0, 1]; (focus (first | exact .inl rfl | exact .inr rfl)); (focus (simp (maxSteps := 9999999) (disch := omega) only [go_sem]; rfl)); (simp (maxSteps := 9999999) (disch := omega) only [go_sem]; (try (repeat' (first | done | trivial | rfl | exact leAs_rfl _ | decide | (refine And.intro ?_ ?_) | (simp; done) | omega | (simp; decide))))))
theorem dsafe_any (d : Dk) : ACall Try.prog 41 [.ptr 0 0] [.cells true [.any, .any, .any, I (d.s : Int)]] (Det (I (d.s : Int)) [.cells true [.any, .any, .any, I (d.s : Int)]]) := by
  refine ACall.startA c41_ok Try.func41 rfl Try.ntmps41 (by kernel_rfl) res41_ok rfl rfl rfl ?_; simp (maxSteps := 9999999) (disch := omega) only [go_sem]
  (have k9 := k0; (repeat' (first | refine AWpA.seq ?_ | refine AWpA.block ?_ | (with_reducible refine CondP.tt ?_) | (with_reducible refine CondP.ff ?_) | refine AWpA.cg ?_ | ((first | refine AWpA.rg ?_ | refine AWpA.dg [] [] follows ?_ | refine TailK.tg ?_ | refine AWpA.skip ?_ | refine AWpA.exit ?_ | refine AWpA.ret ?_ | (with_reducible refine ARoundsA.succ ?_) | ((first | refine Runs.gkt (fun h9 => ?_) | refine Runs.gkf (fun h9 => ?_) | refine Runs.gnt (fun h9 => ?_) | refine Runs.gnf (fun h9 => ?_) | refine CondP.gt (fun h9 => ?_) | refine CondP.gf (fun h9 => ?_) | refine CondP.gnt (fun h9 => ?_) | refine CondP.gnf (fun h9 => ?_)); (try simp only [h9]); clear h9)); (try simp (maxSteps := 9999999) (disch := omega) only [go_sem, k9]); (try refine cnd ?_)) | ((first | refine CondP.split (fun hif => ?_) (fun hif => ?_) | refine Runs.part (fun hif => ?_) (fun hif => ?_)) <;> ((try simp only [hif]); (try simp only [BL] at hif); (try (have h9 : _ = true := hif; simp only [h9])); (try (have h9 : _ = false := hif; simp only [h9])); (try simp (maxSteps := 9999999) (disch := omega) only [go_sem, k9]); (try refine cnd ?_); (try (exfalso; omega; done)))))); (all_goals (try clear k9)))
  (apply Ret.det [0]; (focus (first | exact .inl rfl | exact .inr rfl)); (focus (simp (maxSteps := 9999999) (disch := omega) only [go_sem]; rfl)); (simp (maxSteps := 9999999) (disch := omega) only [go_sem]; (try (repeat' (first | done | trivial | rfl | exact leAs_rfl _ | decide | (refine And.intro ?_ ?_) | (simp; done) | omega | (simp; decide))))))
theorem app1_any (d : Dk) (hok : d.ok) {P : List AV} {o : Nat} {b : List Int} (s : Seg P o b) : ACall Try.prog 63 [.ptr 0 0, .ptr 1 0] [.cells true [.ptr 2 0], .cells true [.sl 4 o b.length 1 none], DkO 3 d, .cells false (bA d.l), .cells true P] (Det (.tup []) [.cells true [.ptr 2 0], .cells true [.sl 4 o b.length 1 none], DkO 5 (appF b d), .gone, .cells true P, .cells false (bA (d.l ++ b))]) := by
  have h1 := hok.l
  have h2 := s.small
  have h3 := s.le
  refine ACall.startA c63_ok Try.func63 rfl Try.ntmps63 (by kernel_rfl) res63_ok rfl rfl rfl ?_; simp (maxSteps := 9999999) (disch := omega) only [go_sem]
  (have k9 := And.intro @s.ren (And.intro @s.seg (And.intro @s.noAny (k0))); (repeat' (first | refine AWpA.seq ?_ | refine AWpA.block ?_ | (with_reducible refine CondP.tt ?_) | (with_reducible refine CondP.ff ?_) | refine AWpA.cg ?_ | ((first | refine AWpA.rg ?_ | refine AWpA.dg [2, 3] [] follows ?_ | refine TailK.tg ?_ | refine AWpA.skip ?_ | refine AWpA.exit ?_ | refine AWpA.ret ?_ | (with_reducible refine ARoundsA.succ ?_) | ((first | refine Runs.gkt (fun h9 => ?_) | refine Runs.gkf (fun h9 => ?_) | refine Runs.gnt (fun h9 => ?_) | refine Runs.gnf (fun h9 => ?_) | refine CondP.gt (fun h9 => ?_) | refine CondP.gf (fun h9 => ?_) | refine CondP.gnt (fun h9 => ?_) | refine CondP.gnf (fun h9 => ?_)); (try simp only [h9]); clear h9)); (try simp (maxSteps := 9999999) (disch := omega) only [go_sem, k9]); (try refine cnd ?_)) | ((first | refine CondP.split (fun hif => ?_) (fun hif => ?_) | refine Runs.part (fun hif => ?_) (fun hif => ?_)) <;> ((try simp only [hif]); (try simp only [BL] at hif); (try (have h9 : _ = true := hif; simp only [h9])); (try (have h9 : _ = false := hif; simp only [h9])); (try simp (maxSteps := 9999999) (disch := omega) only [go_sem, k9]); (try refine cnd ?_); (try (exfalso; omega; done)))))); (all_goals (try clear k9)))
  (apply Ret.det [0, 1, 2, 3, 4, _]; (focus (first | exact .inl rfl | exact .inr rfl)); (focus (simp (maxSteps := 9999999) (disch := omega) only [go_sem, s.ren, appF]; rfl)); (simp (maxSteps := 9999999) (disch := omega) only [go_sem, s.ren, appF]; (try (repeat' (first | done | trivial | rfl | exact leAs_rfl _ | decide | (refine And.intro ?_ ?_) | (simp; done) | omega | (simp; decide))))))
theorem do_app (d : Dk) (hok : d.ok) (w : Int) {P : List AV} {o : Nat} {b : List Int} (s : Seg P o b) : ACall Try.prog 61 [.ptr 2 0, I w, .fn 63 [] [.ptr 0 0, .ptr 1 0]] [.cells true [.ptr 2 0], .cells true [.sl 4 o b.length 1 none], DkO 3 d, .cells false (bA d.l), .cells true P] (Det (I (doE d w)) [.cells true [.ptr 2 0], .cells true [.sl 4 o b.length 1 none], DkO 5 (doD d w (appF b)), .gone, .cells true P, .cells false (bA (doD d w (appF b)).l)]) := by
  rcases doD_cases d w (appF b) with ⟨h1, h2, h3⟩ | ⟨h1, h2, h3, h4⟩ | ⟨h1, h2, h3, h4, h5⟩ | ⟨h1, h2, h3, h4, h5⟩
  · rw [h2, h3]
    refine ACall.startA c61_ok Try.func61 rfl Try.ntmps61 (by kernel_rfl) res61_ok rfl rfl rfl ?_; simp (maxSteps := 9999999) (disch := omega) only [go_sem]
    (have k9 := And.intro @s.ren (And.intro @h1 (k0)); (repeat' (first | refine AWpA.seq ?_ | refine AWpA.block ?_ | (with_reducible refine CondP.tt ?_) | (with_reducible refine CondP.ff ?_) | refine AWpA.cg ?_ | ((first | refine AWpA.rg ?_ | refine AWpA.dg [] [] follows ?_ | refine TailK.tg ?_ | refine AWpA.skip ?_ | refine AWpA.exit ?_ | refine AWpA.ret ?_ | (with_reducible refine ARoundsA.succ ?_) | ((first | refine Runs.gkt (fun h9 => ?_) | refine Runs.gkf (fun h9 => ?_) | refine Runs.gnt (fun h9 => ?_) | refine Runs.gnf (fun h9 => ?_) | refine CondP.gt (fun h9 => ?_) | refine CondP.gf (fun h9 => ?_) | refine CondP.gnt (fun h9 => ?_) | refine CondP.gnf (fun h9 => ?_)); (try simp only [h9]); clear h9)); (try simp (maxSteps := 9999999) (disch := omega) only [go_sem, k9]); (try refine cnd ?_)) | ((first | refine CondP.split (fun hif => ?_) (fun hif => ?_) | refine Runs.part (fun hif => ?_) (fun hif => ?_)) <;> ((try simp only [hif]); (try simp only [BL] at hif); (try (have h9 : _ = true := hif; simp only [h9])); (try (have h9 : _ = false := hif; simp only [h9])); (try simp (maxSteps := 9999999) (disch := omega) only [go_sem, k9]); (try refine cnd ?_); (try (exfalso; omega; done)))))); (all_goals (try clear k9)))
    (apply Ret.det [0, 1, 2, 3, 4, 3]; (focus (first | exact .inl rfl | exact .inr rfl)); (focus (simp (maxSteps := 9999999) (disch := omega) only [go_sem, s.ren, h1]; rfl)); (simp (maxSteps := 9999999) (disch := omega) only [go_sem, s.ren, h1]; (try (repeat' (first | done | trivial | rfl | exact leAs_rfl _ | decide | (refine And.intro ?_ ?_) | (simp; done) | omega | (simp; decide))))))
  · rw [h3, h4]
    refine ACall.startA c61_ok Try.func61 rfl Try.ntmps61 (by kernel_rfl) res61_ok rfl rfl rfl ?_; simp (maxSteps := 9999999) (disch := omega) only [go_sem]
    (have k9 := And.intro @s.ren (And.intro @h1 (And.intro (eq_false h2) (k0))); (repeat' (first | refine AWpA.seq ?_ | refine AWpA.block ?_ | (with_reducible refine CondP.tt ?_) | (with_reducible refine CondP.ff ?_) | refine AWpA.cg ?_ | ((first | refine AWpA.rg ?_ | refine AWpA.dg [] [] follows ?_ | refine TailK.tg ?_ | refine AWpA.skip ?_ | refine AWpA.exit ?_ | refine AWpA.ret ?_ | (with_reducible refine ARoundsA.succ ?_) | ((first | refine Runs.gkt (fun h9 => ?_) | refine Runs.gkf (fun h9 => ?_) | refine Runs.gnt (fun h9 => ?_) | refine Runs.gnf (fun h9 => ?_) | refine CondP.gt (fun h9 => ?_) | refine CondP.gf (fun h9 => ?_) | refine CondP.gnt (fun h9 => ?_) | refine CondP.gnf (fun h9 => ?_)); (try simp only [h9]); clear h9)); (try simp (maxSteps := 9999999) (disch := omega) only [go_sem, k9]); (try refine cnd ?_)) | ((first | refine CondP.split (fun hif => ?_) (fun hif => ?_) | refine Runs.part (fun hif => ?_) (fun hif => ?_)) <;> ((try simp only [hif]); (try simp only [BL] at hif); (try (have h9 : _ = true := hif; simp only [h9])); (try (have h9 : _ = false := hif; simp only [h9])); (try simp (maxSteps := 9999999) (disch := omega) only [go_sem, k9]); (try refine cnd ?_); (try (exfalso; omega; done)))))); (all_goals (try clear k9)))
    all_goals (first | (exfalso; omega) | skip)
    all_goals (apply Ret.det [0, 1, 2, 3, 4, 3]; (focus (first | exact .inl rfl | exact .inr rfl)); (focus (simp (maxSteps := 9999999) (disch := omega) only [go_sem, s.ren, h1]; rfl)); (simp (maxSteps := 9999999) (disch := omega) only [go_sem, s.ren, h1]; (try (repeat' (first | done | trivial | rfl | exact leAs_rfl _ | decide | (refine And.intro ?_ ?_) | (simp; done) | omega | (simp; decide))))))
  · rw [h4, h5]
    refine ACall.startA c61_ok Try.func61 rfl Try.ntmps61 (by kernel_rfl) res61_ok rfl rfl rfl ?_; simp (maxSteps := 9999999) (disch := omega) only [go_sem]
    (have k9 := And.intro @s.ren (And.intro @h1 (And.intro @h2 (k0))); (repeat' (first | refine AWpA.seq ?_ | refine AWpA.block ?_ | (with_reducible refine CondP.tt ?_) | (with_reducible refine CondP.ff ?_) | refine AWpA.cg ?_ | ((first | refine AWpA.rg ?_ | refine AWpA.dg [] [] follows ?_ | refine TailK.tg ?_ | refine AWpA.skip ?_ | refine AWpA.exit ?_ | refine AWpA.ret ?_ | (with_reducible refine ARoundsA.succ ?_) | ((first | refine Runs.gkt (fun h9 => ?_) | refine Runs.gkf (fun h9 => ?_) | refine Runs.gnt (fun h9 => ?_) | refine Runs.gnf (fun h9 => ?_) | refine CondP.gt (fun h9 => ?_) | refine CondP.gf (fun h9 => ?_) | refine CondP.gnt (fun h9 => ?_) | refine CondP.gnf (fun h9 => ?_)); (try simp only [h9]); clear h9) | refine CallG.pg [2, 3] (use_no d h3) ?_ | refine CallG.dg [2, 3] (use_no d h3) ?_); (try simp (maxSteps := 9999999) (disch := omega) only [go_sem, k9]); (try refine cnd ?_)) | ((first | refine CondP.split (fun hif => ?_) (fun hif => ?_) | refine Runs.part (fun hif => ?_) (fun hif => ?_)) <;> ((try simp only [hif]); (try simp only [BL] at hif); (try (have h9 : _ = true := hif; simp only [h9])); (try (have h9 : _ = false := hif; simp only [h9])); (try simp (maxSteps := 9999999) (disch := omega) only [go_sem, k9]); (try refine cnd ?_); (try (exfalso; omega; done)))))); (all_goals (try clear k9)))
    (apply Ret.det [0, 1, 2, 3, 4, 3]; (focus (first | exact .inl rfl | exact .inr rfl)); (focus (simp (maxSteps := 9999999) (disch := omega) only [go_sem, s.ren]; rfl)); (simp (maxSteps := 9999999) (disch := omega) only [go_sem, s.ren]; (try (repeat' (first | done | trivial | rfl | exact leAs_rfl _ | decide | (refine And.intro ?_ ?_) | (simp; done) | omega | (simp; decide))))))
  · rw [h4, h5]
    have hu := use_yes d hok h3
    have hk : (⟨d.l, d.s, d.off, leftU d.left⟩ : Dk).ok := ⟨hok.s, hok.l, (leftU_ok hok.lo hok.hi).1, (leftU_ok hok.lo hok.hi).2⟩
    have ha := app1_any ⟨d.l, d.s, d.off, leftU d.left⟩ hk s
    refine ACall.startA c61_ok Try.func61 rfl Try.ntmps61 (by kernel_rfl) res61_ok rfl rfl rfl ?_; simp (maxSteps := 9999999) (disch := omega) only [go_sem]
    (have k9 := And.intro @s.ren (And.intro @h1 (And.intro @h2 (k0))); (repeat' (first | refine AWpA.seq ?_ | refine AWpA.block ?_ | (with_reducible refine CondP.tt ?_) | (with_reducible refine CondP.ff ?_) | refine AWpA.cg ?_ | ((first | refine AWpA.rg ?_ | refine AWpA.dg [] [] follows ?_ | refine TailK.tg ?_ | refine AWpA.skip ?_ | refine AWpA.exit ?_ | refine AWpA.ret ?_ | (with_reducible refine ARoundsA.succ ?_) | ((first | refine Runs.gkt (fun h9 => ?_) | refine Runs.gkf (fun h9 => ?_) | refine Runs.gnt (fun h9 => ?_) | refine Runs.gnf (fun h9 => ?_) | refine CondP.gt (fun h9 => ?_) | refine CondP.gf (fun h9 => ?_) | refine CondP.gnt (fun h9 => ?_) | refine CondP.gnf (fun h9 => ?_)); (try simp only [h9]); clear h9) | refine CallG.pg [2, 3] (hu) ?_ | refine CallG.pg [0, 1, 2, 3, 4] (ha) ?_ | refine CallG.dg [2, 3] (hu) ?_ | refine CallG.dg [0, 1, 2, 3, 4] (ha) ?_); (try simp (maxSteps := 9999999) (disch := omega) only [go_sem, k9]); (try refine cnd ?_)) | ((first | refine CondP.split (fun hif => ?_) (fun hif => ?_) | refine Runs.part (fun hif => ?_) (fun hif => ?_)) <;> ((try simp only [hif]); (try simp only [BL] at hif); (try (have h9 : _ = true := hif; simp only [h9])); (try (have h9 : _ = false := hif; simp only [h9])); (try simp (maxSteps := 9999999) (disch := omega) only [go_sem, k9]); (try refine cnd ?_); (try (exfalso; omega; done)))))); (all_goals (try clear k9)))
    (apply Ret.det [0, 1, 2, 3, 4, _]; (focus (first | exact .inl rfl | exact .inr rfl)); (focus (simp (maxSteps := 9999999) (disch := omega) only [go_sem, s.ren, appF, h1]; rfl)); (simp (maxSteps := 9999999) (disch := omega) only [go_sem, s.ren, appF, h1]; (try (repeat' (first | done | trivial | rfl | exact leAs_rfl _ | decide | (refine And.intro ?_ ?_) | (simp; done) | omega | (simp; decide))))))
end Go.Proofs.Ythbpdmlbfnjoiaa
