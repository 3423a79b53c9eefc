/- Bytes. -/
import Derived.Test.YtopidfkmligljaaGreatAc0
namespace Go.Am
set_option linter.unusedSimpArgs false
set_option linter.unusedVariables false
set_option maxHeartbeats 4000000
open Go Go.RowKit
/-- Bytes in cells. -/
def bA (l : List Int) : List AV := l.map fun n => .val (.int .u8 n)
theorem bA_nil : bA [] = [] := rfl
theorem bA_cons (n : Int) (l : List Int) : bA (n :: l) = .val (.int .u8 n) :: bA l := rfl
theorem bA_len (l : List Int) : (bA l).length = l.length := by simp [bA]
theorem bA_ren (ρ : List Nat) (l : List Int) : renL ρ (bA l) = bA l := renL_map ρ (fun n => .val (.int .u8 n)) (fun _ => rfl) l
theorem bA_noAny (l : List Int) : noAny (bA l) = True := noAny_vals (fun n => .int .u8 n) l
theorem bA_app (l m : List Int) : bA l ++ bA m = bA (l ++ m) := by simp [bA]
theorem bA_snoc (l : List Int) (n : Int) (r : List AV) : bA l ++ (.val (.int .u8 n) :: r) = bA (l ++ [n]) ++ r := by simp [bA]
theorem bA_take (l : List Int) (n : Nat) : (bA l).take n = bA (l.take n) := by simp [bA]
theorem bA_drop (l : List Int) (n : Nat) : (bA l).drop n = bA (l.drop n) := by simp [bA]
theorem ints8_bA : ∀ l : List Int, ints8 (bA l) = some l
  | [] => rfl
  | n :: l => by rw [bA_cons]; simp only [ints8, int8?, ints8_bA l]
theorem take_app2 {α : Type} (l m : List α) : (l ++ m).take (l.length + m.length) = l ++ m := by rw [← List.length_append, List.take_length]
theorem take_app3 {α : Type} (l m k : List α) : (l ++ m ++ k).take (l.length + m.length + k.length) = l ++ m ++ k := by rw [← List.length_append, ← List.length_append, List.take_length]
attribute [go_sem] take_app2 take_app3 List.take_left List.drop_left
attribute [go_sem] bA_len bA_ren bA_noAny bA_app bA_snoc bA_take bA_drop ints8_bA List.take_length List.length_append
/-- A segment of cells: these bytes. -/
structure Seg (P : List AV) (o : Nat) (l : List Int) : Prop where
  seg : (P.drop o).take l.length = bA l
  le : o + l.length ≤ P.length
  ren : ∀ ρ, renL ρ P = P
  small : l.length ≤ 1099511627776
theorem Seg.noAny {P : List AV} {o : Nat} {l : List Int} (h : Seg P o l) : noAny ((P.drop o).take l.length) = True := by rw [h.seg]; exact bA_noAny l
theorem Seg.all (l : List Int) (h : l.length ≤ 1099511627776) : Seg (bA l) 0 l := ⟨by simp [bA_take], by simp [bA_len], fun ρ => bA_ren ρ l, h⟩
end Go.Am
