/- Rows of bytes that nobody writes any more, and lists of them. -/
import Derived.Test.YthbpdmlbfnjoiaaAb
namespace Go.Am
set_option linter.unusedSimpArgs false
set_option linter.unusedVariables false
set_option maxHeartbeats 4000000
open Go Go.RowKit
/-- A row of bytes, told by what it holds. -/
abbrev fzB (l : List Int) : AV := .fz 1 l.length (bA l)
theorem fzB_nil : fzB [] = .fz 1 0 [] := rfl
theorem fzB_ren (ρ : List Nat) (l : List Int) : ren ρ (fzB l) = fzB l := by simp only [ren, bA_ren]
def rowsB (ls : List (List Int)) : List AV := ls.map fzB
theorem rowsB_nil : rowsB [] = [] := rfl
theorem rowsB_len (ls : List (List Int)) : (rowsB ls).length = ls.length := by simp [rowsB]
theorem rowsB_ren (ρ : List Nat) (ls : List (List Int)) : renL ρ (rowsB ls) = rowsB ls := renL_map ρ fzB (fun _ => fzB_ren ρ _) ls
theorem rowsB_noAny (ls : List (List Int)) : noAny (rowsB ls) = True := by
  refine eq_true fun x hx => ?_
  obtain ⟨r, _, rfl⟩ := List.mem_map.1 hx
  simp
theorem rowsB_app (l m : List (List Int)) : rowsB l ++ rowsB m = rowsB (l ++ m) := by simp [rowsB]
theorem rowsB_snoc (l : List (List Int)) (r : List Int) (t : List AV) : rowsB l ++ (.fz 1 r.length (bA r) :: t) = rowsB (l ++ [r]) ++ t := by simp [rowsB]
theorem rowsB_take (l : List (List Int)) (n : Nat) : (rowsB l).take n = rowsB (l.take n) := by simp [rowsB]
theorem rowsB_drop (l : List (List Int)) (n : Nat) : (rowsB l).drop n = rowsB (l.drop n) := by simp [rowsB]
theorem rowsB_getD {l : List (List Int)} {i : Nat} (h : i < l.length) : (rowsB l).getD i .bad = fzB l[i] := by
  rw [List.getD_eq_getElem?_getD, rowsB, List.getElem?_map, List.getElem?_eq_getElem h]; rfl
/-- A segment of cells: these rows. -/
structure SegR (P : List AV) (o : Nat) (l : List (List Int)) : Prop where
  seg : (P.drop o).take l.length = rowsB l
  le : o + l.length ≤ P.length
  ren : ∀ ρ, renL ρ P = P
  small : l.length ≤ 9223372036854775807
theorem SegR.noAny {P : List AV} {o : Nat} {l : List (List Int)} (h : SegR P o l) : noAny ((P.drop o).take l.length) = True := by rw [h.seg]; exact rowsB_noAny l
theorem SegR.all (l : List (List Int)) (h : l.length ≤ 9223372036854775807) : SegR (rowsB l) 0 l := ⟨by rw [List.drop_zero, rowsB_take, List.take_length], by simp [rowsB_len], fun ρ => rowsB_ren ρ l, h⟩
theorem SegR.at {P : List AV} {o : Nat} {l : List (List Int)} (s : SegR P o l) (i : Nat) (h : i < l.length) : P.getD (o + i) .bad = fzB l[i] := by
  have h1 := congrArg (fun t => t.getD i AV.bad) s.seg
  rw [rowsB_getD h] at h1
  rw [← h1]
  simp only [List.getD_eq_getElem?_getD, List.getElem?_take, if_pos h, List.getElem?_drop]
theorem SegR.takeS {P : List AV} {o : Nat} {l : List (List Int)} (s : SegR P o l) (i : Nat) (h : i ≤ l.length) : SegR P o (l.take i) := by
  refine ⟨?_, by have := s.le; simp; omega, s.ren, by have := s.small; simp; omega⟩
  have h1 := congrArg (List.take i) s.seg
  rw [List.take_take, Nat.min_eq_left h, rowsB_take] at h1
  rw [List.length_take, Nat.min_eq_left h]
  exact h1
theorem SegR.rows {β : Type} {f : β → List AV} {g : β → List Int} {off : Nat} {l : List β} (hf : ∀ x, f x = [fzB (g x)]) (h : l.length ≤ 9223372036854775807) : SegR (rowsC off f l) off (l.map g) := by
  have e : rowsC off f l = List.replicate off .any ++ rowsB (l.map g) := by
    unfold rowsC rowsB
    congr 1
    induction l with
    | nil => rfl
    | cons x l ih => rw [List.flatMap_cons, hf, ih (by simp at h; omega)]; rfl
  rw [e]
  refine ⟨by simp [rowsB_take, rowsB_len, List.take_of_length_le], by simp [rowsB_len], fun ρ => ?_, by simpa using h⟩
  rw [renL_append, renL_any, rowsB_ren]
theorem SegR.zz (off : Nat) {l : List (List Int)} (h : l.length ≤ 9223372036854775807) : SegR (List.replicate off .any ++ rowsB l) off l := by
  refine ⟨by simp [rowsB_take, rowsB_len, List.take_of_length_le], by simp [rowsB_len], fun ρ => ?_, h⟩
  rw [renL_append, renL_any, rowsB_ren]
theorem Seg.zz (off : Nat) {l : List Int} (h : l.length ≤ 1099511627776) : Seg (List.replicate off .any ++ bA l) off l := by
  have := Seg.rows (off := off) h
  rwa [rows_bA] at this
attribute [go_sem] rowsB_len rowsB_ren rowsB_noAny rowsB_app rowsB_snoc rowsB_take rowsB_drop
/-- What came in, as a row. -/
theorem frz_bytes {W : World} {s : Sl Int} (h : Fz W s.ad s.l.length s.cap 1 s.off (s.l.flatMap fun n : Int => [Value.int .u8 n])) : frzLe W (.val (.slice s.ad s.l.length s.cap)) (fzB s.l) := by
  have e : (s.l.flatMap fun n : Int => [Value.int .u8 n]).map AV.val = bA s.l := by
    rw [List.map_flatMap]
    unfold bA
    induction s.l with
    | nil => rfl
    | cons x l ih => rw [List.flatMap_cons, ih]; rfl
  have := frz_val h
  rwa [e] at this
theorem frz_rows {W : World} {off : Nat} {l : List (Sl Int)} (h : ∀ s ∈ l, Fz W s.ad s.l.length s.cap 1 s.off (s.l.flatMap fun n : Int => [Value.int .u8 n])) : frzLes W (rowsC off (fun s : Sl Int => [.val (.slice s.ad s.l.length s.cap)]) l) (rowsC off (fun s : Sl Int => [fzB s.l]) l) :=
  frzLes_rows fun x hx => by
    simp only [frzLes]
    exact ⟨⟨frz_bytes (h x hx), fun e => by cases e⟩, trivial⟩
theorem rotL13 : rotL 1 2 = [0, 1] := rfl
end Go.Am
