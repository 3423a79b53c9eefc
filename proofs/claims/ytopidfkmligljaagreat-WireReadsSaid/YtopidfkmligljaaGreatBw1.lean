/- Entries and updates as rows; maps by keys of any kind; first places. Plain laws. -/
import Derived.Test.YtopidfkmligljaaGreatAc0
import Derived.Test.YtopidfkmligljaaGreatEg4
import Derived.Test.YtopidfkmligljaaGreatAc6
/- Own theory, no program in sight: the order of texts. -/
namespace Go.Am
set_option linter.unusedSimpArgs false
set_option linter.unusedVariables false
set_option maxHeartbeats 4000000
open Go Go.RowKit
/-- One text is ahead of another one. -/
def ltK (a b : ByteArray) : Bool := Op.bytesLess a.toList b.toList
theorem ltK_def (a b : ByteArray) : Op.bytesLess a.toList b.toList = ltK a b := rfl
attribute [irreducible] ltK
end Go.Am
namespace Go.Proofs.YtopidfkmligljaaGreat
open Go Go.Am Go.RowKit
set_option maxRecDepth 100000
set_option linter.unusedSimpArgs false
attribute [go_sem] ltK_def
end Go.Proofs.YtopidfkmligljaaGreat
namespace Go.Proofs.YtopidfkmligljaaGreat
set_option linter.unusedSimpArgs false
set_option linter.unusedVariables false
set_option maxHeartbeats 4000000
open Go Go.Am Go.RowKit
set_option maxRecDepth 100000
theorem ba_dec (a b : ByteArray) : (a == b) = decide (a = b) := by
  by_cases h : a = b
  · rw [decide_eq_true h]; exact (ba_iff a b).2 h
  · rw [decide_eq_false h]
    cases e : (a == b) with
    | false => rfl
    | true => exact absurd ((ba_iff a b).1 e) h
/-- The same entry? -/
abbrev eqE (a b : En) : Bool := a.key == b.key && (a.val == b.val && (a.dead == b.dead && (a.st.c == b.st.c && (a.st.s == b.st.s && (a.act.c == b.act.c && (a.act.s == b.act.s && (a.keep == b.keep && a.age == b.age)))))))
theorem eqE_iff (a b : En) : eqE a b = true ↔ a = b := by
  obtain ⟨a1, a2, a3, ⟨a4, a5⟩, ⟨a6, a7⟩, a8, a9⟩ := a
  obtain ⟨b1, b2, b3, ⟨b4, b5⟩, ⟨b6, b7⟩, b8, b9⟩ := b
  simp only [eqE, Bool.and_eq_true, beq_iff_eq, En.mk.injEq, St.mk.injEq, ba_iff, and_assoc]
instance : DecidableEq En := fun a b => decidable_of_iff _ (eqE_iff a b)
theorem eqE_dec (a b : En) : eqE a b = decide (a = b) := by
  by_cases h : a = b
  · rw [decide_eq_true h, eqE_iff]; exact h
  · rw [decide_eq_false h]
    cases e : eqE a b with
    | false => rfl
    | true => exact absurd ((eqE_iff a b).1 e) h
abbrev Re (off : Nat) (l : List En) : List AV := rowsC off EnL l
theorem re_ren (off : Nat) (l : List En) (ρ : List Nat) : renL ρ (Re off l) = Re off l := rowsC_ren (fun ρ x => by simp [renL, ren]) ρ l
theorem re_len (off : Nat) (l : List En) : (Re off l).length = off + l.length * 9 := rowsC_len (f := EnL) (k := 9) (fun _ => rfl) l
theorem re_at (off : Nat) (l : List En) (i : Nat) (h : i < l.length) : ((Re off l).drop (off + i * 9)).take 9 = EnL l[i] := rowsC_at (f := EnL) (k := 9) (fun _ => rfl) l i h
theorem re_nil : Re 0 [] = [] := rfl
theorem re_one (m : En) : Re 0 [m] = EnL m := rfl
theorem re_app (l m : List En) : Re 0 (l ++ m) = Re 0 l ++ Re 0 m := by simp [Re, rowsC]
theorem re_all (l : List En) {n : Nat} (h : n = l.length * 9) : (Re 0 l).take n = Re 0 l := List.take_of_length_le (by rw [re_len]; omega)
theorem re_put (l : List En) (i : Nat) (h : i < l.length) : Re 0 (l.take (i + 1)) = Re 0 (l.take i) ++ EnL l[i] := by
  rw [List.take_add_one, List.getElem?_eq_getElem h, Option.toList, re_app, re_one]
/-- A cell of a row. -/
theorem cell_at {l : List AV} {a k q : Nat} {x : List AV} (h : (l.drop a).take k = x) (hq : q < k) : l.getD (a + q) AV.bad = x.getD q AV.bad := by
  rw [List.getD_eq_getElem?_getD, List.getD_eq_getElem?_getD, ← h, List.getElem?_take, if_pos hq, List.getElem?_drop]
/-! ### Maps -/
section
variable {κ : Type} [DecidableEq κ]
end
/-! ### First places -/
def idxI {α : Type} (l : List α) (p : α → Bool) : Int := if l.findIdx p < l.length then (l.findIdx p : Int) else -1
theorem idxI_at {α : Type} {l : List α} {p : α → Bool} {i : Nat} (hi : i < l.length) (hq : ∀ q (h : q < l.length), q < i → p l[q] = false) (he : p l[i] = true) : idxI l p = i := by
  have : l.findIdx p = i := (List.findIdx_eq hi).2 ⟨he, fun j hj => hq j (by omega) hj⟩
  unfold idxI
  rw [this, if_pos hi]
theorem idxI_no {α : Type} {l : List α} {p : α → Bool} (h : ∀ q (h : q < l.length), p l[q] = false) : idxI l p = -1 := by
  have : l.findIdx p = l.length := List.findIdx_eq_length.2 fun x hx => by
    obtain ⟨q, hq, rfl⟩ := List.getElem_of_mem hx
    exact h q hq
  unfold idxI
  rw [this, if_neg (by omega)]
theorem idxI_cases {α : Type} (l : List α) (p : α → Bool) : (idxI l p = -1 ∧ ∀ x ∈ l, p x = false) ∨ ∃ i, ∃ h : i < l.length, idxI l p = i ∧ p l[i] = true := by
  unfold idxI
  by_cases h : l.findIdx p < l.length
  · rw [if_pos h]; exact .inr ⟨_, h, rfl, List.findIdx_getElem⟩
  · rw [if_neg h]
    refine .inl ⟨rfl, List.findIdx_eq_length.1 ?_⟩
    have := List.findIdx_le_length (xs := l) (p := p)
    omega
end Go.Proofs.YtopidfkmligljaaGreat
