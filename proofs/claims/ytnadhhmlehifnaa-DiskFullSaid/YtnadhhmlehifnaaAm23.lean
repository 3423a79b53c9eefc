/- Own theory, no program in sight: an object of which less is told. -/
import Derived.Test.YtnadhhmlehifnaaAm22
namespace Go.Am
set_option linter.unusedSimpArgs false
set_option linter.unusedVariables false
set_option maxHeartbeats 4000000
open Go Go.RowKit
set_option linter.unusedVariables false
set_option linter.unusedSimpArgs false
theorem OR.trunc {B : BM} {ro : Bool} {l : List AV} {p : Option (Nat × Nat)} {w : World} (m : Nat) (h : OR B (.cells ro l) p w) : OR B (.cells ro (l.take m)) p w := by
  rcases h with ⟨h, k⟩ | ⟨b, n, arr, T, fz, h1, h2, h3, h4, h5, h6⟩
  · exact .inl ⟨by simp [h], k⟩
  · have e : arr.toList.take (l.take m).length = (arr.toList.take l.length).take m := by
      rw [List.take_take, List.length_take]
    refine .inr ⟨b, n, arr, T, fz, h1, h2, h3, ?_, ?_, h6⟩
    · rw [e]; exact h4.take m
    · rw [e]
      intro i a x ha hx
      rw [List.getElem?_take] at ha hx
      split at ha
      · rename_i hi; rw [if_pos hi] at hx; exact h5 i a x ha hx
      · cases ha
/-- The cells behind are forgotten. -/
theorem AWp.trunc {P : Program} {N : Nat} {nn : NN} {Q : Exit → St → Prop} {c : Code} {T : List (Nat × AV)} {b : Nat → AV} {H : List (Nat × AObj)} {hb : Nat → AObj} {n : Nat} (i m : Nat) {ro : Bool} {l : List AV} (hi : fH H hb i = .cells ro l)
    (h : AWp P N nn c Q (mk T b ((i, .cells ro (l.take m)) :: H) hb n)) : AWp P N nn c Q (mk T b H hb n) := by
  intro C B a w hn hs
  obtain ⟨⟨h1, h2, h3, h4, h5, h6, h7⟩, h8, h9⟩ := hs
  have hne : ∀ k, k ≠ i → fH ((i, .cells ro (l.take m)) :: H) hb k = fH H hb k := fun k hk => by
    have e : Nat.beq i k = false := by
      cases e : Nat.beq i k with
      | false => rfl
      | true => exact absurd (Nat.eq_of_beq_eq_true e).symm hk
    simp only [fH, e]
  have heq : fH ((i, .cells ro (l.take m)) :: H) hb i = .cells ro (l.take m) := by simp only [fH, Nat.beq_refl]
  have hown : ∀ k, (fH ((i, .cells ro (l.take m)) :: H) hb k).own = (fH H hb k).own := fun k => by
    by_cases hk : k = i
    · subst hk; rw [heq, hi]; rfl
    · rw [hne k hk]
  have hlive : ∀ k, (fH ((i, .cells ro (l.take m)) :: H) hb k).live = (fH H hb k).live := fun k => by
    by_cases hk : k = i
    · subst hk; rw [heq, hi]; rfl
    · rw [hne k hk]
  refine h C B a w hn ⟨⟨h1, h2, h3, ⟨fun k => ?_, fun x y b1 n1 m1 hxy ho hl hb1 => ?_⟩, fun k b1 n1 ho hb1 => ?_, h6, h7⟩, h8, h9⟩
  · have hk := h4.obj k
    simp only [Am.mk] at hk ⊢
    by_cases hki : k = i
    · subst hki; rw [heq]; rw [hi] at hk; exact hk.trunc m
    · rw [hne k hki]; exact hk
  · simp only [Am.mk] at ho hl
    rw [hown] at ho
    rw [hlive] at hl
    exact h4.apart x y b1 n1 m1 hxy ho hl hb1
  · simp only [Am.mk] at ho
    rw [hown] at ho
    exact h5 k b1 n1 ho hb1
attribute [local semireducible] AWpA in
theorem AWpA.trunc {P : Program} {N : Nat} {nn : NN} {Q : Exit → St → Prop} {ac : ACode} {T : List (Nat × AV)} {b : Nat → AV} {H : List (Nat × AObj)} {hb : Nat → AObj} {n : Nat} (i m : Nat) {ro : Bool} {l : List AV} (hi : fH H hb i = .cells ro l)
    (h : AWpA P N nn ac Q (mk T b ((i, .cells ro (l.take m)) :: H) hb n)) : AWpA P N nn ac Q (mk T b H hb n) :=
  fun c hc => AWp.trunc i m hi (h c hc)
end Go.Am
