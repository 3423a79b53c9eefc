/- Contracts: entries that are read. -/
import Derived.Test.YtkdikmfnchmphaaAo12
import Derived.Test.YtkdikmfnchmphaaAc10
namespace Go.Proofs.Ytkdikmfnchmphaa
set_option linter.unusedSimpArgs false
set_option linter.unusedVariables false
set_option maxHeartbeats 4000000
open Go Go.Am Go.RowKit Go.ChangeShapes Go.WideShapes Go.ChangeAt
set_option maxRecDepth 100000
theorem numV_lt {L : List Int} (hb : bytesB L) (w : Int) (c : Cu) : 0 ≤ numV L w c ∧ numV L w c < 256 ^ w.toNat := by
  unfold numV
  cases hw : wideB w with
  | false => exact ⟨Int.le_refl _, Int.pow_pos (by decide)⟩
  | true =>
    have h := valI_lt (l := rawV L w c) (rawL_bytes hb)
    have h8 := wideB_yes hw
    have hl : (rawV L w c).length ≤ w.toNat := by
      unfold rawV rawL
      cases rawOk c.e w (c.left L) <;> simp
      omega
    refine ⟨h.1, Int.lt_of_lt_of_le h.2 ?_⟩
    have h2 := Int.ofNat_le.2 (Nat.pow_le_pow_right (n := 256) (by decide) hl)
    simpa [Int.natCast_pow] using h2
def en1 (L : List Int) (c : Cu) : Cu := textC L 16 c
def en2 (L : List Int) (c : Cu) : Cu := flagC L (en1 L c)
def en3 (L : List Int) (c : Cu) : Cu := textC L 32 (en2 L c)
def en4 (L : List Int) (c : Cu) : Cu := numC L 4 (en3 L c)
def en5 (L : List Int) (c : Cu) : Cu := numC L 1 (en4 L c)
def en6 (L : List Int) (c : Cu) : Cu := numC L 4 (en5 L c)
def en7 (L : List Int) (c : Cu) : Cu := numC L 1 (en6 L c)
def en8 (L : List Int) (c : Cu) : Cu := numC L 2 (en7 L c)
def en9 (L : List Int) (c : Cu) : Cu := numC L 4 (en8 L c)
/-- The entry of what is read, before it is looked at. -/
def enE (L : List Int) (c : Cu) : En := ⟨textV L 16 c, textV L 32 (en2 L c), flagV L (en1 L c), ⟨numV L 4 (en3 L c), numV L 1 (en4 L c)⟩, ⟨numV L 4 (en5 L c), numV L 1 (en6 L c)⟩, numV L 2 (en7 L c), numV L 4 (en8 L c)⟩
def enC (L : List Int) (c : Cu) : Cu := ⟨(en9 L c).a, if checkI (enE L c) = 0 then (en9 L c).e else failI (en9 L c).e 4⟩
def enV (L : List Int) (c : Cu) : En := if (enC L c).e = 0 then enE L c else noEn
theorem en_le {L : List Int} {c : Cu} (hb : bytesB L) (h : c.a ≤ L.length) : (en1 L c).a ≤ L.length ∧ (en2 L c).a ≤ L.length ∧ (en3 L c).a ≤ L.length ∧ (en4 L c).a ≤ L.length ∧ (en5 L c).a ≤ L.length ∧ (en6 L c).a ≤ L.length ∧ (en7 L c).a ≤ L.length ∧ (en8 L c).a ≤ L.length ∧ (en9 L c).a ≤ L.length := by
  have h1 : (en1 L c).a ≤ L.length := textC_le hb h
  have h2 : (en2 L c).a ≤ L.length := flagC_le h1
  have h3 : (en3 L c).a ≤ L.length := textC_le hb h2
  have h4 : (en4 L c).a ≤ L.length := numC_le h3
  have h5 : (en5 L c).a ≤ L.length := numC_le h4
  have h6 : (en6 L c).a ≤ L.length := numC_le h5
  have h7 : (en7 L c).a ≤ L.length := numC_le h6
  have h8 : (en8 L c).a ≤ L.length := numC_le h7
  have h9 : (en9 L c).a ≤ L.length := numC_le h8
  exact ⟨h1, h2, h3, h4, h5, h6, h7, h8, h9⟩
theorem en_cases (L : List Int) (c : Cu) : ((en9 L c).e = 0 ∧ checkI (enE L c) = 0 ∧ enC L c = en9 L c ∧ enV L c = enE L c) ∨ ((en9 L c).e ≠ 0 ∧ checkI (enE L c) = 0 ∧ enC L c = en9 L c ∧ enV L c = noEn) ∨ ((en9 L c).e = 0 ∧ checkI (enE L c) ≠ 0 ∧ enC L c = ⟨(en9 L c).a, 4⟩ ∧ enV L c = noEn) ∨ ((en9 L c).e ≠ 0 ∧ checkI (enE L c) ≠ 0 ∧ enC L c = en9 L c ∧ enV L c = noEn) := by
  by_cases h1 : (en9 L c).e = 0 <;> by_cases h2 : checkI (enE L c) = 0
  · have e : enC L c = en9 L c := by simp [enC, h2]
    exact .inl ⟨h1, h2, e, by simp [enV, e, h1]⟩
  · have e : enC L c = ⟨(en9 L c).a, 4⟩ := by simp [enC, h2, h1, failI]
    exact .inr (.inr (.inl ⟨h1, h2, e, by simp [enV, e]⟩))
  · have e : enC L c = en9 L c := by simp [enC, h2]
    exact .inr (.inl ⟨h1, h2, e, by simp [enV, e, h1]⟩)
  · have e : enC L c = en9 L c := by simp [enC, h2, h1, failI]
    exact .inr (.inr (.inr ⟨h1, h2, e, by simp [enV, e, h1]⟩))

theorem enC_le {L : List Int} {c : Cu} (hb : bytesB L) (h : c.a ≤ L.length) : (enC L c).a ≤ L.length := by
  have h9 := (en_le hb h).2.2.2.2.2.2.2.2
  simp only [enC]
  exact h9
attribute [irreducible] en1 en2 en3 en4 en5 en6 en7 en8 en9 enE enC enV
end Go.Proofs.Ytkdikmfnchmphaa
