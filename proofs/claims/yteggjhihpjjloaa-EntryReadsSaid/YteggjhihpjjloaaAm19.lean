/- Own theory, no program in sight: loops over list states. -/
import Derived.Test.YteggjhihpjjloaaAm18
namespace Go.Am
set_option linter.unusedSimpArgs false
set_option linter.unusedVariables false
set_option maxHeartbeats 4000000
open Go Go.RowKit

/-- Slots of a named state, met in this one. -/
def sameT (ρ : List Nat) (T : List (Nat × AV)) (b : Nat → AV) : List (Nat × AV) → Prop
  | [] => True
  | p :: l => leA (fT T b p.1) (ren ρ p.2) ∧ sameT ρ T b l
theorem sameT_spec {ρ : List Nat} {T : List (Nat × AV)} {b : Nat → AV} : ∀ {l : List (Nat × AV)}, sameT ρ T b l → ∀ j, leA (fT T b j) (ren ρ (fT l none0 j))
  | [], _, j => by simp [fT, none0, ren, leA]
  | (k, v) :: l, h, j => by
    simp only [fT]
    cases e : Nat.beq k j with
    | true => have := Nat.eq_of_beq_eq_true e; subst this; exact h.1
    | false => exact sameT_spec h.2 j
/-- The canonical state at a loop's head. -/
def head (T : List (Nat × AV)) (H : List AObj) : St := mk T none0 (zipI 0 H) gone0 H.length
theorem Emb.list {nn : NN} {ρ : List Nat} {T0 T : List (Nat × AV)} {H' : List AObj} {b : Nat → AV} {H : List (Nat × AObj)} {hb : Nat → AObj} {n : Nat} (ht : sameT ρ T b T0) (hs : sameR ρ H hb ρ H') (ha : aloneB ρ H' = true) (hl : H'.length = ρ.length) (hanc : ancB ρ nn.n = true) :
    Emb nn ρ (head T0 H') (Am.mk T b H hb n) := by
  have e : fH (zipI 0 H') gone0 = listH H' := by
    funext j
    have := zipI_fH H' 0 j
    rw [Nat.zero_add] at this
    rw [this]
    rfl
  refine ⟨sameT_spec ht, fun i => ?_, ?_, ancB_spec hanc, by simp only [head, Am.mk]; omega⟩
  · have := sameR_spec hs i
    simpa only [head, Am.mk, e] using this
  · have := alone_inj ha (by omega)
    simpa only [head, Am.mk, e] using this
def Back {α : Type} (nn : NN) (T0 : α → List (Nat × AV)) (H0 : α → List AObj) (μ : α → Nat) (P0 : α → Prop) (a : α) (x : St) : Prop :=
  ∃ a', μ a' < μ a ∧ P0 a' ∧ ∃ ρ, Emb nn ρ (head (T0 a') (H0 a')) x
section
variable {α : Type} {P : Program} {N : Nat} {nn : NN} {Q : Exit → St → Prop} {T0 : α → List (Nat × AV)} {H0 : α → List AObj} {μ : α → Nat} {P0 : α → Prop} {a : α}
theorem Back.to {T : List (Nat × AV)} {b : Nat → AV} {H : List (Nat × AObj)} {hb : Nat → AObj} {n : Nat} (a' : α) (ρ : List Nat) (hm : μ a' < μ a) (hP : P0 a') (h : sameT ρ T b (T0 a') ∧ sameR ρ H hb ρ (H0 a') ∧ aloneB ρ (H0 a') = true ∧ (H0 a').length = ρ.length ∧ ancB ρ nn.n = true) : Back nn T0 H0 μ P0 a (Am.mk T b H hb n) :=
  ⟨a', hm, hP, ρ, Emb.list h.1 h.2.1 h.2.2.1 h.2.2.2.1 h.2.2.2.2⟩
theorem AWp.loopL {c : Code} {T : List (Nat × AV)} {b : Nat → AV} {H : List (Nat × AObj)} {hb : Nat → AObj} {n : Nat} (T0 : α → List (Nat × AV)) (H0 : α → List AObj) (μ : α → Nat) (P0 : α → Prop) (a0 : α) (ρ : List Nat) (h0 : P0 a0) (h : sameT ρ T b (T0 a0) ∧ sameR ρ H hb ρ (H0 a0) ∧ aloneB ρ (H0 a0) = true ∧ (H0 a0).length = ρ.length ∧ ancB ρ nn.n = true)
    (round : ∀ a, P0 a → AWp P N nn c (AThen (Back nn T0 H0 μ P0 a) Q) (mk (T0 a) none0 (zipI 0 (H0 a)) gone0 (H0 a).length)) : AWp P N nn (.loop c) Q (mk T b H hb n) := by
  refine AWp.loop (fun m x => ∃ a, P0 a ∧ μ a = m ∧ x = head (T0 a) (H0 a)) ⟨_, ρ, _, ⟨a0, h0, rfl, rfl⟩, Emb.list h.1 h.2.1 h.2.2.1 h.2.2.2.1 h.2.2.2.2⟩ ?_
  rintro m x ⟨a, hP, rfl, rfl⟩ C B ac w hn hs
  refine wp_mono (round a hP C B ac w hn hs) ?_
  rintro e a' w' ⟨B', x', hq, hs'⟩
  refine ⟨B', x', ?_, hs'⟩
  cases e with
  | normal =>
    obtain ⟨a1, h1, h2, ρ1, h3⟩ := hq
    exact ⟨μ a1, h1, ρ1, _, ⟨a1, h2, rfl, rfl⟩, h3⟩
  | _ => exact hq
/-- A list of values bears no ids. -/
theorem renL_map {β : Type} (ρ : List Nat) (f : β → AV) (hf : ∀ x, ren ρ (f x) = f x) : ∀ l : List β, renL ρ (l.map f) = l.map f
  | [] => by simp [renL]
  | x :: l => by simp [renL, hf, renL_map ρ f hf l]
theorem renL_flatMap {β : Type} (ρ : List Nat) (f : β → List AV) (hf : ∀ x, renL ρ (f x) = f x) : ∀ l : List β, renL ρ (l.flatMap f) = l.flatMap f
  | [] => by simp [renL]
  | x :: l => by simp [List.flatMap_cons, renL_append, hf, renL_flatMap ρ f hf l]
/-- Rows of cells, each of the same length. -/
theorem rows_len {β : Type} (f : β → List AV) (k : Nat) (hf : ∀ x, (f x).length = k) : ∀ l : List β, (l.flatMap f).length = l.length * k
  | [] => by simp
  | x :: l => by simp [List.flatMap_cons, hf, rows_len f k hf l, Nat.add_mul, Nat.add_comm]
theorem rows_at {β : Type} (f : β → List AV) (k : Nat) (hf : ∀ x, (f x).length = k) : ∀ (l : List β) (i : Nat) (h : i < l.length), ((l.flatMap f).drop (i * k)).take k = f l[i]
  | x :: l, 0, _ => by
    simp only [Nat.zero_mul, List.drop_zero, List.flatMap_cons, List.getElem_cons_zero]
    rw [List.take_append_of_le_length (by rw [hf]; exact Nat.le_refl _), ← hf x, List.take_length]
  | x :: l, i + 1, h => by
    simp only [List.flatMap_cons, List.getElem_cons_succ]
    rw [show (i + 1) * k = (f x).length + i * k by rw [hf]; rw [Nat.add_mul]; omega, List.drop_length_add_append]
    exact rows_at f k hf l i (by simpa using h)
/-- A slice's cells, that came in: what is ahead of it is nobody's matter. -/
def rowsC {β : Type} (off : Nat) (f : β → List AV) (l : List β) : List AV := List.replicate off .any ++ l.flatMap f
theorem renL_any (ρ : List Nat) : ∀ n : Nat, renL ρ (List.replicate n .any) = List.replicate n .any
  | 0 => rfl
  | n + 1 => by simp [List.replicate_succ, renL, ren, renL_any ρ n]
theorem rowsC_ren {β : Type} {off : Nat} {f : β → List AV} (hf : ∀ ρ x, renL ρ (f x) = f x) (ρ : List Nat) (l : List β) : renL ρ (rowsC off f l) = rowsC off f l := by
  unfold rowsC
  rw [renL_append, renL_any, renL_flatMap ρ f (hf ρ)]
theorem rowsC_len {β : Type} {off k : Nat} {f : β → List AV} (hf : ∀ x, (f x).length = k) (l : List β) : (rowsC off f l).length = off + l.length * k := by
  unfold rowsC
  rw [List.length_append, List.length_replicate, rows_len f k hf]
theorem rowsC_at {β : Type} {off k : Nat} {f : β → List AV} (hf : ∀ x, (f x).length = k) (l : List β) (i : Nat) (h : i < l.length) : ((rowsC off f l).drop (off + i * k)).take k = f l[i] := by
  unfold rowsC
  rw [show off + i * k = (List.replicate off AV.any).length + i * k by simp, List.drop_length_add_append]
  exact rows_at f k hf l i h
theorem rowsC_get {β : Type} {off k : Nat} {f : β → List AV} (hf : ∀ x, (f x).length = k) (l : List β) (i j : Nat) (h : i < l.length) (hj : j < k) : (rowsC off f l).getD (off + i * k + j) .bad = (f l[i]).getD j .bad := by
  have := rowsC_at (off := off) hf l i h
  rw [← this, List.getD_eq_getElem?_getD, List.getD_eq_getElem?_getD, List.getElem?_take, if_pos hj, List.getElem?_drop]
theorem rowsC_get0 {β : Type} {off k : Nat} {f : β → List AV} (hf : ∀ x, (f x).length = k) (l : List β) (i : Nat) (h : i < l.length) (hj : 0 < k) : (rowsC off f l).getD (off + i * k) .bad = (f l[i]).getD 0 .bad := by
  have := rowsC_get (off := off) hf l i 0 h hj
  simpa using this
end
attribute [go_sem] sameT
end Go.Am
