/- Lists of what is read; messages, field by field. Plain laws. -/
import Derived.Test.YtopidfkmligljaaGreatWp1
namespace Go.Proofs.YtopidfkmligljaaGreat
set_option linter.unusedSimpArgs false
set_option linter.unusedVariables false
set_option maxHeartbeats 4000000
open Go Go.Am
set_option maxRecDepth 100000
/-- So many, one behind the other: the program's way stops where an error is, the document's goes on. -/
def lsP {α : Type} (R : Rd α) (L : List Int) (c : Cu) : Nat → Cu × List α
  | 0 => (c, [])
  | n + 1 => if (lsP R L c n).1.e = 0 then (R.cur L (lsP R L c n).1, (lsP R L c n).2 ++ [R.val L (lsP R L c n).1]) else lsP R L c n
section
variable {α : Type} {R : Rd α} {enc : α → List Int} {ok : α → Prop}
theorem lsP_stick {L : List Int} {c : Cu} (h : c.e ≠ 0) : ∀ n, lsP R L c n = (c, [])
  | 0 => rfl
  | n + 1 => by rw [lsP, lsP_stick h n, if_neg h]
theorem lsP_end {L : List Int} {c : Cu} {i : Nat} (h : (lsP R L c i).1.e ≠ 0) : ∀ n, i ≤ n → lsP R L c n = lsP R L c i
  | 0, hn => by rw [show i = 0 by omega]
  | n + 1, hn => by
    by_cases hi : i = n + 1
    · rw [hi]
    · have := lsP_end h n (by omega)
      rw [lsP, this, if_neg h]
theorem lsP_le (h : RdOk R enc ok) {L : List Int} {c : Cu} (hb : bytesB L) (hc : c.a ≤ L.length) : ∀ n, (lsP R L c n).1.a ≤ L.length
  | 0 => hc
  | n + 1 => by
    have ih := lsP_le h hb hc n
    rw [lsP]
    split
    · exact h.le hb ih
    · exact ih
theorem lsP_len (R : Rd α) {L : List Int} {c : Cu} : ∀ n, (lsP R L c n).2.length ≤ n
  | 0 => Nat.le_refl _
  | n + 1 => by
    have := lsP_len R (L := L) (c := c) n
    rw [lsP]
    split
    · rw [List.length_append, List.length_singleton]; omega
    · omega
theorem take_snoc {β : Type} (l : List β) {i : Nat} (h : i < l.length) : l.take (i + 1) = l.take i ++ [l[i]] := by
  rw [List.take_add_one, List.getElem?_eq_getElem h]; rfl
theorem flat_part (enc : α → List Int) (l : List α) {i : Nat} (h : i < l.length) : l.flatMap enc = (l.take i).flatMap enc ++ (enc l[i] ++ (l.drop (i + 1)).flatMap enc) := by
  conv => lhs; rw [← List.take_append_drop i l, List.drop_eq_getElem_cons h]
  rw [List.flatMap_append, List.flatMap_cons]
theorem lsP_fwd (h : RdOk R enc ok) {L : List Int} {a : Nat} {l : List α} {r : List Int} (hl : ∀ x ∈ l, ok x) (hd : L.drop a = l.flatMap enc ++ r) : ∀ i, i ≤ l.length → lsP R L ⟨a, 0⟩ i = (⟨a + ((l.take i).flatMap enc).length, 0⟩, l.take i)
  | 0, _ => by simp [lsP]
  | i + 1, hi => by
    have hil : i < l.length := by omega
    rw [lsP, lsP_fwd h hl hd i (by omega)]
    simp only [if_true]
    rw [flat_part enc l hil, List.append_assoc] at hd
    have hd2 := drop_next hd rfl
    rw [List.append_assoc] at hd2
    obtain ⟨g1, g2⟩ := h.fwd (hl _ (List.getElem_mem hil)) hd2
    rw [g1, g2, take_snoc l hil, List.flatMap_append, List.length_append, List.flatMap_singleton, Nat.add_assoc]
theorem lsP_back (h : RdOk R enc ok) {L : List Int} {c : Cu} (hb : bytesB L) : ∀ n, (lsP R L c n).1.e = 0 → c.e = 0 ∧ (lsP R L c n).2.length = n ∧ (lsP R L c n).1.a = c.a + ((lsP R L c n).2.flatMap enc).length ∧ L.drop c.a = (lsP R L c n).2.flatMap enc ++ L.drop (lsP R L c n).1.a
  | 0, h0 => ⟨h0, rfl, by simp [lsP], by simp [lsP]⟩
  | n + 1, h0 => by
    by_cases he : (lsP R L c n).1.e = 0
    · obtain ⟨i1, i2, i3, i4⟩ := lsP_back h hb n he
      rw [lsP, if_pos he] at h0 ⊢
      simp only at h0 ⊢
      obtain ⟨g1, g2, g3⟩ := h.back hb h0
      rw [List.length_append, List.flatMap_append, List.flatMap_singleton, List.length_append, i2]
      refine ⟨i1, rfl, ?_, ?_⟩
      · rw [g2, i3]; omega
      · rw [i4, g3, List.append_assoc]
    · rw [lsP, if_neg he] at h0
      exact absurd h0 he
theorem lsP_cut (h : RdOk R enc ok) {L : List Int} {a m : Nat} {l : List α} {r : List Int} (hl : ∀ x ∈ l, ok x) (hd : L.drop a = l.flatMap enc ++ r) (ha : a ≤ m) : ∀ i, i ≤ l.length → (a + ((l.take i).flatMap enc).length ≤ m ∧ lsP R (L.take m) ⟨a, 0⟩ i = (⟨a + ((l.take i).flatMap enc).length, 0⟩, l.take i)) ∨ (lsP R (L.take m) ⟨a, 0⟩ i).1.e = 6
  | 0, _ => by refine .inl ⟨?_, ?_⟩ <;> simp [lsP, ha]
  | i + 1, hi => by
    have hil : i < l.length := by omega
    rcases lsP_cut h hl hd ha i (by omega) with ⟨i1, i2⟩ | i1
    · rw [lsP, i2]
      simp only [if_true]
      rw [flat_part enc l hil, List.append_assoc] at hd
      have hd2 := drop_next hd rfl
      rw [List.append_assoc] at hd2
      rw [take_snoc l hil, List.flatMap_append, List.length_append, List.flatMap_singleton]
      by_cases hm : m < a + ((l.take i).flatMap enc).length + (enc l[i]).length
      · right
        exact h.cut (hl _ (List.getElem_mem hil)) hd2 i1 hm
      · left
        obtain ⟨g1, g2⟩ := h.fwd (hl _ (List.getElem_mem hil)) (drop_take_app hd2 (n := m) (by omega))
        rw [g1, g2]
        exact ⟨by omega, by rw [Nat.add_assoc]⟩
    · right
      rw [lsP, if_neg (by rw [i1]; decide)]
      exact i1
end
/-- How many. -/
def manyC (L : List Int) (c : Cu) : Cu := ⟨(numC L 1 c).a, if 8 < numV L 1 c then failI (numC L 1 c).e 4 else (numC L 1 c).e⟩
theorem many_ok {L : List Int} {c : Cu} (h : numV L 1 c ≤ 8) : manyC L c = numC L 1 c := by
  unfold manyC; rw [if_neg (by omega)]
theorem many_big {L : List Int} {c : Cu} (h : 8 < numV L 1 c) : (manyC L c).e ≠ 0 := by
  unfold manyC; rw [if_pos h]; exact failI_ne _ _ (by decide)
theorem many_err {L : List Int} {c : Cu} (h : (numC L 1 c).e ≠ 0) : manyC L c = numC L 1 c := many_ok (by rw [numV_err h]; decide)
theorem many_le {L : List Int} {c : Cu} (h : c.a ≤ L.length) : (manyC L c).a ≤ L.length := numC_le h
/-- Lists. -/
def lsR {α : Type} (R : Rd α) : Rd (List α) := ⟨fun L c => (lsP R L (manyC L c) (numV L 1 c).toNat).1, fun L c => (lsP R L (manyC L c) (numV L 1 c).toNat).2⟩
def lsB {α : Type} (enc : α → List Int) (l : List α) : List Int := leI l.length 1 ++ l.flatMap enc
theorem lsR_ok {α : Type} {R : Rd α} {enc : α → List Int} {ok : α → Prop} (h : RdOk R enc ok) : RdOk (lsR R) (lsB enc) (fun l => l.length ≤ 8 ∧ ∀ x ∈ l, ok x) where
  le := fun hb hc => lsP_le h hb (many_le hc) _
  stick := fun {L c} hc => by
    have h1 : numC L 1 c = c := numC_stick hc
    have h2 : manyC L c = c := by rw [many_err (by rw [h1]; exact hc), h1]
    show (lsP R L (manyC L c) _).1 = c
    rw [h2, lsP_stick hc]
  fwd := fun {L a l r} ⟨h8, hl⟩ hd => by
    unfold lsB at hd
    rw [List.append_assoc] at hd
    obtain ⟨g1, g2⟩ := read_num (w := 1) hd (by decide) (fits_small (k := 1) (by omega) (by omega)) (by omega)
    have g3 : manyC L ⟨a, 0⟩ = ⟨a + 1, 0⟩ := by rw [many_ok (by rw [g2]; omega), g1]; rfl
    have hd2 := drop_next hd (leI_len _ 1)
    have g4 := lsP_fwd h hl hd2 l.length (Nat.le_refl _)
    rw [List.take_length] at g4
    show (lsP R L (manyC L ⟨a, 0⟩) (numV L 1 ⟨a, 0⟩).toNat).1 = _ ∧ (lsP R L (manyC L ⟨a, 0⟩) (numV L 1 ⟨a, 0⟩).toNat).2 = l
    rw [g3, g2, Int.toNat_natCast, g4]
    refine ⟨?_, rfl⟩
    unfold lsB
    rw [List.length_append, leI_len, Nat.add_assoc]
  back := fun {L c} hb h0 => by
    have h0' : (lsP R L (manyC L c) (numV L 1 c).toNat).1.e = 0 := h0
    obtain ⟨i1, i2, i3, i4⟩ := lsP_back h hb _ h0'
    have hv : numV L 1 c ≤ 8 := by
      by_cases k : numV L 1 c ≤ 8
      · exact k
      · exact absurd i1 (many_big (by omega))
    rw [many_ok hv] at i1 i3 i4 h0' i2
    obtain ⟨j1, j2, j3⟩ := num_back hb (by decide) i1
    have hv0 := (numV_lt hb 1 c).1
    show c.e = 0 ∧ (lsP R L (manyC L c) (numV L 1 c).toNat).1.a = c.a + (lsB enc (lsP R L (manyC L c) (numV L 1 c).toNat).2).length ∧ L.drop c.a = lsB enc (lsP R L (manyC L c) (numV L 1 c).toNat).2 ++ L.drop (lsP R L (manyC L c) (numV L 1 c).toNat).1.a
    rw [many_ok hv]
    unfold lsB
    rw [List.length_append, leI_len, i2, i3, j2, show (((numV L 1 c).toNat : Nat) : Int) = numV L 1 c by omega]
    refine ⟨j1, by show c.a + (1 : Int).toNat + _ = _; rw [show (1 : Int).toNat = 1 from rfl]; omega, ?_⟩
    rw [← j2, ← i3, List.append_assoc, ← i4, j2]
    exact j3
  cut := fun {L a m l r} ⟨h8, hl⟩ hd ha hm => by
    unfold lsB at hd hm
    rw [List.append_assoc] at hd
    rw [List.length_append, leI_len] at hm
    show (lsP R (L.take m) (manyC (L.take m) ⟨a, 0⟩) (numV (L.take m) 1 ⟨a, 0⟩).toNat).1.e = 6
    by_cases hm1 : m < a + 1
    · have g := (numR_ok (w := 1) (by decide)).cut (L := L) (v := (l.length : Int)) ⟨fits_small (k := 1) (by omega) (by omega), by omega⟩ hd ha (by rw [leI_len]; exact hm1)
      have g' : (numC (L.take m) 1 ⟨a, 0⟩).e = 6 := g
      rw [many_err (by rw [g']; decide), lsP_stick (by rw [g']; decide)]
      exact g'
    · have hd1 := drop_take_app hd (n := m) (by rw [leI_len]; omega)
      obtain ⟨g1, g2⟩ := read_num (w := 1) hd1 (by decide) (fits_small (k := 1) (by omega) (by omega)) (by omega)
      have g3 : manyC (L.take m) ⟨a, 0⟩ = ⟨a + 1, 0⟩ := by rw [many_ok (by rw [g2]; omega), g1]; rfl
      rw [g3, g2, Int.toNat_natCast]
      rcases lsP_cut h hl (drop_next hd (leI_len _ 1)) (m := m) (by omega) l.length (Nat.le_refl _) with ⟨k1, -⟩ | k1
      · rw [List.take_length] at k1; omega
      · exact k1
end Go.Proofs.YtopidfkmligljaaGreat
