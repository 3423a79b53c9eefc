/- Entries and updates as rows; maps by keys of any kind; first places. Plain laws. -/
import Derived.Test.YtbblpmkdhdnkhaaBs
import Derived.Test.YtbblpmkdhdnkhaaAc6
namespace Go.Proofs.Ytbblpmkdhdnkhaa
set_option linter.unusedSimpArgs false
set_option linter.unusedVariables false
set_option maxHeartbeats 4000000
open Go Go.Am Go.RowKit
set_option maxRecDepth 100000
theorem ba_dec (a b : ByteArray) : (a == b) = decide (a = b) := by
  by_cases h : a = b
  · rw [decide_eq_true h]; exact (ba_iff a b).2 h
  · rw [decide_eq_false h]
    cases e : (a == b) with
    | false => rfl
    | true => exact absurd ((ba_iff a b).1 e) h
/-- The same entry? -/
abbrev eqE (a b : En) : Bool := a.key == b.key && (a.val == b.val && (a.dead == b.dead && (a.st.c == b.st.c && (a.st.s == b.st.s && (a.act.c == b.act.c && (a.act.s == b.act.s && (a.keep == b.keep && a.age == b.age)))))))
theorem eqE_iff (a b : En) : eqE a b = true ↔ a = b := by
  obtain ⟨a1, a2, a3, ⟨a4, a5⟩, ⟨a6, a7⟩, a8, a9⟩ := a
  obtain ⟨b1, b2, b3, ⟨b4, b5⟩, ⟨b6, b7⟩, b8, b9⟩ := b
  simp only [eqE, Bool.and_eq_true, beq_iff_eq, En.mk.injEq, St.mk.injEq, ba_iff, and_assoc]
instance : DecidableEq En := fun a b => decidable_of_iff _ (eqE_iff a b)
theorem eqE_dec (a b : En) : eqE a b = decide (a = b) := by
  by_cases h : a = b
  · rw [decide_eq_true h, eqE_iff]; exact h
  · rw [decide_eq_false h]
    cases e : eqE a b with
    | false => rfl
    | true => exact absurd ((eqE_iff a b).1 e) h
theorem key_en (a b : En) : eqKey [(0, 1), (1, 1), (2, 2), (3, 0), (4, 0), (5, 0), (6, 0), (7, 0), (8, 0)] (EnA a) (EnA b) = some (decide (a = b)) := by
  rw [← eqE_dec]
  simp [eqKey, rangeB, eqCells, eqLeaf, eqE]
theorem key_str (a b : ByteArray) : eqKey [(0, 1)] (Str a) (Str b) = some (decide (a = b)) := by
  rw [← ba_dec]
  simp [eqKey, eqLeaf]
/-- An update. -/
structure Up where
  e : En
  sure : Bool
abbrev UpL (u : Up) : List AV := [Str u.e.key, Str u.e.val, Bo u.e.dead, I u.e.st.c, I u.e.st.s, I u.e.act.c, I u.e.act.s, I u.e.keep, I u.e.age, Bo u.sure]
abbrev UpA (u : Up) : AV := .agg (UpL u)
abbrev Re (off : Nat) (l : List En) : List AV := rowsC off EnL l
abbrev Ru (off : Nat) (l : List Up) : List AV := rowsC off UpL l
theorem re_ren (off : Nat) (l : List En) (ρ : List Nat) : renL ρ (Re off l) = Re off l := rowsC_ren (fun ρ x => by simp [renL, ren]) ρ l
theorem re_len (off : Nat) (l : List En) : (Re off l).length = off + l.length * 9 := rowsC_len (f := EnL) (k := 9) (fun _ => rfl) l
theorem re_at (off : Nat) (l : List En) (i : Nat) (h : i < l.length) : ((Re off l).drop (off + i * 9)).take 9 = EnL l[i] := rowsC_at (f := EnL) (k := 9) (fun _ => rfl) l i h
theorem re_nil : Re 0 [] = [] := rfl
theorem re_one (m : En) : Re 0 [m] = EnL m := rfl
theorem re_app (l m : List En) : Re 0 (l ++ m) = Re 0 l ++ Re 0 m := by simp [Re, rowsC]
theorem re_all (l : List En) {n : Nat} (h : n = l.length * 9) : (Re 0 l).take n = Re 0 l := List.take_of_length_le (by rw [re_len]; omega)
theorem re_put (l : List En) (i : Nat) (h : i < l.length) : Re 0 (l.take (i + 1)) = Re 0 (l.take i) ++ EnL l[i] := by
  rw [List.take_add_one, List.getElem?_eq_getElem h, Option.toList, re_app, re_one]
theorem re_noAny (l : List En) : noAny (Re 0 l) := noAny_rows (fun x => by simp [noAny]) _
theorem re_seg (off : Nat) (l : List En) {n : Nat} (h : n = l.length * 9) : ((Re off l).drop off).take n = Re 0 l := by
  unfold Re rowsC
  rw [List.drop_append]
  simp only [List.length_replicate, Nat.sub_self, List.drop_zero, List.replicate_zero, List.nil_append]
  rw [List.drop_of_length_le (by simp), List.nil_append]
  exact List.take_of_length_le (by rw [show (l.flatMap EnL).length = l.length * 9 by have := re_len 0 l; simpa [Re, rowsC] using this]; omega)
theorem ru_ren (off : Nat) (l : List Up) (ρ : List Nat) : renL ρ (Ru off l) = Ru off l := rowsC_ren (fun ρ x => by simp [renL, ren]) ρ l
theorem ru_len (off : Nat) (l : List Up) : (Ru off l).length = off + l.length * 10 := rowsC_len (f := UpL) (k := 10) (fun _ => rfl) l
theorem ru_at (off : Nat) (l : List Up) (i : Nat) (h : i < l.length) : ((Ru off l).drop (off + i * 10)).take 10 = UpL l[i] := rowsC_at (f := UpL) (k := 10) (fun _ => rfl) l i h
theorem ru_nil : Ru 0 [] = [] := rfl
theorem ru_one (m : Up) : Ru 0 [m] = UpL m := rfl
theorem ru_app (l m : List Up) : Ru 0 (l ++ m) = Ru 0 l ++ Ru 0 m := by simp [Ru, rowsC]
theorem ru_all (l : List Up) {n : Nat} (h : n = l.length * 10) : (Ru 0 l).take n = Ru 0 l := List.take_of_length_le (by rw [ru_len]; omega)
theorem ru_put (l : List Up) (i : Nat) (h : i < l.length) : Ru 0 (l.take (i + 1)) = Ru 0 (l.take i) ++ UpL l[i] := by
  rw [List.take_add_one, List.getElem?_eq_getElem h, Option.toList, ru_app, ru_one]
/-- A cell of a row. -/
theorem cell_at {l : List AV} {a k q : Nat} {x : List AV} (h : (l.drop a).take k = x) (hq : q < k) : l.getD (a + q) AV.bad = x.getD q AV.bad := by
  rw [List.getD_eq_getElem?_getD, List.getD_eq_getElem?_getD, ← h, List.getElem?_take, if_pos hq, List.getElem?_drop]
/-! ### Maps -/
section
variable {κ : Type} [DecidableEq κ]
def updG (k : κ) (v : Int) : List (κ × Int) → List (κ × Int)
  | [] => [(k, v)]
  | p :: l => if k = p.1 then (k, v) :: l else p :: updG k v l
def lookG (k : κ) : List (κ × Int) → Option Int
  | [] => none
  | p :: l => if k = p.1 then some p.2 else lookG k l
theorem look_upd (k k' : κ) (v : Int) : ∀ M : List (κ × Int), lookG k' (updG k v M) = if k' = k then some v else lookG k' M
  | [] => by simp [updG, lookG]
  | p :: l => by
    have ih := look_upd k k' v l
    unfold updG
    by_cases h : k = p.1
    · rw [if_pos h]
      simp only [lookG]
      by_cases h2 : k' = k
      · rw [if_pos h2, if_pos h2]
      · rw [if_neg h2, if_neg h2, if_neg (by rw [← h]; exact h2)]
    · rw [if_neg h]
      simp only [lookG, ih]
      by_cases h2 : k' = p.1
      · rw [if_pos h2, if_neg (by rw [h2]; exact fun e => h e.symm), if_pos h2]
      · rw [if_neg h2, if_neg h2]
abbrev EsG (enc : κ → AV) (M : List (κ × Int)) : List (AV × AV) := M.map fun p => (enc p.1, I p.2)
theorem find_G {kinds : List (Nat × Nat)} {enc : κ → AV} (hk : ∀ a b, eqKey kinds (enc a) (enc b) = some (decide (a = b))) (k : κ) : ∀ M : List (κ × Int), findA kinds (enc k) (EsG enc M) = some ((lookG k M).map fun v => I v)
  | [] => rfl
  | p :: l => by
    have ih := find_G hk k l
    simp only [EsG] at ih
    simp only [EsG, List.map_cons, findA, hk, lookG]
    by_cases h : k = p.1
    · rw [decide_eq_true h, if_pos h]; rfl
    · rw [decide_eq_false h, if_neg h]; exact ih
theorem upd_G {kinds : List (Nat × Nat)} {enc : κ → AV} (hk : ∀ a b, eqKey kinds (enc a) (enc b) = some (decide (a = b))) (k : κ) (v : Int) : ∀ M : List (κ × Int), updA kinds (enc k) (I v) (EsG enc M) = some (EsG enc (updG k v M))
  | [] => rfl
  | p :: l => by
    have ih := upd_G hk k v l
    simp only [EsG] at ih
    simp only [EsG, List.map_cons, updA, hk]
    by_cases h : k = p.1
    · rw [decide_eq_true h]; simp [updG, h]
    · rw [decide_eq_false h, ih]; simp [updG, h]
omit [DecidableEq κ] in
theorem ren_G {enc : κ → AV} (he : ∀ ρ a, ren ρ (enc a) = enc a) (ρ : List Nat) : ∀ M : List (κ × Int), renE ρ (EsG enc M) = EsG enc M
  | [] => rfl
  | p :: l => by
    have ih := ren_G he ρ l
    simp only [EsG] at ih
    simp only [EsG, List.map_cons, renE, he, ih]
    simp [ren]
end
/-! ### First places -/
def idxI {α : Type} (l : List α) (p : α → Bool) : Int := if l.findIdx p < l.length then (l.findIdx p : Int) else -1
theorem idxI_at {α : Type} {l : List α} {p : α → Bool} {i : Nat} (hi : i < l.length) (hq : ∀ q (h : q < l.length), q < i → p l[q] = false) (he : p l[i] = true) : idxI l p = i := by
  have : l.findIdx p = i := (List.findIdx_eq hi).2 ⟨he, fun j hj => hq j (by omega) hj⟩
  unfold idxI
  rw [this, if_pos hi]
theorem idxI_no {α : Type} {l : List α} {p : α → Bool} (h : ∀ q (h : q < l.length), p l[q] = false) : idxI l p = -1 := by
  have : l.findIdx p = l.length := List.findIdx_eq_length.2 fun x hx => by
    obtain ⟨q, hq, rfl⟩ := List.getElem_of_mem hx
    exact h q hq
  unfold idxI
  rw [this, if_neg (by omega)]
theorem idxI_cases {α : Type} (l : List α) (p : α → Bool) : (idxI l p = -1 ∧ ∀ x ∈ l, p x = false) ∨ ∃ i, ∃ h : i < l.length, idxI l p = i ∧ p l[i] = true := by
  unfold idxI
  by_cases h : l.findIdx p < l.length
  · rw [if_pos h]; exact .inr ⟨_, h, rfl, List.findIdx_getElem⟩
  · rw [if_neg h]
    refine .inl ⟨rfl, List.findIdx_eq_length.1 ?_⟩
    have := List.findIdx_le_length (xs := l) (p := p)
    omega
def firstK (l : List En) (k : ByteArray) : Int := idxI l fun e => decide (e.key = k)
/-- The map of first places, so many entries from behind looked at. -/
def bkM (l : List En) : Nat → List (ByteArray × Int)
  | 0 => []
  | n + 1 => match l[l.length - 1 - n]? with
    | some e => updG e.key ((l.length - 1 - n : Nat) : Int) (bkM l n)
    | none => bkM l n
theorem bk_succ {l : List En} {n : Nat} (h : n < l.length) : bkM l (n + 1) = updG (l[l.length - 1 - n]'(by omega)).key ((l.length - 1 - n : Nat) : Int) (bkM l n) := by
  rw [bkM, List.getElem?_eq_getElem (by omega)]
theorem bk_look {l : List En} (k : ByteArray) : ∀ n, n ≤ l.length → lookG k (bkM l n) = if idxI (l.drop (l.length - n)) (fun e => decide (e.key = k)) = -1 then none else some ((l.length - n : Nat) + idxI (l.drop (l.length - n)) (fun e => decide (e.key = k)))
  | 0, _ => by simp [bkM, lookG, idxI]
  | n + 1, h => by
    have ih := bk_look (l := l) k n (by omega)
    rw [bk_succ (l := l) (n := n) (by omega), look_upd, ih]
    have e : l.drop (l.length - (n + 1)) = l[l.length - 1 - n]'(by omega) :: l.drop (l.length - n) := by
      rw [show l.length - (n + 1) = l.length - 1 - n by omega, List.drop_eq_getElem_cons (l := l) (i := l.length - 1 - n) (by omega), show l.length - 1 - n + 1 = l.length - n by omega]
    rw [e]
    generalize l.drop (l.length - n) = r
    by_cases hk : k = (l[l.length - 1 - n]'(by omega)).key
    · have h1 : idxI (l[l.length - 1 - n]'(by omega) :: r) (fun e => decide (e.key = k)) = 0 := idxI_at (l := l[l.length - 1 - n]'(by omega) :: r) (p := fun e => decide (e.key = k)) (i := 0) (by simp) (fun q hq h => by omega) (by simp [hk])
      rw [if_pos hk, h1]
      simp; omega
    · rw [if_neg hk]
      have h1 : idxI (l[l.length - 1 - n]'(by omega) :: r) (fun e => decide (e.key = k)) = if idxI r (fun e => decide (e.key = k)) = -1 then -1 else idxI r (fun e => decide (e.key = k)) + 1 := by
        unfold idxI
        rw [List.findIdx_cons]
        have hd : decide ((l[l.length - 1 - n]'(by omega)).key = k) = false := decide_eq_false fun e => hk e.symm
        simp only [hd, cond_false, List.length_cons]
        by_cases hlt : r.findIdx (fun e => decide (e.key = k)) < r.length
        · rw [if_pos hlt, if_pos (by omega), if_neg (by omega)]; simp
        · rw [if_neg hlt, if_neg (by omega), if_pos rfl]
      rw [h1]
      rcases idxI_cases r (fun e => decide (e.key = k)) with ⟨h2, _⟩ | ⟨i, hi, h2, _⟩
      · rw [h2]; simp
      · rw [h2, if_neg (by omega), if_neg (by omega), if_neg (by omega)]
        congr 1
        omega
theorem bk_all (l : List En) (k : ByteArray) : lookG k (bkM l l.length) = if firstK l k = -1 then none else some (firstK l k) := by
  rw [bk_look k l.length (Nat.le_refl _), Nat.sub_self, List.drop_zero]
  show (if firstK l k = -1 then none else some (((0 : Nat) : Int) + firstK l k)) = _
  rw [show ((0 : Nat) : Int) + firstK l k = firstK l k by omega]
end Go.Proofs.Ytbblpmkdhdnkhaa
