/- What was met last: the ring, the map, and plain laws. -/
import Derived.Test.YtjcjmeeajkdlhaaAn1
namespace Go.Proofs.Ytjcjmeeajkdlhaa
set_option linter.unusedSimpArgs false
set_option linter.unusedVariables false
set_option maxHeartbeats 4000000
open Go Go.Am Go.RowKit
set_option maxRecDepth 100000
/-- What a map of marks has. -/
abbrev EsM (l : List Mk) : List (AV × AV) := l.map fun m => (MkG m, I 1)
theorem es_ren (l : List Mk) (ρ : List Nat) : renE ρ (EsM l) = EsM l := by
  induction l with
  | nil => rfl
  | cons m l ih => simp only [EsM, List.map_cons, renE] at ih ⊢; rw [ih]; simp [ren, renL]
theorem key_mk (a b : Mk) : eqKey [(0, 0), (1, 0), (2, 1)] (MkG a) (MkG b) = some (decide (a = b)) := by
  rw [← mkE_dec]
  simp [eqKey, rangeB, eqCells, eqLeaf, mkE]
theorem find_mk (m : Mk) : ∀ l : List Mk, findA [(0, 0), (1, 0), (2, 1)] (MkG m) (EsM l) = some (if m ∈ l then some (I 1) else none)
  | [] => rfl
  | a :: l => by
    simp only [EsM, List.map_cons, findA, key_mk]
    by_cases h : m = a
    · simp [h]
    · have ih := find_mk m l
      simp only [EsM] at ih
      simp [h, ih]
theorem upd_mk (m : Mk) : ∀ {l : List Mk}, m ∉ l → updA [(0, 0), (1, 0), (2, 1)] (MkG m) (I 1) (EsM l) = some (EsM (l ++ [m]))
  | [], _ => rfl
  | a :: l, hn => by
    simp only [List.mem_cons, not_or] at hn
    have ih := upd_mk m hn.2
    simp only [EsM] at ih
    simp only [EsM, List.map_cons, updA, key_mk, decide_eq_false hn.1, ih]
    simp
theorem del_mk (m : Mk) : ∀ (l : List Mk), delA [(0, 0), (1, 0), (2, 1)] (MkG m) (EsM l) = some (EsM (l.erase m))
  | [] => rfl
  | a :: l => by
    have ih := del_mk m l
    simp only [EsM] at ih
    simp only [EsM, List.map_cons, delA, key_mk]
    by_cases h : m = a
    · subst h; simp
    · have h' : (a == m) = false := by simp; exact Ne.symm h
      simp [h, ih, List.erase_cons, h']
/-- What was met last: how many there is room for, the ring, where the next one goes, the keys of the map. -/
structure Sn where
  room : Nat
  ring : List Mk
  nx : Nat
  mp : List Mk
structure Sn.ok (s : Sn) : Prop where
  r1 : 1 ≤ s.room
  r2 : s.room ≤ 1024
  len : s.ring.length ≤ s.room
  nx : s.nx = 0 ∨ (s.nx < s.ring.length ∧ s.ring.length = s.room)
  nd : s.ring.Nodup
  nd2 : s.mp.Nodup
  mp : ∀ x, x ∈ s.mp ↔ x ∈ s.ring
def newS (n : Nat) : Sn := ⟨n, [], 0, []⟩
theorem newS_ok {n : Nat} (h1 : 1 ≤ n) (h2 : n ≤ 1024) : (newS n).ok := ⟨h1, h2, by simp [newS], .inl rfl, by simp [newS], by simp [newS], by simp [newS]⟩
def addS (s : Sn) (m : Mk) : Sn :=
  if m ∈ s.ring then s else if s.ring.length < s.room then { s with ring := s.ring ++ [m], mp := s.mp ++ [m] }
  else { s with ring := s.ring.set s.nx m, nx := (s.nx + 1) % s.ring.length, mp := s.mp.erase (s.ring.getD s.nx m) ++ [m] }
def allS (s : Sn) : List Mk := s.ring.drop s.nx ++ s.ring.take s.nx
theorem allS_mem (s : Sn) (x : Mk) : x ∈ allS s ↔ x ∈ s.ring := by
  unfold allS
  constructor
  · intro h
    rcases List.mem_append.1 h with h | h
    · exact List.mem_of_mem_drop h
    · exact List.mem_of_mem_take h
  · intro h
    rw [← List.take_append_drop s.nx s.ring] at h
    rcases List.mem_append.1 h with h | h
    · exact List.mem_append_right _ h
    · exact List.mem_append_left _ h
theorem allS_len (s : Sn) : (allS s).length = s.ring.length := by
  unfold allS
  rw [List.length_append, List.length_drop, List.length_take]
  omega
theorem addS_room (s : Sn) (m : Mk) : (addS s m).room = s.room := by unfold addS; split; rfl; split <;> rfl
/-- The list, as the document has it. -/
theorem addS_all {s : Sn} (h : s.ok) (m : Mk) : allS (addS s m) = if m ∈ allS s then allS s else if s.room < (allS s).length + 1 then ((allS s) ++ [m]).drop 1 else (allS s) ++ [m] := by
  simp only [allS_mem, allS_len]
  have h1 := h.r1
  have h2 := h.len
  unfold addS
  split
  · rfl
  · split
    · rename_i hn hl
      have h0 : s.nx = 0 := by rcases h.nx with h | h; exact h; omega
      rw [if_neg (by omega)]
      simp [allS, h0]
    · rename_i hn hl
      have hlen : s.ring.length = s.room := by omega
      rw [if_pos (by omega)]
      have hnx : s.nx < s.ring.length := by rcases h.nx with h | h; omega; exact h.1
      simp only [allS]
      rcases Nat.lt_or_ge (s.nx + 1) s.ring.length with h3 | h3
      · rw [Nat.mod_eq_of_lt h3]
        rw [List.drop_set_of_lt (by omega), List.take_set, List.drop_eq_getElem_cons hnx]
        simp only [List.cons_append, List.drop_succ_cons, List.drop_zero]
        rw [List.take_add_one, List.getElem?_eq_getElem hnx, Option.toList, List.set_append]
        simp only [List.length_take]
        rw [if_neg (by omega)]
        have : s.nx - min s.nx s.ring.length = 0 := by omega
        rw [this]
        simp
      · have e : s.nx + 1 = s.ring.length := by omega
        rw [e, Nat.mod_self]
        simp only [List.drop_zero, List.take_zero, List.append_nil]
        rw [List.drop_eq_getElem_cons hnx]
        simp only [List.cons_append, List.drop_succ_cons, List.drop_zero]
        rw [e, List.drop_length, List.nil_append]
        apply List.ext_getElem?
        intro i
        rw [List.getElem?_set, List.getElem?_append, List.length_take, List.getElem?_take]
        rcases Nat.lt_trichotomy i s.nx with hi | hi | hi
        · rw [if_neg (by omega), if_pos (by omega), if_pos hi]
        · subst hi
          rw [if_pos rfl, if_pos hnx, if_neg (by omega)]
          have : s.nx - min s.nx s.ring.length = 0 := by omega
          rw [this]; rfl
        · rw [if_neg (by omega), if_neg (by omega), List.getElem?_eq_none (by omega)]
          have : i - min s.nx s.ring.length ≠ 0 := by omega
          rw [List.getElem?_eq_none (by simp; omega)]
theorem addS_ok {s : Sn} (h : s.ok) (m : Mk) : (addS s m).ok := by
  have h1 := h.r1
  have h2 := h.r2
  have h3 := h.len
  unfold addS
  split
  · exact h
  · rename_i hn
    have hn2 : m ∉ s.mp := fun e => hn ((h.mp m).1 e)
    split
    · rename_i hl
      have h0 : s.nx = 0 := by rcases h.nx with h | h; exact h; omega
      refine ⟨h1, h2, by simp only [List.length_append, List.length_cons, List.length_nil]; omega, .inl h0, ?_, ?_, fun x => ?_⟩
      · exact List.nodup_append.2 ⟨h.nd, by simp, fun a ha b hb => by rw [List.mem_singleton.1 hb]; exact fun e => hn (e ▸ ha)⟩
      · exact List.nodup_append.2 ⟨h.nd2, by simp, fun a ha b hb => by rw [List.mem_singleton.1 hb]; exact fun e => hn2 (e ▸ ha)⟩
      · simp only [List.mem_append, List.mem_singleton, h.mp x]
    · rename_i hl
      have hlen : s.ring.length = s.room := by omega
      have hnx : s.nx < s.ring.length := by rcases h.nx with h | h; omega; exact h.1
      have hg : s.ring.getD s.nx m = s.ring[s.nx] := by simp [List.getD_eq_getElem?_getD, List.getElem?_eq_getElem hnx]
      rw [hg]
      have hset : ∀ x, x ∈ s.ring.set s.nx m ↔ x = m ∨ (x ∈ s.ring ∧ x ≠ s.ring[s.nx]) := by
        intro x
        rw [List.mem_iff_getElem?]
        constructor
        · rintro ⟨i, hi⟩
          rw [List.getElem?_set] at hi
          split at hi
          · simp at hi; exact .inl (by first | exact hi.2.symm | exact hi.symm | exact hi)
          · rename_i hne
            refine .inr ⟨List.mem_of_getElem? hi, fun e => hne ?_⟩
            have hil := (List.getElem?_eq_some_iff.1 hi).1
            have := (List.getElem?_eq_some_iff.1 hi).2
            exact (List.getElem_inj h.nd).1 (by rw [this, e])
        · rintro (rfl | ⟨hx, hne⟩)
          · exact ⟨s.nx, by rw [List.getElem?_set, if_pos rfl, if_pos hnx]⟩
          · obtain ⟨i, hi⟩ := List.getElem?_of_mem hx
            refine ⟨i, ?_⟩
            rw [List.getElem?_set, if_neg]
            · exact hi
            · rintro rfl
              rw [List.getElem?_eq_getElem hnx] at hi
              cases hi; exact hne rfl
      refine ⟨h1, h2, by simp only [List.length_set]; omega, ?_, ?_, ?_, fun x => ?_⟩
      · simp only [List.length_set]
        rcases Nat.lt_or_ge (s.nx + 1) s.ring.length with h3 | h3
        · rw [Nat.mod_eq_of_lt h3]; exact .inr ⟨h3, hlen⟩
        · rw [show s.nx + 1 = s.ring.length by omega, Nat.mod_self]; exact .inl rfl
      · simp only
        rw [List.nodup_iff_pairwise_ne, List.pairwise_iff_getElem]
        intro i j hi hj hij
        rw [List.length_set] at hi hj
        rw [List.getElem_set, List.getElem_set]
        split
        · split
          · omega
          · exact fun e => hn (e ▸ List.getElem_mem _)
        · split
          · exact fun e => hn (e ▸ List.getElem_mem _)
          · exact fun e => by have := (List.getElem_inj h.nd).1 e; omega
      · refine List.nodup_append.2 ⟨h.nd2.erase _, by simp, fun a ha b hb => ?_⟩
        rw [List.mem_singleton.1 hb]
        exact fun e => hn2 (e ▸ List.mem_of_mem_erase ha)
      · simp only [List.mem_append, List.mem_singleton, hset x]
        rw [h.nd2.mem_erase_iff, h.mp x]
        constructor
        · rintro (⟨a, b⟩ | a)
          · exact .inr ⟨b, a⟩
          · exact .inl a
        · rintro (a | ⟨a, b⟩)
          · exact .inr a
          · exact .inl ⟨b, a⟩
end Go.Proofs.Ytjcjmeeajkdlhaa
