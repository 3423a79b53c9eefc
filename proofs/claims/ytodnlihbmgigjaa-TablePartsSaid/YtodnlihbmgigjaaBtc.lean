/- Plain laws for TableParts: scans and ranks; what is dropped and put again is as it was. -/
import Derived.Test.YtodnlihbmgigjaaBt9
namespace Go.Proofs.Ytodnlihbmgigjaa
set_option linter.unusedSimpArgs false
set_option linter.unusedVariables false
set_option maxHeartbeats 4000000
open Go Go.Am Go.RowKit
theorem rank_nil (l : List Pi) : rankP l ⟨#[]⟩ = 0 := by
  cases l with
  | nil => rfl
  | cons p l => simp [rankP, List.takeWhile_cons, ltK_nil]
theorem scan_all2 (l : List Pi) (n : Int) (h : (l.length : Int) ≤ n) : scanP l ⟨#[]⟩ n = l := by
  unfold scanP
  rw [rank_nil]
  simp only [List.drop_zero]
  exact List.take_of_length_le (by omega)
theorem scan_len (l : List Pi) (k : ByteArray) (n : Int) : ((scanP l k n).length : Int) = min (max n 0) ((l.length : Int) - (rankP l k : Int)) := by
  have := rankP_le l k
  unfold scanP
  simp only [List.length_take, List.length_drop]
  omega
theorem scan_get (l : List Pi) (k : ByteArray) (n : Int) (j : Nat) (hj : j < (scanP l k n).length) : ∃ h : rankP l k + j < l.length, (scanP l k n)[j] = l[rankP l k + j] := by
  have h : rankP l k + j < l.length := by
    unfold scanP at hj
    simp only [List.length_take, List.length_drop] at hj
    omega
  refine ⟨h, ?_⟩
  simp only [scanP, List.getElem_take, List.getElem_drop]
theorem drop_at {l : List Pi} (h : Rise l) {i : Nat} (hi : i < l.length) : dropP l l[i].key = l.take i ++ l.drop (i + 1) := by
  unfold dropP
  rw [has_at h hi, rank_at h hi]
theorem rank_back {l : List Pi} (h : Rise l) {i : Nat} (hi : i < l.length) : rankP (l.take i ++ l.drop (i + 1)) l[i].key = i := by
  refine rankP_eq (by simp; omega) (fun q hq hqi => ?_) (fun q hq hqi => ?_)
  · rw [List.getElem_append_left (by simp; omega), List.getElem_take]
    exact h.lt (by omega) hi hqi
  · rw [List.getElem_append_right (by simp; omega), List.getElem_drop]
    have hq2 : i + 1 + (q - (l.take i).length) < l.length := by simp at hq ⊢; omega
    exact ltK_asym (h.lt hi hq2 (by omega))
theorem has_back {l : List Pi} (h : Rise l) {i : Nat} (hi : i < l.length) : hasP' (l.take i ++ l.drop (i + 1)) l[i].key = false := by
  unfold hasP'
  rw [rank_back h hi]
  split
  · rename_i p hp
    rw [List.getElem?_append_right (by simp; omega), List.getElem?_drop] at hp
    obtain ⟨hq, rfl⟩ := List.getElem?_eq_some_iff.1 hp
    have hlt := h.lt hi hq (by omega)
    rw [decide_eq_false]
    intro e
    rw [e, ltK_irr] at hlt
    cases hlt
  · rfl
theorem putT_back {l : List Pi} {room : Int} (h : Rise l) (hr : (l.length : Int) ≤ room) {i : Nat} (hi : i < l.length) : putT ⟨room, l.take i ++ l.drop (i + 1)⟩ l[i].key l[i].v = ⟨room, l⟩ ∧ putE ⟨room, l.take i ++ l.drop (i + 1)⟩ l[i].key = 0 := by
  have hne : ¬ (((l.take i ++ l.drop (i + 1)).length : Int) = room) := by simp; omega
  have e : l.take i ++ ⟨l[i].key, l[i].v⟩ :: l.drop (i + 1) = l := by
    rw [show (⟨l[i].key, l[i].v⟩ : Pi) = l[i] from rfl, List.getElem_cons_drop, List.take_append_drop]
  constructor
  · unfold putT putP
    simp only [has_back h hi, rank_back h hi, decide_eq_false hne]
    have e1 : (l.take i ++ l.drop (i + 1)).take i = l.take i := by
      rw [List.take_append_of_le_length (by simp; omega), List.take_take, Nat.min_self]
    have e2 : (l.take i ++ l.drop (i + 1)).drop i = l.drop (i + 1) := by
      have hX : (l.take i).length = i := by simp; omega
      generalize l.take i = X at *
      rw [← hX, List.drop_left]
    rw [e1, e2, e]
    rfl
  · unfold putE
    simp only [has_back h hi, decide_eq_false hne]
    rfl
theorem putT_ok {t : Tb} (ht : t.ok) (hroom : (t.l.length : Int) ≤ t.room) (h4 : t.room ≤ 4096) (v : Int) (k : ByteArray) : (putT t k v).ok ∧ ((putT t k v).l.length : Int) ≤ t.room ∧ (putT t k v).room = t.room ∧ (putT t k v).l.length ≤ t.l.length + 1 := by
  have h := act_ok ht hroom h4 0 v k
  have e : actT t 0 v k = putT t k v := by unfold actT; simp
  rw [e] at h
  refine ⟨h.1, by rw [← h.2.2]; exact h.2.1, h.2.2, ?_⟩
  unfold putT
  split
  · omega
  · unfold putP
    have := rankP_le t.l k
    split
    · rename_i hh; have := hasP_lt hh; simp; omega
    · simp; omega
theorem not_below {l : List Pi} (h : Rise l) (k : ByteArray) {i : Nat} (hi : i < l.length) (hr : rankP l k ≤ i) : ltK l[i].key k = false := by
  rw [lt_rank h k i hi, decide_eq_false (by omega)]
theorem is_below {l : List Pi} (h : Rise l) (k : ByteArray) {i : Nat} (hi : i < l.length) (hr : i < rankP l k) : ltK l[i].key k = true := by
  rw [lt_rank h k i hi, decide_eq_true (by omega)]
end Go.Proofs.Ytodnlihbmgigjaa
