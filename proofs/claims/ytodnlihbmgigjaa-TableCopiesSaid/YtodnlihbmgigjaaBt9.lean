/- The walk of TablePlays. -/
import Derived.Test.YtodnlihbmgigjaaBt8
namespace Go.Proofs.Ytodnlihbmgigjaa
set_option linter.unusedSimpArgs false
set_option linter.unusedVariables false
set_option maxHeartbeats 4000000
open Go Go.Am Go.RowKit Go.ChangeShapes Go.WideShapes Go.ChangeAt
set_option maxRecDepth 100000
theorem rise_drop {l : List Pi} (h : Rise l) (k : ByteArray) : Rise (dropP l k) := by
  unfold dropP
  split
  · rw [← List.eraseIdx_eq_take_drop_succ]; exact List.Pairwise.sublist (List.eraseIdx_sublist _ _) h
  · exact h
theorem rise_put {l : List Pi} (h : Rise l) (k : ByteArray) (v : Int) : Rise (putP l k v) := by
  have hta : ∀ a ∈ l.take (rankP l k), ltK a.key k = true := fun a ha => by
    obtain ⟨q, hq, rfl⟩ := List.getElem_of_mem ha
    have hq1 : q < rankP l k := by simp at hq; omega
    have hq2 : q < l.length := by simp at hq; omega
    rw [List.getElem_take, lt_rank h k q hq2]; simpa using hq1
  have hcut : ∀ m, (∀ b ∈ l.drop m, ltK k b.key = true) → rankP l k ≤ m → Rise (l.take (rankP l k) ++ ⟨k, v⟩ :: l.drop m) := fun m hb hm => by
    unfold Rise
    rw [List.pairwise_append, List.pairwise_cons]
    refine ⟨List.Pairwise.sublist (List.take_sublist _ _) h, ⟨hb, List.Pairwise.sublist (List.drop_sublist _ _) h⟩, fun a ha b hb' => ?_⟩
    rcases List.mem_cons.1 hb' with rfl | hb'
    · exact hta a ha
    · exact ltK_trans (hta a ha) (hb b hb')
  have hgt : ∀ q (hq : q < l.length), rankP l k ≤ q → l[q].key ≠ k → ltK k l[q].key = true := fun q hq hrq hne => by
    cases e : ltK k l[q].key with
    | true => rfl
    | false =>
      have e2 := lt_rank h k q hq
      rw [decide_eq_false (by omega)] at e2
      exact absurd (ltK_tri e2 e) hne
  have hne : ∀ q (hq : q < l.length), l[q].key = k → rankP l k = q := fun q hq e => by rw [← e]; exact rank_at h hq
  unfold putP
  split
  · refine hcut _ (fun b hb => ?_) (by omega)
    obtain ⟨q, hq, rfl⟩ := List.getElem_of_mem hb
    have hq2 : rankP l k + 1 + q < l.length := by simp at hq; omega
    rw [List.getElem_drop]
    exact hgt _ hq2 (by omega) fun e => by have := hne _ hq2 e; omega
  · rename_i hh
    refine hcut _ (fun b hb => ?_) (Nat.le_refl _)
    obtain ⟨q, hq, rfl⟩ := List.getElem_of_mem hb
    have hq2 : rankP l k + q < l.length := by simp at hq; omega
    rw [List.getElem_drop]
    refine hgt _ hq2 (by omega) fun e => ?_
    have h1 := has_at h hq2
    rw [e] at h1
    rw [h1] at hh; cases hh
theorem act_ok {t : Tb} (ht : t.ok) (hroom : (t.l.length : Int) ≤ t.room) (h4 : t.room ≤ 4096) (kind v : Int) (k : ByteArray) : (actT t kind v k).ok ∧ ((actT t kind v k).l.length : Int) ≤ (actT t kind v k).room ∧ (actT t kind v k).room = t.room := by
  have hd : (dropP t.l k).length ≤ t.l.length := by unfold dropP; split <;> simp <;> omega
  unfold actT
  split
  · unfold putT
    split
    · exact ⟨ht, hroom, rfl⟩
    · rename_i hf
      have hp : ((putP t.l k v).length : Int) ≤ t.room := by
        unfold putP
        split
        · rename_i hh; have := hasP_lt hh; simp; omega
        · rename_i hh
          rw [hh] at hf
          have := rankP_le t.l k
          have : (t.l.length : Int) ≠ t.room := fun e => by rw [decide_eq_true e] at hf; cases hf
          simp; omega
      exact ⟨⟨rise_put ht.1 k v, by simp only; omega⟩, hp, rfl⟩
  · split
    · exact ⟨⟨rise_drop ht.1 k, by simp only; omega⟩, by simp only; omega, rfl⟩
    · exact ⟨ht, hroom, rfl⟩
end Go.Proofs.Ytodnlihbmgigjaa
