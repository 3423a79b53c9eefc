/- Plain: what graves keep, whatever is buried and however old they grow. -/
import Derived.Test.YtgjimlgofakbpaaGb4
namespace Go.Proofs.Ytgjimlgofakbpaa
set_option linter.unusedSimpArgs false
set_option linter.unusedVariables false
set_option maxHeartbeats 4000000
open Go Go.Am Go.RowKit
theorem pe_of {k : ByteArray} (p : PE) (h : p.key = k) : (⟨k, p.v⟩ : PE) = p := by cases p; simp only at h; subst h; rfl
theorem mem_has {l : List PE} (h : Ue.Rise l) {p : PE} (hp : p ∈ l) : Ue.hasP' l p.key = true ∧ Ue.getP l p.key = p.v := by
  obtain ⟨i, hi, rfl⟩ := List.getElem_of_mem hp
  have h1 := Ue.has_at h hi
  refine ⟨h1, ?_⟩
  unfold Ue.getP
  rw [h1, Ue.rank_at h hi]
  simp [hi]
theorem has_mem {l : List PE} {k : ByteArray} (h : Ue.hasP' l k = true) : (⟨k, Ue.getP l k⟩ : PE) ∈ l := by
  have hl := Ue.hasP_lt h
  have hg : Ue.getP l k = (l[Ue.rankP l k]).v := by unfold Ue.getP; rw [h]; simp [hl]
  rw [hg, pe_of _ (Ue.hasP_key h)]
  exact List.getElem_mem _
theorem put_self (l : List PE) (k : ByteArray) (v : En) : (⟨k, v⟩ : PE) ∈ Ue.putP l k v := by unfold Ue.putP; split <;> simp
theorem put_of {l : List PE} {k : ByteArray} {v : En} {p : PE} (h : p ∈ Ue.putP l k v) : p = ⟨k, v⟩ ∨ p ∈ l := by
  unfold Ue.putP at h
  split at h
  all_goals
    rcases List.mem_append.1 h with h | h
    · exact .inr (List.mem_of_mem_take h)
    · rcases List.mem_cons.1 h with h | h
      · exact .inl h
      · exact .inr (List.mem_of_mem_drop h)
theorem put_keep {l : List PE} {k : ByteArray} (v : En) {p : PE} (hp : p ∈ l) (hne : p.key ≠ k) : p ∈ Ue.putP l k v := by
  obtain ⟨i, hi, rfl⟩ := List.getElem_of_mem hp
  unfold Ue.putP
  split
  · rename_i hh
    have hk := Ue.hasP_key hh
    rcases Nat.lt_trichotomy i (Ue.rankP l k) with h | h | h
    · exact List.mem_append_left _ (List.mem_iff_getElem.2 ⟨i, by simp; omega, by simp⟩)
    · subst h; exact absurd hk hne
    · exact List.mem_append_right _ (List.mem_cons_of_mem _ (List.mem_iff_getElem.2 ⟨i - (Ue.rankP l k + 1), by simp; omega, by simp only [List.getElem_drop]; congr 1; omega⟩))
  · rcases Nat.lt_or_ge i (Ue.rankP l k) with h | h
    · exact List.mem_append_left _ (List.mem_iff_getElem.2 ⟨i, by simp; omega, by simp⟩)
    · exact List.mem_append_right _ (List.mem_cons_of_mem _ (List.mem_iff_getElem.2 ⟨i - Ue.rankP l k, by simp; omega, by simp only [List.getElem_drop]; congr 1; omega⟩))
theorem put_len (l : List PE) (k : ByteArray) (v : En) : (Ue.putP l k v).length ≤ l.length + 1 := by unfold Ue.putP; split <;> simp <;> omega
theorem put_get {l : List PE} (h : Ue.Rise l) (k : ByteArray) (v : En) (key : ByteArray) : Ue.getP (Ue.putP l k v) key = (if key = k then v else Ue.getP l key) ∧ Ue.hasP' (Ue.putP l k v) key = (decide (key = k) || Ue.hasP' l key) := by
  have h2 := Ue.rise_put h k v
  by_cases hk : key = k
  · subst hk
    obtain ⟨h3, h4⟩ := mem_has h2 (put_self l key v)
    rw [if_pos rfl, decide_eq_true rfl, h3]
    exact ⟨h4, rfl⟩
  · rw [if_neg hk, decide_eq_false hk, Bool.false_or]
    cases hh : Ue.hasP' l key with
    | true =>
      obtain ⟨h3, h4⟩ := mem_has h2 (put_keep v (has_mem hh) hk)
      exact ⟨h4, h3⟩
    | false =>
      have h3 : Ue.hasP' (Ue.putP l k v) key = false := by
        cases h5 : Ue.hasP' (Ue.putP l k v) key with
        | false => rfl
        | true =>
          rcases put_of (has_mem h5) with h6 | h6
          · exact absurd (congrArg (·.key) h6) hk
          · have := (mem_has h h6).1
            simp only at this
            rw [hh] at this; cases this
      refine ⟨?_, h3⟩
      unfold Ue.getP
      rw [h3, hh]
theorem laterS_irr (a : St) : laterB a a = false := by unfold laterB; simp
/-- What graves keep. -/
structure GI (k : Nat) (t2 : Int) (l : List PE) : Prop where
  rise : Ue.Rise l
  key : ∀ p ∈ l, p.v.key = p.key
  dead : ∀ p ∈ l, p.v.dead = true
  age : ∀ p ∈ l, 0 ≤ p.v.age ∧ p.v.age < t2
  keep : ∀ p ∈ l, p.v.keep ≤ 4095 ∧ rdutyB p.v k = true
theorem gi_nil (k : Nat) (t2 : Int) : GI k t2 [] := by constructor <;> simp [Ue.Rise]
theorem GI.ok {k : Nat} {t2 : Int} {l : List PE} (h : GI k t2 l) (h2 : t2 ≤ 2147483647) : GOk l := ⟨h.rise, h.key, fun p hp => by have := h.age p hp; omega⟩
theorem not_refused {k : Nat} {t2 : Int} {e : En} (h : refused k t2 e = false) : checkI e = 0 ∧ dutyB e k = true ∧ e.age < t2 := by
  unfold refused at h
  simp at h
  exact ⟨h.1, h.2.1, h.2.2⟩
theorem duty_dead {e : En} {i : Int} (h : dutyB e i = true) : e.dead = true := by
  unfold dutyB at h
  cases hq : e.dead with
  | true => rfl
  | false => rw [hq] at h; simp at h
theorem bury_gi {k : Nat} {t2 : Int} {l : List PE} (h : GI k t2 l) (e : En) : GI k t2 (buryL k t2 l e) := by
  unfold buryL
  split
  case isFalse => exact h
  rename_i hb
  have hrf : refused k t2 e = false := by
    unfold buryB at hb
    cases hq : refused k t2 e with
    | false => rfl
    | true => rw [hq] at hb; simp at hb
  obtain ⟨hc, hd, ha⟩ := not_refused hrf
  have hdd := duty_dead hd
  obtain ⟨-, hk2, ha2, -⟩ := check_kept hc hdd
  rw [duty_eq hc] at hd
  have hv : (buryV l e).key = e.key ∧ (buryV l e).dead = true ∧ (0 ≤ (buryV l e).age ∧ (buryV l e).age < t2) ∧ ((buryV l e).keep ≤ 4095 ∧ rdutyB (buryV l e) k = true) := by
    unfold buryV
    split
    · rename_i hq
      have hm := has_mem hq.1
      have g1 := h.key _ hm
      have g2 := h.dead _ hm
      have g3 := h.age _ hm
      have g4 := h.keep _ hm
      simp only at g1 g2 g3 g4
      refine ⟨g1, g2, ?_, g4⟩
      unfold bothE
      simp only
      split <;> omega
    · exact ⟨rfl, hdd, ⟨ha2, ha⟩, hk2, hd⟩
  refine ⟨Ue.rise_put h.rise _ _, ?_, ?_, ?_, ?_⟩
  all_goals
    intro p hp
    rcases put_of hp with rfl | hp
  · exact hv.1
  · exact h.key p hp
  · exact hv.2.1
  · exact h.dead p hp
  · exact hv.2.2.1
  · exact h.age p hp
  · exact hv.2.2.2
  · exact h.keep p hp
theorem bury_len (k : Int) (t2 : Int) (l : List PE) (e : En) : (buryL k t2 l e).length ≤ l.length + 1 := by
  unfold buryL
  split
  · exact put_len _ _ _
  · omega
theorem bury_st {k : Nat} {t2 : Int} {l : List PE} (h : GI k t2 l) (e : En) (key : ByteArray) (hh : Ue.hasP' l key = true) : laterB (Ue.getP l key).st (Ue.getP (buryL k t2 l e) key).st = false := by
  unfold buryL
  split
  case isFalse => exact laterS_irr _
  rename_i hb
  rw [(put_get h.rise e.key (buryV l e) key).1]
  by_cases hk : key = e.key
  · rw [if_pos hk]
    subst hk
    unfold buryB at hb
    rw [if_pos hh] at hb
    unfold buryV
    split
    · exact laterS_irr _
    · simp at hb; exact hb.2.1
  · rw [if_neg hk]; exact laterS_irr _
theorem tick_mem {t2 : Int} {l : List PE} {p : PE} (h : p ∈ tickL t2 l) : ∃ q ∈ l, q.v.age + 1 < t2 ∧ p = ⟨q.key, agedE q.v⟩ := by
  unfold tickL at h
  obtain ⟨q, hq, rfl⟩ := List.mem_map.1 h
  obtain ⟨h1, h2⟩ := List.mem_filter.1 hq
  exact ⟨q, h1, of_decide_eq_true h2, rfl⟩
theorem tick_gi {k : Nat} {t2 : Int} {l : List PE} (h : GI k t2 l) : GI k t2 (tickL t2 l) := by
  refine ⟨?_, ?_, ?_, ?_, ?_⟩
  · exact rise_keys.2 ((rise_keys.1 h.rise).sublist (tick_keys t2 l))
  all_goals
    intro p hp
    obtain ⟨q, hq, ha, rfl⟩ := tick_mem hp
  · exact h.key q hq
  · exact h.dead q hq
  · have := h.age q hq; simp only; omega
  · exact h.keep q hq
theorem tick_st {k : Nat} {t2 : Int} {l : List PE} (h : GI k t2 l) (key : ByteArray) (h2 : Ue.hasP' (tickL t2 l) key = true) : laterB (Ue.getP l key).st (Ue.getP (tickL t2 l) key).st = false := by
  obtain ⟨q, hq, ha, e⟩ := tick_mem (has_mem h2)
  have e1 := congrArg (·.key) e
  have e2 := congrArg (·.v) e
  simp only at e1 e2
  have h3 := (mem_has h.rise hq).2
  rw [← e1] at h3
  rw [e2, h3]
  exact laterS_irr _
theorem has_no {l : List PE} {key : ByteArray} (h : Ue.hasP' l key = false) : Ue.getP l key = Ue.noE := by unfold Ue.getP; rw [h]
end Go.Proofs.Ytgjimlgofakbpaa
