/- An index of marks: plain laws. -/
import Derived.Test.YtgjimlgofakbpaaBr3
namespace Go.Proofs.Ytgjimlgofakbpaa
set_option linter.unusedSimpArgs false
set_option linter.unusedVariables false
set_option maxHeartbeats 4000000
open Go Go.Am Go.RowKit
set_option maxRecDepth 100000
abbrev EsI (e : List Mk) : List (AV × AV) := e.map fun m => (Str m.key, StA m.act)
theorem esI_ren (l : List Mk) (ρ : List Nat) : renE ρ (EsI l) = EsI l := by
  induction l with
  | nil => rfl
  | cons m l ih => simp only [EsI, List.map_cons, renE] at ih ⊢; rw [ih]; simp [ren, renL]
theorem ba_dec (a b : ByteArray) : (a == b) = decide (a = b) := by
  by_cases h : a = b
  · rw [decide_eq_true h]; exact (ba_iff a b).2 h
  · rw [decide_eq_false h]
    cases e : (a == b) with
    | false => rfl
    | true => exact absurd ((ba_iff a b).1 e) h
theorem key_ix (a b : ByteArray) : eqKey [(0, 1)] (Str a) (Str b) = some (decide (a = b)) := by
  rw [← ba_dec]
  simp [eqKey, eqLeaf]
theorem key_same (a : ByteArray) : eqKey [(0, 1)] (Str a) (Str a) = some true := by rw [key_ix]; simp
/-- A key's mark. -/
def getX (e : List Mk) (k : ByteArray) : Option Mk := e.find? fun m => decide (k = m.key)
/-- Without a key's mark. -/
def dropF (e : List Mk) (k : ByteArray) : List Mk := e.filter fun m => !decide (k = m.key)
theorem find_ix (k : ByteArray) : ∀ e : List Mk, findA [(0, 1)] (Str k) (EsI e) = some ((getX e k).map fun m => StA m.act)
  | [] => rfl
  | a :: l => by
    have ih := find_ix k l
    simp only [EsI, getX] at ih
    simp only [EsI, List.map_cons, findA, key_ix, getX, List.find?_cons]
    by_cases h : k = a.key
    · rw [decide_eq_true h]; rfl
    · rw [decide_eq_false h]; exact ih
theorem upd_ix (m : Mk) : ∀ {e : List Mk}, (∀ a ∈ e, m.key ≠ a.key) → updA [(0, 1)] (Str m.key) (StA m.act) (EsI e) = some (EsI (e ++ [m]))
  | [], _ => rfl
  | a :: l, hn => by
    have ih := upd_ix m (e := l) fun b hb => hn b (List.mem_cons_of_mem _ hb)
    simp only [EsI] at ih
    simp only [EsI, List.map_cons, updA, key_ix, decide_eq_false (hn a (by simp)), ih]
    simp
theorem dropF_self {e : List Mk} {k : ByteArray} (h : ∀ a ∈ e, k ≠ a.key) : dropF e k = e := by
  unfold dropF
  rw [List.filter_eq_self]
  intro a ha
  simp [h a ha]
theorem del_ix (k : ByteArray) : ∀ {e : List Mk}, (e.map (·.key)).Nodup → delA [(0, 1)] (Str k) (EsI e) = some (EsI (dropF e k))
  | [], _ => rfl
  | a :: l, hn => by
    rw [List.map_cons, List.nodup_cons] at hn
    have ih := del_ix k hn.2
    simp only [EsI] at ih
    simp only [EsI, List.map_cons, delA, key_ix]
    by_cases h : k = a.key
    · have hs : dropF (a :: l) k = l := by
        have := dropF_self (e := l) (k := k) fun b hb e => hn.1 (by rw [← h, e]; exact List.mem_map_of_mem hb)
        unfold dropF at this ⊢
        rw [List.filter_cons_of_neg (by simp [h]), this]
      rw [hs, decide_eq_true h]
    · have hs : dropF (a :: l) k = a :: dropF l k := by unfold dropF; rw [List.filter_cons_of_pos (by simp [h])]
      rw [hs, decide_eq_false h, ih]
      rfl
theorem getX_some {e : List Mk} {k : ByteArray} {m : Mk} (h : getX e k = some m) : m ∈ e ∧ m.key = k := by
  unfold getX at h
  have h1 := List.mem_of_find?_eq_some h
  have h2 := List.find?_some h
  exact ⟨h1, (of_decide_eq_true h2).symm⟩
theorem getX_none {e : List Mk} {k : ByteArray} (h : getX e k = none) : ∀ a ∈ e, k ≠ a.key := fun a ha => by
  unfold getX at h
  have := List.find?_eq_none.1 h a ha
  simpa using this
theorem rankM_at {l : List Mk} (hs : RiseM l) {i : Nat} (h : i < l.length) : rankM l l[i] = i :=
  rankM_eq (by omega) (fun q hq hqi => hs.lt hq h hqi) fun q hq hiq => by
    rcases Nat.lt_or_eq_of_le hiq with h' | rfl
    · exact latM_asym (hs.lt h hq h')
    · exact latM_irr _
theorem hasM_at {l : List Mk} (hs : RiseM l) {i : Nat} (h : i < l.length) : hasM l l[i] = true := by
  unfold hasM
  rw [rankM_at hs h, List.getElem?_eq_getElem h]
  simp
theorem lat_rank {l : List Mk} (hs : RiseM l) (k : Mk) : ∀ (i : Nat) (h : i < l.length), latM l[i] k = decide (i < rankM l k) := by
  intro i hi
  have hw : ∀ {l : List Mk}, RiseM l → ∀ (i : Nat) (h : i < l.length), latM l[i] k = decide (i < (l.takeWhile fun p => latM p k).length) := by
    intro l
    induction l with
    | nil => intro _ i h; simp at h
    | cons a l ih =>
      intro hs i h
      rw [RiseM, List.pairwise_cons] at hs
      cases e : latM a k with
      | true =>
        simp only [List.takeWhile_cons, e]
        cases i with
        | zero => simpa using e
        | succ i =>
          have := ih hs.2 i (by simpa using h)
          simp only [List.getElem_cons_succ, this]
          simp
      | false =>
        simp only [List.takeWhile_cons, e]
        have hall : ∀ b ∈ a :: l, latM b k = false := fun b hb => by
          rcases List.mem_cons.1 hb with rfl | hb
          · exact e
          · cases e2 : latM b k with
            | false => rfl
            | true => rw [latM_trans (hs.1 b hb) e2] at e; cases e
        rw [hall _ (List.getElem_mem h)]
        simp
  exact hw hs i hi
theorem drop_ix {l : List Mk} (nod : (l.map (·.key)).Nodup) {i : Nat} (h : i < l.length) : l.take i ++ l.drop (i + 1) = dropF l l[i].key := by
  have e : l = l.take i ++ l[i] :: l.drop (i + 1) := by rw [List.getElem_cons_drop, List.take_append_drop]
  generalize l[i] = m at *
  generalize l.take i = X at *
  generalize l.drop (i + 1) = Y at *
  subst e
  rw [List.map_append, List.map_cons, List.nodup_append, List.nodup_cons] at nod
  obtain ⟨-, ⟨n1, -⟩, n2⟩ := nod
  have hX := dropF_self (e := X) (k := m.key) fun a ha e => n2 _ (List.mem_map_of_mem ha) _ (by simp) e.symm
  have hY := dropF_self (e := Y) (k := m.key) fun a ha e => n1 (by rw [e]; exact List.mem_map_of_mem ha)
  unfold dropF at *
  rw [List.filter_append, List.filter_cons_of_neg (by simp), hX, hY]
/-- An index: the map's marks, and all, the latest first. -/
structure Ix where
  e : List Mk
  l : List Mk
structure Ix.ok (x : Ix) : Prop where
  rise : RiseM x.l
  perm : x.e.Perm x.l
  nod : (x.l.map (·.key)).Nodup
theorem Ix.ok.nodE {x : Ix} (h : x.ok) : (x.e.map (·.key)).Nodup := (h.perm.map _).nodup_iff.2 h.nod
/-- A mark put in its place. -/
def insM (l : List Mk) (m : Mk) : List Mk := l.take (rankM l m) ++ m :: l.drop (rankM l m)
def dropX (x : Ix) (k : ByteArray) : Ix := ⟨dropF x.e k, dropF x.l k⟩
def putX (x : Ix) (m : Mk) : Ix := ⟨dropF x.e m.key ++ [m], insM (dropF x.l m.key) m⟩
theorem dropF_sub (l : List Mk) (k : ByteArray) : (dropF l k).Sublist l := List.filter_sublist
theorem dropF_key {l : List Mk} {k : ByteArray} {a : Mk} (h : a ∈ dropF l k) : k ≠ a.key := by
  have := (List.mem_filter.1 h).2
  simpa using this
theorem Ix.ok.drop {x : Ix} (h : x.ok) (k : ByteArray) : (dropX x k).ok :=
  ⟨List.Pairwise.sublist (dropF_sub _ _) h.rise, h.perm.filter _, List.Pairwise.sublist ((dropF_sub x.l k).map _) h.nod⟩
theorem rise_insM {l : List Mk} (h : RiseM l) {m : Mk} (hm : m ∉ l) : RiseM (insM l m) := by
  have hr := rankM_le l m
  unfold RiseM insM
  rw [List.pairwise_append, List.pairwise_cons]
  have hta : ∀ a ∈ l.take (rankM l m), latM a m = true := fun a ha => by
    obtain ⟨q, hq, rfl⟩ := List.getElem_of_mem ha
    have hq1 : q < rankM l m := by simp at hq; omega
    have hq2 : q < l.length := by simp at hq; omega
    rw [List.getElem_take, lat_rank h m q hq2]; simpa using hq1
  have hdr : ∀ a ∈ l.drop (rankM l m), latM m a = true := fun a ha => by
    have hal := List.mem_of_mem_drop ha
    obtain ⟨q, hq, rfl⟩ := List.getElem_of_mem ha
    have hq2 : rankM l m + q < l.length := by simp at hq; omega
    rw [List.getElem_drop] at hal ⊢
    have e1 := lat_rank h m _ hq2
    rw [decide_eq_false (by omega)] at e1
    cases e2 : latM m l[rankM l m + q] with
    | true => rfl
    | false => rw [← latM_tri e1 e2] at hm; exact absurd hal hm
  refine ⟨List.Pairwise.sublist (List.take_sublist _ _) h, ⟨hdr, List.Pairwise.sublist (List.drop_sublist _ _) h⟩, fun a ha b hb => ?_⟩
  rcases List.mem_cons.1 hb with rfl | hb
  · exact hta a ha
  · exact latM_trans (hta a ha) (hdr b hb)
theorem perm_insM (l : List Mk) (m : Mk) : (insM l m).Perm (m :: l) := by
  unfold insM
  refine List.perm_middle.trans ?_
  rw [List.take_append_drop]
theorem Ix.ok.put {x : Ix} (h : x.ok) (m : Mk) : (putX x m).ok := by
  have hd := h.drop m.key
  have hm : m ∉ dropF x.l m.key := fun hm => dropF_key hm rfl
  refine ⟨rise_insM hd.rise hm, ?_, ?_⟩
  · refine List.Perm.trans ?_ (perm_insM _ m).symm
    exact (List.perm_append_comm (l₁ := dropF x.e m.key) (l₂ := [m])).trans (List.Perm.cons m hd.perm)
  · show ((insM (dropF x.l m.key) m).map (·.key)).Nodup
    rw [((perm_insM (dropF x.l m.key) m).map (·.key)).nodup_iff, List.map_cons, List.nodup_cons]
    refine ⟨fun hk => ?_, hd.nod⟩
    obtain ⟨a, ha, e⟩ := List.mem_map.1 hk
    exact dropF_key ha e.symm
theorem dropF_le (l : List Mk) (k : ByteArray) : (dropF l k).length ≤ l.length := (dropF_sub l k).length_le
theorem putX_len (x : Ix) (m : Mk) : (putX x m).l.length ≤ x.l.length + 1 := by
  have h1 := (perm_insM (dropF x.l m.key) m).length_eq
  have h2 := dropF_le x.l m.key
  simp only [putX]
  rw [h1]
  simp; omega
abbrev zeroM : Mk := ⟨⟨0, 0⟩, ⟨#[]⟩⟩
/-- What is later than a mark, and it, are passed over; of the zero mark nothing. -/
def cutM (l : List Mk) (m : Mk) : Nat := if m = zeroM then 0 else rankM l m + (if hasM l m = true then 1 else 0)
theorem hasM_lt {l : List Mk} {k : Mk} (h : hasM l k = true) : rankM l k < l.length := by
  unfold hasM at h
  split at h
  · rename_i p hp; exact (List.getElem?_eq_some_iff.1 hp).1
  · cases h
theorem hasM_eq {l : List Mk} {k : Mk} (h : hasM l k = true) : l[rankM l k]'(hasM_lt h) = k := by
  have hl := hasM_lt h
  unfold hasM at h
  rw [List.getElem?_eq_getElem hl] at h
  exact of_decide_eq_true h
theorem cutM_le (l : List Mk) (m : Mk) : cutM l m ≤ l.length := by
  unfold cutM
  have := rankM_le l m
  split
  · omega
  · split
    · rename_i h; have := hasM_lt h; omega
    · omega
def belowM (l : List Mk) (m : Mk) (n : Int) : List Mk := (l.drop (cutM l m)).take (min (max n 0).toNat (l.length - cutM l m))
theorem filter_drop {α : Type} (p : α → Bool) : ∀ (l : List α) (j : Nat), (∀ i (h : i < l.length), p l[i] = decide (j ≤ i)) → l.filter p = l.drop j
  | [], j, _ => by simp
  | a :: l, 0, h => by
    rw [List.drop_zero, List.filter_eq_self]
    intro x hx
    obtain ⟨i, hi, rfl⟩ := List.getElem_of_mem hx
    rw [h i hi]; simp
  | a :: l, j + 1, h => by
    have h0 := h 0 (by simp)
    simp only [List.getElem_cons_zero] at h0
    rw [List.filter_cons_of_neg (by rw [h0]; simp), List.drop_succ_cons]
    refine filter_drop p l j fun i hi => ?_
    have := h (i + 1) (by simp only [List.length_cons]; omega)
    simpa using this
/-- By definition: those that are earlier. -/
theorem below_def {l : List Mk} (h : RiseM l) (m : Mk) (n : Int) : belowM l m n = (l.filter fun a => decide (m = zeroM) || latM m a).take (max n 0).toNat := by
  have hc : (l.filter fun a => decide (m = zeroM) || latM m a) = l.drop (cutM l m) := by
    refine filter_drop _ l _ fun i hi => ?_
    unfold cutM
    by_cases hz : m = zeroM
    · rw [if_pos hz, decide_eq_true hz]; simp
    · rw [if_neg hz, decide_eq_false hz, Bool.false_or]
      have e1 := lat_rank h m i hi
      by_cases hir : i < rankM l m
      · rw [decide_eq_true hir] at e1
        rw [latM_asym e1, decide_eq_false (by split <;> omega)]
      · rw [decide_eq_false hir] at e1
        by_cases hh : hasM l m = true
        · have e2 := hasM_eq hh
          have hlt := hasM_lt hh
          rw [if_pos hh]
          by_cases hie : i = rankM l m
          · subst hie; rw [e2, latM_irr, decide_eq_false (by omega)]
          · have := h.lt hlt hi (by omega)
            rw [e2] at this
            rw [this, decide_eq_true (by omega)]
        · rw [if_neg hh, decide_eq_true (by omega)]
          cases e3 : latM m l[i] with
          | true => rfl
          | false =>
            have e4 := latM_tri e1 e3
            have := hasM_at h hi
            rw [e4] at this
            exact absurd this hh
  rw [hc]
  unfold belowM
  have hl := cutM_le l m
  rw [← List.take_length (l := l.drop (cutM l m)), List.take_take, List.length_drop]
  rw [List.take_take]
  congr 1
  omega
end Go.Proofs.Ytgjimlgofakbpaa
