/- Plain law: the program's map of entries is the document's. -/
import Derived.Test.YtbblpmkdhdnkhaaWm5
import Derived.Test.YtbblpmkdhdnkhaaWm1
namespace Go.Proofs.Ytbblpmkdhdnkhaa
set_option linter.unusedSimpArgs false
set_option linter.unusedVariables false
set_option maxHeartbeats 4000000
open Go Go.Am Go.RowKit
set_option maxRecDepth 100000
def vM (l : List En) (M : List (ByteArray × Int)) : List En := M.filterMap fun p => l[p.2.toNat]?
theorem vM_range (l : List En) (M : List (ByteArray × Int)) : mpO l M (List.range M.length) = vM l M := by
  unfold mpO vM
  have : ∀ (N M : List (ByteArray × Int)), (List.range' N.length M.length).filterMap (fun j => ((N ++ M)[j]?).bind fun p => l[p.2.toNat]?) = M.filterMap fun p => l[p.2.toNat]? := by
    intro N M
    induction M generalizing N with
    | nil => simp
    | cons p M ih =>
      rw [List.length_cons, List.range'_succ, List.filterMap_cons, List.filterMap_cons]
      have e1 : (N ++ p :: M)[N.length]? = some p := by simp
      rw [e1, Option.bind_some]
      have := ih (N ++ [p])
      rw [List.length_append, List.length_singleton, List.append_assoc, List.singleton_append] at this
      rw [this]
  have := this [] M
  rw [List.length_nil, List.nil_append, ← List.range_eq_range'] at this
  exact this
def okM (l : List En) (M : List (ByteArray × Int)) : Prop := ∀ p ∈ M, ∃ j, ∃ h : j < l.length, p.2 = (j : Int) ∧ l[j].key = p.1
theorem vM_cons {l : List En} {p : ByteArray × Int} {M : List (ByteArray × Int)} (h : okM l (p :: M)) : ∃ x, x.key = p.1 ∧ l[p.2.toNat]? = some x ∧ vM l (p :: M) = x :: vM l M := by
  obtain ⟨j, hj, e1, e2⟩ := h p List.mem_cons_self
  have e3 : l[p.2.toNat]? = some l[j] := by rw [e1, show ((j : Int)).toNat = j by omega, List.getElem?_eq_getElem hj]
  refine ⟨l[j], e2, e3, ?_⟩
  unfold vM
  rw [List.filterMap_cons, e3]
theorem vM_keys {l : List En} : ∀ {M : List (ByteArray × Int)}, okM l M → (vM l M).map (·.key) = M.map (·.1)
  | [], _ => rfl
  | p :: M, h => by
    obtain ⟨x, h1, -, h2⟩ := vM_cons h
    rw [h2, List.map_cons, List.map_cons, h1, vM_keys fun q hq => h q (List.mem_cons_of_mem _ hq)]
theorem vM_upd {l : List En} {k : ByteArray} {n : Nat} (hn : n < l.length) : ∀ {M : List (ByteArray × Int)}, okM l M → (M.map (·.1)).Nodup → (vM l (updG k (n : Int) M)).Perm (l[n] :: (vM l M).filter fun x => decide (x.key ≠ k))
  | [], _, _ => by
    unfold updG vM
    simp [List.getElem?_eq_getElem hn]
  | p :: M, h, hk => by
    obtain ⟨x, h1, h3, h2⟩ := vM_cons h
    have h' : okM l M := fun q hq => h q (List.mem_cons_of_mem _ hq)
    simp only [List.map_cons, List.nodup_cons] at hk
    rw [h2]
    unfold updG
    by_cases e : k = p.1
    · rw [if_pos e]
      have e1 : vM l ((k, (n : Int)) :: M) = l[n] :: vM l M := by
        unfold vM
        rw [List.filterMap_cons]
        simp only
        rw [show ((n : Int)).toNat = n by omega, List.getElem?_eq_getElem hn]
      rw [e1, List.filter_cons, if_neg (by simp [h1, e])]
      rw [List.filter_eq_self.2 fun y hy => ?_]
      rw [decide_eq_true_iff]
      intro hy2
      apply hk.1
      rw [← e, ← hy2, ← vM_keys h']
      exact List.mem_map_of_mem hy
    · rw [if_neg e]
      have ih := vM_upd (k := k) hn h' hk.2
      have e1 : vM l (p :: updG k (n : Int) M) = x :: vM l (updG k (n : Int) M) := by
        unfold vM
        rw [List.filterMap_cons, h3]
      rw [e1, List.filter_cons, if_pos (by rw [decide_eq_true_iff, h1]; exact fun h => e h.symm)]
      exact (ih.cons x).trans (List.Perm.swap _ _ _)
/-- What is set. -/
theorem setP_perm (e : En) (l : List En) : ∀ n, n ≤ l.length → (setP e l n).1.Perm ((if (setP e l n).2 = true then [e] else []) ++ (l.take n).filter fun x => decide (x.key ≠ e.key))
  | 0, _ => by simp [setP]
  | n + 1, hn => by
    rw [setP_succ (by omega)]
    have ih := setP_perm e l n (by omega)
    have ht : l.take (n + 1) = l.take n ++ [l[n]] := by rw [List.take_add_one, List.getElem?_eq_getElem (by omega)]; rfl
    rw [ht, List.filter_append]
    generalize setP e l n = p at *
    generalize (l.take n).filter _ = F at *
    generalize l[n] = x at *
    obtain ⟨out, dn⟩ := p
    have hf0 : x.key = e.key → [x].filter (fun x => decide (x.key ≠ e.key)) = [] := fun h => by simp [h]
    have hf1 : ¬x.key = e.key → [x].filter (fun x => decide (x.key ≠ e.key)) = [x] := fun h => by simp [h]
    simp only at ih ⊢
    by_cases h1 : dn = false ∧ ltK x.key e.key = false
    · rw [if_pos h1]
      rw [h1.1] at ih
      simp only [Bool.false_eq_true, if_false, List.nil_append] at ih
      have i2 : (out ++ [e]).Perm (e :: F) := (List.perm_append_comm).trans (ih.cons e)
      by_cases h2 : x.key = e.key
      · rw [hf0 h2]
        simp only [if_pos h2, if_true]
        simpa using i2
      · rw [hf1 h2]
        simp only [if_neg h2, if_true]
        simpa using i2.append_right [x]
    · rw [if_neg h1]
      by_cases h2 : x.key = e.key
      · rw [hf0 h2, List.append_nil]
        simp only [if_pos h2]
        exact ih
      · rw [hf1 h2, ← List.append_assoc]
        simp only [if_neg h2]
        exact ih.append_right [x]
theorem setR_perm (e : En) (l : List En) : (setR e l).Perm (e :: l.filter fun x => decide (x.key ≠ e.key)) := by
  have h := setP_perm e l l.length (Nat.le_refl _)
  rw [List.take_length] at h
  unfold setR
  split
  · rename_i h1; rw [if_pos h1] at h; exact h
  · rename_i h1
    rw [if_neg h1, List.nil_append] at h
    exact (List.perm_append_comm).trans (h.cons e)
/-- Keys that rise. -/
def RiseE (l : List En) : Prop := l.Pairwise fun x y => ltK x.key y.key = true
theorem setP_rise {e : En} {l : List En} (hr : RiseE l) : ∀ n, n ≤ l.length → RiseE (setP e l n).1 ∧ ((setP e l n).2 = false → (setP e l n).1 = l.take n ∧ ∀ y ∈ l.take n, ltK y.key e.key = true) ∧ ((setP e l n).2 = true → ∀ y ∈ (setP e l n).1, ∀ m (h : m < l.length), n ≤ m → ltK y.key l[m].key = true)
  | 0, _ => by simp [setP, RiseE]
  | n + 1, hn => by
    have hnl : n < l.length := by omega
    rw [setP_succ hnl]
    obtain ⟨i1, i2, i3⟩ := setP_rise (e := e) hr n (by omega)
    have ht : l.take (n + 1) = l.take n ++ [l[n]] := by rw [List.take_add_one, List.getElem?_eq_getElem (by omega)]; rfl
    have hlt : ∀ m (h : m < l.length), n + 1 ≤ m → ltK l[n].key l[m].key = true := fun m h hm => List.pairwise_iff_getElem.1 hr n m hnl h (by omega)
    have hbe : ∀ y ∈ l.take n, ltK y.key l[n].key = true := fun y hy => by
      obtain ⟨q, hq, rfl⟩ := List.mem_iff_getElem.1 hy
      rw [List.length_take] at hq
      rw [List.getElem_take]
      exact List.pairwise_iff_getElem.1 hr q n (by omega) hnl (by omega)
    have i4 : (setP e l n).2 = true → ∀ y ∈ (setP e l n).1, ltK y.key l[n].key = true := fun h y hy => i3 h y hy n hnl (Nat.le_refl _)
    rw [ht]
    generalize setP e l n = p at *
    generalize l.take n = F at *
    generalize l[n] = x at *
    obtain ⟨out, dn⟩ := p
    simp only at i1 i2 i3 i4 ⊢
    have app : ∀ {A : List En} {z : En}, RiseE A → (∀ y ∈ A, ltK y.key z.key = true) → RiseE (A ++ [z]) := fun {A z} h1 h2 => by
      unfold RiseE
      rw [List.pairwise_append]
      exact ⟨h1, by simp, fun a ha b hb => by simp only [List.mem_singleton] at hb; rw [hb]; exact h2 a ha⟩
    by_cases h1 : dn = false ∧ ltK x.key e.key = false
    · rw [if_pos h1]
      obtain ⟨j1, j2⟩ := i2 h1.1
      simp only
      have r1 : RiseE (out ++ [e]) := app i1 (by rw [j1]; exact j2)
      by_cases h2 : x.key = e.key
      · rw [if_pos h2]
        refine ⟨r1, fun h => (by cases h), fun _ y hy m hm hnm => ?_⟩
        rcases List.mem_append.1 hy with hy | hy
        · rw [j1] at hy
          exact ltK_trans (hbe y hy) (hlt m hm hnm)
        · simp only [List.mem_singleton] at hy
          rw [hy, ← h2]
          exact hlt m hm hnm
      · rw [if_neg h2]
        have hex : ltK e.key x.key = true := by
          cases h : ltK e.key x.key with
          | true => rfl
          | false => exact absurd (ltK_tri h1.2 h) h2
        refine ⟨app r1 fun y hy => ?_, fun h => (by cases h), fun _ y hy m hm hnm => ?_⟩
        · rcases List.mem_append.1 hy with hy | hy
          · rw [j1] at hy; exact hbe y hy
          · simp only [List.mem_singleton] at hy; rw [hy]; exact hex
        · rcases List.mem_append.1 hy with hy | hy
          · rcases List.mem_append.1 hy with hy | hy
            · rw [j1] at hy; exact ltK_trans (hbe y hy) (hlt m hm hnm)
            · simp only [List.mem_singleton] at hy; rw [hy]; exact ltK_trans hex (hlt m hm hnm)
          · simp only [List.mem_singleton] at hy; rw [hy]; exact hlt m hm hnm
    · rw [if_neg h1]
      simp only
      cases dn with
      | false =>
        obtain ⟨j1, j2⟩ := i2 rfl
        have hxe : ltK x.key e.key = true := by
          cases h : ltK x.key e.key with
          | true => rfl
          | false => exact absurd ⟨rfl, h⟩ h1
        have h2 : ¬x.key = e.key := fun h => by rw [h, ltK_irr] at hxe; cases hxe
        rw [if_neg h2]
        refine ⟨app i1 (by rw [j1]; exact hbe), fun _ => ⟨by rw [j1], fun y hy => ?_⟩, fun h => (by cases h)⟩
        rcases List.mem_append.1 hy with hy | hy
        · exact j2 y hy
        · simp only [List.mem_singleton] at hy; rw [hy]; exact hxe
      | true =>
        have j3 := i3 rfl
        by_cases h2 : x.key = e.key
        · rw [if_pos h2]
          exact ⟨i1, fun h => (by cases h), fun _ y hy m hm hnm => j3 y hy m hm (by omega)⟩
        · rw [if_neg h2]
          refine ⟨app i1 fun y hy => ?_, fun h => (by cases h), fun _ y hy m hm hnm => ?_⟩
          · exact i4 rfl y hy
          · rcases List.mem_append.1 hy with hy | hy
            · exact j3 y hy m hm (by omega)
            · simp only [List.mem_singleton] at hy; rw [hy]; exact hlt m hm hnm
theorem setR_rise {e : En} {l : List En} (hr : RiseE l) : RiseE (setR e l) := by
  obtain ⟨i1, i2, i3⟩ := setP_rise (e := e) hr l.length (Nat.le_refl _)
  unfold setR
  split
  · exact i1
  · rename_i h
    obtain ⟨j1, j2⟩ := i2 (by simpa using h)
    unfold RiseE
    rw [List.pairwise_append]
    exact ⟨i1, by simp, fun a ha b hb => by simp only [List.mem_singleton] at hb; rw [hb]; rw [j1] at ha; exact j2 a ha⟩
theorem rise_le {l : List En} (h : RiseE l) : l.Pairwise fun x y => ltK y.key x.key = false := h.imp fun h => ltK_asym h
/-- What the document's map holds is what the program's does. -/
theorem map_inv {l : List En} : ∀ n, n ≤ l.length → RiseE (mapR l n) ∧ (mapR l n).Perm (vM l (mpK l n))
  | 0, _ => ⟨List.Pairwise.nil, List.Perm.refl _⟩
  | n + 1, hn => by
    obtain ⟨h1, h2⟩ := map_inv (l := l) n (by omega)
    have hok : okM l (mpK l n) := fun p hp => by
      obtain ⟨j, a, b, -, c⟩ := mp_at n (by omega) p hp
      exact ⟨j, a, b, c⟩
    have hke := mp_keys (l := l) n (by omega)
    have hvk := vM_keys hok
    have hnd : ((vM l (mpK l n)).map (·.key)).Nodup := by rw [hvk]; exact hke
    have hnl : n < l.length := by omega
    rw [mapR_succ hnl, mp_succ hnl]
    have hf : fellP (mapR l n) l[n] = mpN l (mpK l n) l[n] := by
      cases hlk : lookG l[n].key (mpK l n) with
      | none =>
        have e1 : mpN l (mpK l n) l[n] = true := by unfold mpN; rw [hlk]
        rw [e1]
        rcases idxI_cases (mapR l n) (fun e => decide (e.key = l[n].key)) with ⟨e2, -⟩ | ⟨j, hj, -, e2⟩
        · have e3 : firstK (mapR l n) l[n].key = -1 := e2
          unfold fellP
          rw [if_pos e3]
        · exfalso
          have e3 : (mapR l n)[j].key = l[n].key := of_decide_eq_true e2
          have e4 : (mapR l n)[j].key ∈ (mpK l n).map (·.1) := by
            rw [← hvk]
            exact List.mem_map_of_mem (h2.mem_iff.1 (List.getElem_mem hj))
          obtain ⟨q, hq, hq2⟩ := List.mem_map.1 e4
          have : ∀ {M : List (ByteArray × Int)}, q ∈ M → lookG q.1 M ≠ none := fun {M} => by
            induction M with
            | nil => intro h; cases h
            | cons p M ih =>
              intro h
              unfold lookG
              by_cases e : q.1 = p.1
              · rw [if_pos e]; simp
              · rw [if_neg e]
                rcases List.mem_cons.1 h with h | h
                · exact absurd (by rw [h]) e
                · exact ih h
          exact this hq (by rw [hq2, e3]; exact hlk)
      | some v =>
        have hm := look_mem hlk
        obtain ⟨j, hj, e1, e2⟩ := hok _ hm
        simp only at e1 e2
        have e3 : mpN l (mpK l n) l[n] = newerB l[n] l[j] := by
          unfold mpN
          rw [hlk]
          simp only
          rw [e1, show ((j : Int)).toNat = j by omega, List.getElem?_eq_getElem hj]
        have hmem : l[j] ∈ vM l (mpK l n) := by
          unfold vM
          refine List.mem_filterMap.2 ⟨_, hm, ?_⟩
          simp only
          rw [e1, show ((j : Int)).toNat = j by omega, List.getElem?_eq_getElem hj]
        rw [e3]
        rcases idxI_cases (mapR l n) (fun e => decide (e.key = l[n].key)) with ⟨-, e4⟩ | ⟨q, hq, e4, e5⟩
        · exfalso
          have := e4 l[j] (h2.mem_iff.2 hmem)
          rw [decide_eq_true e2] at this
          cases this
        · have e6 : firstK (mapR l n) l[n].key = (q : Int) := e4
          have e7 : (mapR l n)[q] = l[j] := key_inj hnd (h2.mem_iff.1 (List.getElem_mem hq)) hmem (by rw [e2]; exact of_decide_eq_true e5)
          unfold fellP
          rw [if_neg (by omega), e6, show ((q : Int)).toNat = q by omega, List.getElem?_eq_getElem hq, e7]
    rw [hf]
    split
    · refine ⟨setR_rise h1, ?_⟩
      refine (setR_perm l[n] (mapR l n)).trans (List.Perm.trans ?_ (vM_upd hnl hok hke).symm)
      exact (h2.filter _).cons _
    · exact ⟨h1, h2⟩
theorem map_same (l : List En) : mapR l l.length = mapE l := by
  obtain ⟨h1, h2⟩ := map_inv (l := l) l.length (Nat.le_refl _)
  have hok : okM l (mpK l l.length) := fun p hp => by
    obtain ⟨j, a, b, -, c⟩ := mp_at l.length (Nat.le_refl _) p hp
    exact ⟨j, a, b, c⟩
  unfold mapE
  rw [vM_range]
  exact sort_one (by rw [vM_keys hok]; exact mp_keys l.length (Nat.le_refl _)) h2 (rise_le h1)
end Go.Proofs.Ytbblpmkdhdnkhaa
