/- Own theory, no program in sight: the rule for a map that is gone through. -/
import Derived.Test.YtbblpmkdhdnkhaaAmR
namespace Go.Am
set_option linter.unusedSimpArgs false
set_option linter.unusedVariables false
set_option maxHeartbeats 4000000
open Go Go.RowKit
set_option linter.unusedVariables false
set_option linter.unusedSimpArgs false
section
variable {P : Program} {N : Nat}
open Go.ChangeMaps (setBlock)
theorem exec_itR {o : Oper} {n : Nat} {a : Act} {w : World} {bm : Nat} {arr : Array MapEntry} {clock : Nat} (h : compOp P o = (.itR, [.t n])) (hm : a.tmps.getD n undef = .map (some bm)) (hb : w.heap[bm]? = some (.map arr clock)) :
    (execOp a.eval o).run P w = .ok (.value (.pointer (some ⟨w.heap.size, 0, none⟩))) (w.alloc (.mapIter (some bm) clock #[] clock)) := by
  obtain ⟨t, x, k, e, ho, hu, hx⟩ := compOp_itR h
  have hx' := opd_t hx
  subst hx'
  unfold execOp
  rw [ho]
  have e1 : a.eval (.tmp n) = .map (some bm) := hm
  simp only [e1, Sem.run_bind, run_range_map w t k e bm arr clock hu hb, Result.andThen_ok, Sem.run_pure]
theorem exec_itN {o : Oper} {n : Nat} {a : Act} {w w' : World} {v r : Value} (h : compOp P o = (.itN, [.t n])) (hm : a.tmps.getD n undef = r) (hr : (Instr.next r false o.type).run P w = .ok v w') :
    (execOp a.eval o).run P w = .ok (.value v) w' := by
  obtain ⟨x, ho, hx⟩ := compOp_itN h
  have hx' := opd_t hx
  subst hx'
  unfold execOp
  rw [ho]
  have e1 : a.eval (.tmp n) = r := hm
  simp only [e1, Sem.run_bind, hr, Result.andThen_ok, Sem.run_pure]
theorem exec_itE {o : Oper} {n : Nat} {a : Act} {w w' : World} {v r : Value} (h : compOp P o = (.itE, [.t n])) (hm : a.tmps.getD n undef = r) (hr : (Instr.entry r).run P w = .ok v w') :
    (execOp a.eval o).run P w = .ok (.value v) w' := by
  obtain ⟨x, ho, hx⟩ := compOp_itE h
  have hx' := opd_t hx
  subst hx'
  unfold execOp
  rw [ho]
  have e1 : a.eval (.tmp n) = r := hm
  simp only [e1, Sem.run_bind, hr, Result.andThen_ok, Sem.run_pure]
/-- A region whose first operation is known by what it does. -/
theorem wp_head {id : Nat} {ops : Array Oper} {aops : List AOper} {d : Nat} {op : AOp} {xs : List Opd} (hc : compOps P N ops = some (⟨some d, op, xs, none⟩ :: aops)) {C : Ctx} {B : BM} {x : St} {a : Act} {w w2 : World} {val : Value} {v : AV}
    (he : ∀ o, compOp P o = (op, xs) → (execOp a.eval o).run P w = .ok (.value val) w2) (hv : VR B v val) (hs : Sms C N B x a w2) (K : S → Prop)
    (hrun : runP P ⟨false, x.n, [], [], [], []⟩ (numberA 1 aops) K ⟨put x.s.t (some d) v, x.s.h⟩) {Qc : Exit → Act → World → Prop}
    (hQ : ∀ B s a w, K s → Sms C N B ⟨s, x.n + 16 * (aops.length + 1)⟩ a w → Qc .normal a w) : (Code.region id ops false).wp P Qc a w := by
  obtain ⟨o1, h0, h1, hsz⟩ := compL_1 hc
  obtain ⟨hd, hdst, hg, hop⟩ := compO_inv h1
  refine wp_region ?_
  rw [List.range_eq_range', hsz, List.range'_succ, wpOps_cons]
  unfold wpOp
  simp only [h0]
  rw [if_pos (wants_free hg)]
  refine .inl ?_
  unfold Oper.wp
  rw [he o1 hop]
  show wpOps P ops Qc (List.range' (0 + 1) aops.length) (a.put o1.dst val) w2
  rw [hdst]
  refine wpOps_of (md := ⟨false, x.n, [], [], [], []⟩) (C := C) hc (K := K) (fun B s a w hK hi => hQ B s a w hK ⟨hi.sim, fun k hk => hi.fr k (by simp only at hk ⊢; omega) (by simp only at hk ⊢; omega), Nat.le_trans hi.base (by simp only; omega)⟩) aops.length (0 + 1) B _ _ _ (by omega) hrun
    ⟨(hs.put hd hv).sim, fun h => (by cases h), fun k hk _ => hs.fr k hk, hs.base, fun _ _ => rfl⟩
theorem ER_get {B : BM} : ∀ {es : List (AV × AV)} {l : List MapEntry}, ER B es l → l.length = es.length ∧ ∀ (i : Nat) (p : AV × AV), es[i]? = some p → ∃ e, l[i]? = some e ∧ VR B p.1 e.key ∧ VR B p.2 e.val
  | [], l, h => by
    simp only [ER] at h
    subst h
    exact ⟨rfl, fun i p hp => by simp at hp⟩
  | (k, v) :: es, l, h => by
    simp only [ER] at h
    obtain ⟨e, rest, rfl, h1, h2, h3⟩ := h
    obtain ⟨g1, g2⟩ := ER_get h3
    refine ⟨by simp [g1], fun i p hp => ?_⟩
    cases i with
    | zero =>
      simp only [List.getElem?_cons_zero, Option.some.injEq] at hp
      subst hp
      exact ⟨e, rfl, h1, h2⟩
    | succ i =>
      rw [List.getElem?_cons_succ] at hp
      rw [List.getElem?_cons_succ]
      exact g2 i p hp
def bornAt (l : List MapEntry) (j : Nat) : Nat := (l[j]?.map (·.born)).getD 0
theorem bornAt_inj {l : List MapEntry} (h : (l.map (·.born)).Nodup) {i j : Nat} (hi : i < l.length) (hj : j < l.length) (e : bornAt l i = bornAt l j) : i = j := by
  unfold bornAt at e
  rw [List.getElem?_eq_getElem hi, List.getElem?_eq_getElem hj] at e
  simp only [Option.map_some, Option.getD_some] at e
  have h1 : (l.map (·.born))[i]'(by simpa using hi) = (l.map (·.born))[j]'(by simpa using hj) := by simpa using e
  exact (List.getElem_inj h).1 h1
def itSeen (w : World) (r : Nat) : Nat := match w.heap[r]? with
  | some (.mapIter _ _ seen _) => seen.size
  | _ => 0
/-- Between rounds. -/
structure MI (C : Ctx) (N m bm r : Nat) (arr : Array MapEntry) (clock : Nat) (T0 : List Nat → List (Nat × AV)) (H0 : List Nat → List AObj) (d : List Nat) (B : BM) (a : Act) (w : World) : Prop where
  sms : Sms (C.less bm r w) N B (head (T0 d) (H0 d)) a w
  kept : Kept C.mine C.w0 w
  map : w.heap[bm]? = some (.map arr clock)
  it : w.heap[r]? = some (.mapIter (some bm) clock (d.map (bornAt arr.toList)).toArray clock)
  nodup : d.Nodup
  lt : ∀ j ∈ d, j < arr.size
theorem leftOf_mem {arr : Array MapEntry} {seen : Array Nat} {e : MapEntry} : e ∈ (leftOf arr seen).toList ↔ e ∈ arr.toList ∧ e.born ∉ seen.toList := by
  unfold leftOf
  simp
/-- A step: nothing is left, or an entry that was not there before. -/
theorem MI.next {C : Ctx} {m bm r : Nat} {arr : Array MapEntry} {clock : Nat} {T0 : List Nat → List (Nat × AV)} {H0 : List Nat → List AObj} {d : List Nat} {B : BM} {a : Act} {w : World} (h : MI C N m bm r arr clock T0 H0 d B a w) (hb : born clock arr.toList) (hr0 : C.w0.heap.size ≤ r) (ty : TypeId) :
    ((Instr.next (.pointer (some ⟨r, 0, none⟩)) false ty).run P w = .ok (.tuple #[.bool false]) w ∧ d.Perm (List.range arr.size)) ∨
    ∃ i e w2, i < arr.size ∧ i ∉ d ∧ arr.toList[i]? = some e ∧ (Instr.next (.pointer (some ⟨r, 0, none⟩)) false ty).run P w = .ok (.tuple #[.bool true, e.key, e.val]) w2 ∧
      Sms (C.less bm r w2) N B (head (T0 d) (H0 d)) a w2 ∧ Kept C.mine C.w0 w2 ∧ w2.heap[bm]? = some (.map arr clock) ∧ w2.heap[r]? = some (.mapIter (some bm) clock ((d.map (bornAt arr.toList)).toArray.push e.born) clock) := by
  rcases run_next_at w ty r bm clock clock _ arr clock h.it h.map (fun x hx => hb.1 x hx) (Nat.le_refl _) with ⟨h1, h2⟩ | ⟨e, he, w1, hw1, hrun⟩
  · refine .inl ⟨h2, ?_⟩
    have h0 : (leftOf arr (d.map (bornAt arr.toList)).toArray).toList = [] := by
      rw [← List.length_eq_zero_iff]; simpa using h1
    refine (List.perm_ext_iff_of_nodup h.nodup List.nodup_range).2 fun i => ?_
    rw [List.mem_range]
    refine ⟨h.lt i, fun hi => ?_⟩
    have hi' : i < arr.toList.length := by simpa using hi
    have : arr.toList[i] ∉ (leftOf arr (d.map (bornAt arr.toList)).toArray).toList := by rw [h0]; simp
    rw [leftOf_mem] at this
    have hm : arr.toList[i].born ∈ d.map (bornAt arr.toList) := by
      apply Classical.byContradiction
      intro hn
      exact this ⟨List.getElem_mem hi', by simpa using hn⟩
    obtain ⟨j, hj, hbj⟩ := List.mem_map.1 hm
    have hj' : j < arr.toList.length := by have := h.lt j hj; simpa using this
    have : j = i := bornAt_inj hb.2 hj' hi' (by
      rw [hbj]
      unfold bornAt
      rw [List.getElem?_eq_getElem hi']
      rfl)
    rw [← this]
    exact hj
  · right
    obtain ⟨he1, he2⟩ := leftOf_mem.1 he
    obtain ⟨i, hi, rfl⟩ := List.mem_iff_getElem.1 he1
    have hne : bm ≠ r := fun e => by
      have h1 := h.map
      rw [e, h.it] at h1
      cases h1
    have hrl : r < w.heap.size := getElem?_lt h.it
    have hsz1 : w1.heap = w.heap := by rcases hw1 with rfl | rfl <;> rfl
    have hk1 : ∀ b, b ≠ r → (setBlock w1 r (.mapIter (some bm) clock ((d.map (bornAt arr.toList)).toArray.push arr.toList[i].born) clock)).heap[b]? = w.heap[b]? := fun b hb => by
      simp only [setBlock, hsz1]
      rw [Array.getElem?_setIfInBounds_ne (Ne.symm hb)]
    have hsz : (setBlock w1 r (.mapIter (some bm) clock ((d.map (bornAt arr.toList)).toArray.push arr.toList[i].born) clock)).heap.size = w.heap.size := by
      simp only [setBlock, hsz1, Array.size_setIfInBounds]
    refine ⟨i, _, _, by simpa using hi, fun hd => he2 ?_, List.getElem?_eq_getElem hi, hrun, h.sms.less_step h.it hsz hk1, ?_, by rw [hk1 bm hne]; exact h.map, ?_⟩
    · have : bornAt arr.toList i = arr.toList[i].born := by
        unfold bornAt
        rw [List.getElem?_eq_getElem hi]
        rfl
      rw [← this]
      simpa using List.mem_map_of_mem hd
    · refine ⟨?_, ?_, ?_, by rw [hsz]; exact h.kept.size, fun b hb hm => ?_⟩
      · rcases hw1 with rfl | rfl <;> exact h.kept.os
      · rcases hw1 with rfl | rfl <;> exact h.kept.tape
      · rcases hw1 with rfl | rfl <;> exact h.kept.output
      · rw [hk1 b (fun e => by omega)]
        exact h.kept.block b hb hm
    · simp only [setBlock, hsz1]
      rw [Array.getElem?_setIfInBounds_self_of_lt hrl]
end
end Go.Am
