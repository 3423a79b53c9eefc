/- Own theory, no program in sight: append, copy, and what makes a block. -/
import Derived.Test.YteggjhihpjjloaaAm11
namespace Go.Am
set_option linter.unusedSimpArgs false
set_option linter.unusedVariables false
set_option maxHeartbeats 4000000
open Go Go.RowKit
set_option linter.unusedVariables false
set_option linter.unusedSimpArgs false
section
variable {P : Program} {B : BM} {w : World} {t : Nat → AV} {a : Act}

/-- The beginning of a block; its tail written. -/
theorem pre_write {cs l : List AV} {arr arr' : Array Value} {o m n : Nat} {vs : List Value} (hv : VRs B cs (arr.toList.take cs.length)) (ho : o ≤ cs.length) (hl : VRs B l vs)
    (e : arr'.toList = arr.toList.take o ++ vs ++ arr.toList.drop (o + vs.length)) (hcs : cs.length ≤ arr.size) :
    arr'.toList.take (cs.take o ++ l).length = (arr.toList.take cs.length).take o ++ vs := by
  have h1 := hl.length
  have h2 : (cs.take o ++ l).length = o + vs.length := by simp; omega
  rw [h2, e, List.take_take, Nat.min_eq_left ho, List.append_assoc, List.take_append]
  have l1 : (List.take o arr.toList).length = o := by simp; omega
  rw [l1, List.take_of_length_le (by rw [l1]; omega)]
  rw [show o + vs.length - o = vs.length by omega, List.take_left]

structure Same (b : Nat) (w w' : World) : Prop where
  os : w'.os = w.os
  tape : w'.tape = w.tape
  output : w'.output = w.output
  size : w'.heap.size = w.heap.size
  block : ∀ x, x ≠ b → w'.heap[x]? = w.heap[x]?

/-- The append as the model carries it out, with room and without. -/
theorem run_append_room {us : Array TypeId} {R sT e : TypeId} {k : Nat} (h0 : us[0]? = some sT) (hu : P.underlying sT = some (.slice e)) (hz : ∃ u, us[1]? = some u ∧ (P.underlying u = some .string ∨ ∃ e', P.underlying u = some (.slice e'))) (hk : sizeT P e = some k)
    {base : Option Addr} {sLen sCap m : Nat} {vy : Value} (hm : (Builtin.lenOf vy).run P w = .ok m w) {new : Array Value} (hn : (Builtin.firstCells k m vy).run P w = .ok new w) (hfit : sLen + m ≤ sCap) :
    (Builtin.append_ us R #[.slice base sLen sCap, vy]).run P w = ((match base with | some a => storeCells (a.add (sLen * k)) new.toList | none => (pure () : Sem Unit)).run P w).andThen fun _ w' => .ok (.slice base (sLen + m) sCap) w' := by
  obtain ⟨u, hu1, hz⟩ := hz
  have hs := run_size (P := P) hk w
  rcases hz with hz | ⟨e', hz⟩ <;> cases base <;>
    simp [Builtin.append_, h0, hu1, run_und hu, run_und hz, hs, hm, hfit, hn]

theorem run_append_new {us : Array TypeId} {R sT e : TypeId} {i : TypeInfo} {z : List Value} (h0 : us[0]? = some sT) (hu : P.underlying sT = some (.slice e)) (hz : ∃ u, us[1]? = some u ∧ (P.underlying u = some .string ∨ ∃ e', P.underlying u = some (.slice e')))
    (hi : P.info? e = some i) (hzt : zeroT P e = some z) (hzl : z.length = i.size)
    {base : Option Addr} {sLen sCap m : Nat} {vy : Value} (hm : (Builtin.lenOf vy).run P w = .ok m w) {new : Array Value} (hn : ∀ w' : World, w'.heap = w.heap → (Builtin.firstCells i.size m vy).run P w' = .ok new w')
    {old : Array Value} (ho : ∀ w' : World, w'.heap = w.heap → (Builtin.firstCells i.size sLen (.slice base sLen sCap)).run P w' = .ok old w') (hfit : ¬ sLen + m ≤ sCap) (hroom : appRoom (sLen + m) i.bytes) (hos : old.size = sLen * i.size) (hns : new.size = m * i.size) :
    ∃ cap rest w', (Builtin.append_ us R #[.slice base sLen sCap, vy]).run P w = .ok (.slice (some ⟨w.heap.size, 0, none⟩) (sLen + m) cap) w' ∧ sLen + m ≤ cap ∧
      w'.heap[w.heap.size]? = some (.cells (old ++ new ++ rest) e (0, 0)) ∧ (old ++ new ++ rest).size = cap * i.size ∧ New w w' := by
  obtain ⟨zv, hz1, hz2, hz3⟩ := run_zero hzt w
  have hz1' : ∀ w' : World, (zeroValue e).run P w' = .ok zv w' := fun w' => by
    obtain ⟨zv', g1, g2, g3⟩ := run_zero hzt w'
    have : zv' = zv := by
      have r1 : (zeroValue e).run P w' = .ok zv w' := by
        unfold zeroValue at hz1 ⊢
        simp only [Sem.run_bind, run_info hi, Result.andThen_ok] at hz1 ⊢
        cases hzz : i.zero with
        | none => rw [hzz] at hz1; simp at hz1
        | some q => rw [hzz] at hz1; simp at hz1 ⊢; exact hz1
      rw [g1] at r1
      cases r1
      rfl
    rw [this] at g1
    exact g1
  have hk : sizeT P e = some i.size := by simp [sizeT, hi]
  obtain ⟨hr1, hr2⟩ := hroom
  have hneed : sLen + m ≤ 140737488355328 := Nat.le_trans (Nat.le_mul_of_pos_right _ hr2) hr1
  have g1 : ¬ (((sLen + m : Nat) : Int) > IntKind.i64.max ∧ ((false = true) ∨ i.bytes = 0)) := by intro h; rcases h.2 with h | h <;> first | (cases h; done) | omega
  have g2 : ¬ (Builtin.nextslicecap (sLen + m) sCap * i.bytes > 2 ^ 48) := by
    have := growslice_fits (need := sLen + m) (old := sCap) (bytes := i.bytes) (by omega) hr1
    omega
  have hq : (Question.appendCap (sLen + m) sCap e).forced = false := rfl
  generalize hcap : (Question.appendCap (sLen + m) sCap e).cut (w.tape w.drawn (Question.appendCap (sLen + m) sCap e)) = cap
  have hcapge : sLen + m ≤ cap := by rw [← hcap]; simp only [Question.cut]; omega
  let w1 : World := { w with drawn := w.drawn + 1 }
  refine ⟨cap, Builtin.zeroCells zv.cells (cap - (sLen + m)), { w1 with heap := w1.heap.push (.cells (old ++ new ++ Builtin.zeroCells zv.cells (cap - (sLen + m))) e) }, ?_, hcapge, heap_push w1 _, ?_, ?_⟩
  · obtain ⟨u, hu1, hz⟩ := hz
    have hs := run_size (P := P) hk w
    have g0 : i.bytes ≠ 0 := by omega
    have g2' : ¬ (2 ^ 48 < Builtin.nextslicecap (sLen + m) sCap * i.bytes) := g2
    rcases hz with hz | ⟨e', hz⟩ <;>
      (simp [Builtin.append_, h0, hu1, run_und hu, run_und hz, hs, hm, hfit, run_info hi, g0, g2', hq, hcap, ho w.drew rfl, hn w.drew rfl, hz1' w.drew, w1, newRow]; rfl)
  · have hzs : zv.cells.size = i.size := by have := congrArg List.length hz2; simp at this; omega
    simp only [Array.size_append, hos, hns, Builtin.zeroCells, Array.size_map, Array.size_range, hzs]
    rw [← Nat.add_mul, ← Nat.add_mul]
    congr 1
    omega
  · exact ⟨rfl, rfl, rfl, by simp [w1], fun b hb => by simp [w1, Array.getElem?_push, show b ≠ w.heap.size by omega]⟩

theorem lenOf_any (vy : Value) (w w' : World) {m : Nat} (h : (Builtin.lenOf vy).run P w = .ok m w) : (Builtin.lenOf vy).run P w' = .ok m w' := by
  cases vy <;> simp [Builtin.lenOf] at h ⊢ <;> exact h
theorem HR.heap {h : Nat → AObj} {w w' : World} (hr : HR B h w) (e : w'.heap = w.heap) : HR B h w' :=
  ⟨fun i => (hr.obj i).congr fun _ b n _ => by rw [e], hr.apart⟩
theorem app_inj {α : Type} {a b : α} (h : some a = some b) : a = b := by cases h; rfl

theorem old_ok {cs : List AV} {arr : Array Value} {T : TypeId} {b k len cap o off : Nat} {fz : Nat × Nat} (hh : w.heap[b]? = some (.cells arr T fz)) (hv : VRs B cs (arr.toList.take cs.length)) (h1c : ∀ x ∈ ((arr.toList.take cs.length).drop off).take (len * k), x.oneCell' = true)
    (ho : len = 0 ∨ o = off) (hle : off + len * k ≤ cs.length) :
    ∃ old : Array Value, (∀ w' : World, w'.heap = w.heap → (Builtin.firstCells k len (.slice (some ⟨b, o, none⟩) len cap)).run P w' = .ok old w') ∧ VRs B ((cs.drop off).take (len * k)) old.toList ∧ (∀ x ∈ old.toList, x.oneCell' = true) ∧ old.size = len * k := by
  have hcs : cs.length ≤ arr.size := by have := hv.length; simp at this; omega
  rcases Nat.eq_zero_or_pos len with h0 | h0
  · subst h0
    exact ⟨#[], fun w' _ => by simp [Builtin.firstCells, loadCells, loadCellsFrom], by simp [VRs], by simp, by simp⟩
  · have ho : o = off := ho.resolve_left (by omega)
    subst ho
    have e : (arr.extract o (o + len * k)).toList = ((arr.toList.take cs.length).drop o).take (len * k) := by
      rw [Array.toList_extract, List.drop_take, List.take_take, show Min.min (len * k) (cs.length - o) = len * k by omega]
      simp [List.extract_eq_take_drop]
    refine ⟨arr.extract o (o + len * k), fun w' e => by simp only [Builtin.firstCells]; exact load_cells (by rw [e]; exact hh) (by omega), ?_, ?_, by simp; omega⟩
    · rw [e]; exact VRs.take _ (VRs.drop o hv)
    · intro x hx
      rw [e] at hx
      exact h1c x hx
theorem mid_write {cs l : List AV} {arr arr' : Array Value} {o n : Nat} {vs : List Value} (hv : VRs B cs (arr.toList.take cs.length)) (hcl : l.length = n) (ho : o + n ≤ cs.length) (hvs : vs.length = n)
    (e : arr'.toList = arr.toList.take o ++ vs ++ arr.toList.drop (o + n)) (hcs : cs.length ≤ arr.size) :
    arr'.toList.take (cs.take o ++ l ++ cs.drop (o + n)).length = (arr.toList.take cs.length).take o ++ vs ++ (arr.toList.take cs.length).drop (o + n) := by
  have hl : (cs.take o ++ l ++ cs.drop (o + n)).length = cs.length := by simp; omega
  rw [hl, e, List.take_take, Nat.min_eq_left (by omega), List.append_assoc, List.append_assoc, List.take_append, List.take_append]
  have l1 : (List.take o arr.toList).length = o := by simp; omega
  rw [l1, hvs, List.take_of_length_le (by rw [l1]; omega), List.take_of_length_le (l := vs) (by rw [hvs]; omega), List.drop_take]
  congr 3
  omega
/-- Onto the nil slice. -/
theorem nil_append {h : Nat → AObj} (hr : HR B h w) {us : Array TypeId} {R sT e : TypeId} {i : TypeInfo} {z : List Value} (h0 : us[0]? = some sT) (hu : P.underlying sT = some (.slice e)) (hz : ∃ u, us[1]? = some u ∧ (P.underlying u = some .string ∨ ∃ e', P.underlying u = some (.slice e')))
    (hi : P.info? e = some i) (hzt : zeroT P e = some z) (hzl : z.length = i.size) {vy : Value} {f : Nat} (hf : B f = none) {m : Nat} {l : List AV} {new : Array Value}
    (g1 : ∀ w' : World, (Builtin.lenOf vy).run P w' = .ok m w') (g2 : ∀ w' : World, w'.heap = w.heap → (Builtin.firstCells i.size m vy).run P w' = .ok new w') (g3 : VRs B l new.toList) (g4 : ∀ x ∈ new.toList, x.oneCell' = true) (g5 : new.size = m * i.size) (hroom : appRoom m i.bytes) (q0 : Option Addr) :
    ∃ r w', (Builtin.append_ us R #[.slice q0 0 0, vy]).run P w = .ok r w' ∧ EffRes B h w f (.sl f 0 m i.size none) [(f, .cells false l)] r w' ∧ ∀ mine, Kept mine w w' := by
  have hk : sizeT P e = some i.size := by simp [sizeT, hi]
  rcases Nat.eq_zero_or_pos m with hm0 | hm0
  · subst hm0
    have hl0 : l = [] := by have := g3.length; simp [g5] at this; exact List.length_eq_zero_iff.1 this.symm
    subst hl0
    have hrun := run_append_room (P := P) (R := R) h0 hu hz hk (base := q0) (sLen := 0) (sCap := 0) (g1 w) (g2 w rfl) (Nat.le_refl _)
    have hrun : (Builtin.append_ us R #[.slice q0 0 0, vy]).run P w = .ok (.slice q0 0 0) w := by
      have hnew : new = #[] := by apply Array.eq_empty_of_size_eq_zero; rw [g5]; simp
      subst hnew
      rw [hrun]
      cases q0 <;> simp [storeCells]
    refine ⟨_, w, hrun, ⟨B, BLe.refl B, by simp only [VR]; exact .inl ⟨trivial, trivial, q0, rfl⟩, ⟨fun j => ?_, fun j k b n n' hjk hj hl hbj hbk => ?_⟩, Kept.refl _ _, fun j b n hj hb => ?_, fun k hk' => .inl hk'⟩, fun mine => Kept.refl _ _⟩
    · by_cases ej : j = f
      · subst ej; simp only [updH, upd_same, hf]; exact .inl ⟨rfl, rfl⟩
      · simp only [updH, upd_ne _ _ ej]; exact hr.obj j
    · by_cases ej : j = f
      · subst ej; rw [hf] at hbj; cases hbj
      · by_cases ek : k = f
        · subst ek; rw [hf] at hbk; cases hbk
        · simp only [updH, upd_ne _ _ ej] at hj
          simp only [updH, upd_ne _ _ ek] at hl
          exact hr.apart j k b n n' hjk hj hl hbj hbk
    · by_cases ej : j = f
      · subst ej; rw [hf] at hb; cases hb
      · simp only [updH, upd_ne _ _ ej] at hj
        exact .inr ⟨j, n, hj, hb⟩
  · obtain ⟨cap, rest, w', k1, k2, k3, k4, k5⟩ := run_append_new (P := P) (R := R) h0 hu hz hi hzt hzl (base := q0) (sLen := 0) (sCap := 0) (m := m) (g1 w) g2 (old := #[]) (fun _ _ => by cases q0 <;> simp [Builtin.firstCells, loadCells, loadCellsFrom]) (by simp; omega) (by simpa using hroom) (by simp) g5
    refine ⟨_, w', k1, ?_, fun mine => k5.kept _⟩
    have hsz : (#[] ++ new ++ rest : Array Value).toList.take l.length = new.toList := by
      have hl := g3.length
      simp only [Array.toList_append, List.nil_append]
      rw [← hl, List.take_left]
    refine res_new hr hf k5 (OR_cells (vs := new.toList) k3 hsz (g3.mono (BLe.setB hf)) g4 (.inl (Nat.le_refl _))) ?_
    simp only [VR]
    exact .inr ⟨_, _, cap, 0, setB_same _ _ _, by simp, by simpa using k2, by rw [k4]; simp, .inl rfl, by simp⟩
theorem ok_append {h : Nat → AObj} (hr : HR B h w) {us : Array TypeId} {R sT e : TypeId} {i : TypeInfo} {z : List Value} (h0 : us[0]? = some sT) (hu : P.underlying sT = some (.slice e)) (hz : ∃ u, us[1]? = some u ∧ (P.underlying u = some .string ∨ ∃ e', P.underlying u = some (.slice e')))
    (hi : P.info? e = some i) (hzt : zeroT P e = some z) (hzl : z.length = i.size) {x y : AV} {vx vy : Value} (hx : VR B x vx) (hy : VR B y vy) {f : Nat} (hf : B f = none) {c : Prop} {v : AV} {ups : List (Nat × AObj)}
    (hq : effAppend i.size i.bytes f [x, y] ((idOf x ++ idOf y).map h) = some (c, v, ups)) (hc : c) :
    ∃ r w', (Builtin.append_ us R #[vx, vy]).run P w = .ok r w' ∧ EffRes B h w f v ups r w' := by
  have hk : sizeT P e = some i.size := by simp [sizeT, hi]
  -- the source
  have src1 : ∀ {c m l}, srcCells i.size y (((idOf y).map h).headD .gone) = some (c, m, l) → c → ∃ new : Array Value, (∀ w' : World, (Builtin.lenOf vy).run P w' = .ok m w') ∧ (∀ w' : World, w'.heap = w.heap → (Builtin.firstCells i.size m vy).run P w' = .ok new w') ∧
      VRs B l new.toList ∧ (∀ x ∈ new.toList, x.oneCell' = true) ∧ new.size = m * i.size := by
    intro c m l hs hc'
    obtain ⟨g1, g2, g3⟩ := src_ok (P := P) hr hy hs hc'
    obtain ⟨new, g4, g5, g6, g7⟩ := g3 m (Nat.le_refl _)
    rw [List.take_of_length_le (by omega)] at g5
    exact ⟨new, g1, g4, g5, g6, g7⟩
  unfold effAppend at hq
  split at hq
  · -- onto nil
    rename_i e1
    simp only [List.cons.injEq, and_true] at e1
    obtain ⟨rfl, rfl⟩ := e1
    rw [vr_val] at hx
    subst hx
    change (srcCells i.size y (((idOf y).map h).headD .gone)).map _ = _ at hq
    cases hs : srcCells i.size y (((idOf y).map h).headD .gone) with
    | none => rw [hs] at hq; cases hq
    | some r =>
      obtain ⟨c', m, l⟩ := r
      rw [hs] at hq
      cases hq
      obtain ⟨hc', hroom⟩ := hc
      obtain ⟨new, g1, g2, g3, g4, g5⟩ := src1 hs hc'
      obtain ⟨r, w', k1, k2, _⟩ := nil_append (R := R) hr h0 hu hz hi hzt hzl hf g1 g2 g3 g4 g5 hroom none
      exact ⟨r, w', k1, k2⟩
  · -- onto a slice whose room nobody knows
    rename_i j off len k' y' cs objs e1 e2
    simp only [List.cons.injEq, and_true] at e1
    obtain ⟨rfl, rfl⟩ := e1
    have e3 : h j :: (idOf y).map h = .cells false cs :: objs := e2
    rw [List.cons.injEq] at e3
    obtain ⟨hj, rfl⟩ := e3
    have up : ∀ x, Mine B (upd h j .gone) w x → Mine B h w x := by
      rintro x (hx | ⟨q, n, hq, hb'⟩)
      · exact .inl hx
      · refine .inr ⟨q, n, ?_, hb'⟩
        by_cases e : q = j
        · subst e; rw [upd_same] at hq; cases hq
        · rwa [upd_ne _ _ e] at hq
    simp only [VR] at hx
    rcases hx with ⟨rfl, -, q0, rfl⟩ | ⟨b, sz, cap0, o, hb, rfl, q1, q2, q3, q4⟩
    · cases hs : srcCells i.size y (((idOf y).map h).headD .gone) with
      | none => rw [hs] at hq; cases hq
      | some r =>
        obtain ⟨c', m, l⟩ := r
        rw [hs] at hq
        cases hq
        obtain ⟨hc', rfl, rfl, hle, hroom⟩ := hc
        obtain ⟨new, g1, g2, g3, g4, g5⟩ := src1 hs hc'
        obtain ⟨r, w', k1, ⟨B', r1, r2, r3, r4, r5, r6⟩, k3⟩ := nil_append (R := R) (hr.drop j) h0 hu hz hi hzt hzl hf g1 g2 g3 g4 g5 (by simpa using hroom) q0
        refine ⟨r, w', k1, B', r1, ?_, ?_, k3 _, fun q x n hq hb' => ?_, r6⟩
        · simpa using r2
        · simpa [updH] using r3
        · exact up x (r5 q x n (by simpa [updH] using hq) hb')
    cases hs : srcCells i.size y (((idOf y).map h).headD .gone) with
    | none => rw [hs] at hq; cases hq
    | some r =>
      obtain ⟨c', m, l⟩ := r
      rw [hs] at hq
      cases hq
      obtain ⟨hc', rfl, rfl, hle, hroom⟩ := hc
      obtain ⟨new, g1, g2, g3, g4, g5⟩ := src1 hs hc'
      have hob := hr.obj j
      rw [hj] at hob
      rw [hb] at hob
      obtain ⟨arr, T', fz, hh, hsz, hv, h1c, hfz⟩ := OR.at_own hob
      have hcs : cs.length ≤ arr.size := by have := hv.length; simp at this; omega
      by_cases hfit : len + m ≤ cap0
      · -- in place
        have hrun := run_append_room (P := P) (R := R) h0 hu hz hk (base := some ⟨b, o, none⟩) (sLen := len) (sCap := cap0) (g1 w) (g2 w rfl) hfit
        rcases Nat.eq_zero_or_pos cap0 with hc0 | hc0
        · -- no room at all: nothing is appended
          obtain rfl : m = 0 := by omega
          obtain rfl : len = 0 := by omega
          have hnew : new = #[] := by apply Array.eq_empty_of_size_eq_zero; rw [g5]; simp
          subst hnew
          have hl0 : l = [] := by have := g3.length; simp at this; exact List.length_eq_zero_iff.1 this.symm
          subst hl0
          simp only [storeCells, Sem.run_pure, Result.andThen_ok] at hrun
          refine ⟨_, w, hrun, setB B f (b, sz), BLe.setB hf, ?_, ?_, Kept.refl _ _, fun k bb nn hkk hbb => ?_, fun k hkk => ?_⟩
          · simp only [VR]; exact .inr ⟨b, sz, cap0, o, setB_same _ _ _, rfl, by omega, by omega, by omega, by simp⟩
          · refine HR.move (h := h) hr (by rw [hj]; rfl) hb hf (fun _ _ => rfl) (.inr ⟨b, sz, arr, T', fz, rfl, hh, hsz, ?_, ?_, fun _ => hfz rfl⟩)
            · simp [VRs]
            · exact Ones.of (by simp)
          · by_cases e : k = f
            · subst e; rw [setB_same] at hbb; cases hbb; exact .inr ⟨j, sz, by rw [hj]; rfl, hb⟩
            · rw [setB_ne B _ e] at hbb
              have hkk' : (upd h j .gone k).own = true := by simpa [updH, upd_ne _ _ e] using hkk
              by_cases e' : k = j
              · subst e'; rw [upd_same] at hkk'; cases hkk'
              · rw [upd_ne _ _ e'] at hkk'; exact .inr ⟨k, nn, hkk', hbb⟩
          · by_cases e : k = f
            · right; omega
            · rw [setB_ne B _ e] at hkk; exact .inl hkk
        · have ho : o = 0 := q3.resolve_right (by omega)
          subst ho
          have hfit2 : len * i.size + m * i.size ≤ arr.size := by
            have : (len + m) * i.size ≤ cap0 * i.size := Nat.mul_le_mul_right _ hfit
            rw [Nat.add_mul] at this
            omega
          have hnl : new.toList.length = m * i.size := by simp; exact g5
          obtain ⟨w', arr', s1, s2, s3, s4, s5, s6, s7, s8⟩ := cells_store (P := P) b T' fz new.toList (len * i.size) 0 arr w hh (by rw [hnl]; omega) g4 (by rw [hsz]; exact hfz rfl)
          simp only [addr_add, Nat.zero_add] at hrun
          rw [s1] at hrun
          have hasz : arr'.size = sz := by
            have := congrArg List.length s3
            simp at this
            simp at hnl
            omega
          refine ⟨_, w', hrun, setB B f (b, sz), BLe.setB hf, ?_, ?_, ⟨s4, s5, s6, by rw [s7]; exact Nat.le_refl _, fun x hx hn => s8 x fun e => hn (.inr ⟨j, sz, by rw [hj]; rfl, by rw [e]; exact hb⟩)⟩, fun k bb nn hkk hbb => ?_, fun k hkk => ?_⟩
          · simp only [VR]; exact .inr ⟨b, sz, cap0, 0, setB_same _ _ _, rfl, hfit, by omega, by simp, by simp⟩
          · refine HR.move (h := h) hr (by rw [hj]; rfl) hb hf s8 ?_
            rw [← hasz]
            have hpre := pre_write (o := len * i.size) (l := l) hv hle g3 (by rw [s3]; simp) hcs (m := 0) (n := 0)
            refine OR_cells s2 hpre (VRs.append (VRs.take _ (hv.mono (BLe.setB hf))) (g3.mono (BLe.setB hf))) ?_ (by rw [hasz]; exact hfz rfl)
            intro x hx
            rcases List.mem_append.1 hx with hx | hx
            · exact h1c x (List.mem_of_mem_take hx)
            · exact g4 x hx
          · by_cases e : k = f
            · subst e; rw [setB_same] at hbb; cases hbb; exact .inr ⟨j, sz, by rw [hj]; rfl, hb⟩
            · rw [setB_ne B _ e] at hbb
              have hkk' : (upd h j .gone k).own = true := by simpa [updH, upd_ne _ _ e] using hkk
              by_cases e' : k = j
              · subst e'; rw [upd_same] at hkk'; cases hkk'
              · rw [upd_ne _ _ e'] at hkk'; exact .inr ⟨k, nn, hkk', hbb⟩
          · by_cases e : k = f
            · right; omega
            · rw [setB_ne B _ e] at hkk; exact .inl hkk
      · -- a new block
        have hlen0 : len = 0 ∨ o = 0 := by rcases q3 with h3 | h3 <;> omega
        obtain ⟨old, ho1, ho2, ho3, ho4⟩ := old_ok (P := P) (k := i.size) (len := len) (cap := cap0) (cs := cs) hh hv (fun x hx => h1c x (List.mem_of_mem_drop (List.mem_of_mem_take hx))) (o := o) (off := 0) (by rcases hlen0 with h3 | h3 <;> omega) (by omega)
        obtain ⟨cap, rest, w', k1, k2, k3, k4, k5⟩ := run_append_new (P := P) (R := R) h0 hu hz hi hzt hzl (base := some ⟨b, o, none⟩) (sLen := len) (sCap := cap0) (m := m) (g1 w) g2 ho1 hfit hroom ho4 g5
        refine ⟨_, w', k1, ?_⟩
        have ho2' : VRs B (cs.take (len * i.size)) old.toList := by simpa using ho2
        have hsz' : (old ++ new ++ rest : Array Value).toList.take (cs.take (len * i.size) ++ l).length = old.toList ++ new.toList := by
          have hl := g3.length
          have hl2 := ho2'.length
          rw [List.length_append, ← hl, ← hl2]
          simp only [Array.toList_append]
          rw [← List.length_append, List.take_left]
        have hj' : HR B (upd h j .gone) w := hr.drop j
        obtain ⟨B', r1, r2, r3, r4, r5, r6⟩ := res_new (v := .sl f 0 (len + m) i.size none) (r := .slice (some ⟨w.heap.size, 0, none⟩) (len + m) cap) hj' hf k5
          (OR_cells (vs := old.toList ++ new.toList) k3 hsz' (VRs.append (ho2'.mono (BLe.setB hf)) (g3.mono (BLe.setB hf))) (fun x hx => by rcases List.mem_append.1 hx with hx | hx; exact ho3 x hx; exact g4 x hx) (.inl (Nat.le_refl _)))
          (by simp only [VR]; exact .inr ⟨_, _, cap, 0, setB_same _ _ _, rfl, by omega, by rw [k4]; omega, .inl rfl, by simp⟩)
        exact ⟨B', r1, r2, r3, k5.kept _, fun q x n hq hb' => up x (r5 q x n hq hb'), r6⟩
  · -- onto a slice whose room is known
    rename_i j off len k' cp y' ro cs objs e1 e2
    simp only [List.cons.injEq, and_true] at e1
    obtain ⟨rfl, rfl⟩ := e1
    have e3 : h j :: (idOf y).map h = .cells ro cs :: objs := e2
    rw [List.cons.injEq] at e3
    obtain ⟨hj, rfl⟩ := e3
    simp only [VR] at hx
    rcases hx with ⟨-, h9, -⟩ | ⟨b, sz, cap0, o, hb, rfl, q1, q2, q3, q4⟩
    · cases h9
    obtain rfl := q4 cp rfl
    split at hq
    · cases hq
    · rename_i r hs
      obtain ⟨c', m, l⟩ := r
      have hob := hr.obj j
      rw [hj] at hob
      rw [hb] at hob
      obtain ⟨arr, T', fz, hh, hsz, hv, h1c, hfz⟩ := OR.at_block hob
      have hcs : cs.length ≤ arr.size := by have := hv.length; simp at this; omega
      split at hq
      · rename_i hfit
        split at hq
        · cases hq
          obtain ⟨hc', rfl, hle⟩ := hc
          have h1c := h1c.own (by have := hv.length; omega)
          obtain ⟨new, g1, g2, g3, g4, g5⟩ := src1 hs hc'
          simp only at hfit hle
          have hrun := run_append_room (P := P) (R := R) h0 hu hz hk (base := some ⟨b, o, none⟩) (sLen := len) (sCap := cap0) (g1 w) (g2 w rfl) hfit
          have hnl : new.toList.length = m * i.size := by simp; exact g5
          have hcl : l.length = m * i.size := by have := g3.length; omega
          rw [Nat.add_mul] at hle
          rcases Nat.eq_zero_or_pos cap0 with hc0 | hc0
          · obtain rfl : m = 0 := by omega
            obtain rfl : len = 0 := by omega
            have hnew : new = #[] := by apply Array.eq_empty_of_size_eq_zero; rw [g5]; simp
            subst hnew
            have hl0 : l = [] := by have := g3.length; simp at this; exact List.length_eq_zero_iff.1 this.symm
            subst hl0
            simp only [storeCells, Sem.run_pure, Result.andThen_ok] at hrun
            have hsame : updH h [(j, AObj.cells false (cs.take (off + 0 * i.size) ++ [] ++ cs.drop (off + (0 + 0) * i.size)))] = h := by
              funext k
              simp only [updH, upd]
              split
              · rename_i e; subst e; rw [hj]; simp
              · rfl
            refine ⟨_, w, hrun, B, BLe.refl B, ?_, ?_, Kept.refl _ _, fun k bb nn hkk hbb => ?_, fun k hkk => .inl hkk⟩
            · simp only [VR]; exact .inr ⟨b, sz, cap0, o, hb, rfl, by omega, by omega, by omega, fun m hm => by cases hm; rfl⟩
            · rw [hsame]; exact hr
            · rw [hsame] at hkk; exact .inr ⟨k, nn, hkk, hbb⟩
          · have ho : o = off := q3.resolve_right (by omega)
            subst ho
            obtain ⟨w', arr', s1, s2, s3, s4, s5, s6, s7, s8⟩ := cells_store (P := P) b T' fz new.toList (o + len * i.size) 0 arr w hh (by rw [hnl]; omega) g4 (by rw [hsz]; exact hfz rfl)
            simp only [addr_add] at hrun
            rw [s1] at hrun
            have hasz : arr'.size = sz := by
              have := congrArg List.length s3
              simp at this
              simp at hnl
              omega
            refine ⟨_, w', hrun, B, BLe.refl B, ?_, ?_, ⟨s4, s5, s6, by rw [s7]; exact Nat.le_refl _, fun x hx hn => s8 x fun e => hn (.inr ⟨j, sz, by rw [hj]; rfl, by rw [e]; exact hb⟩)⟩, fun k bb nn hkk hbb => ?_, fun k hkk => .inl hkk⟩
            · simp only [VR]; exact .inr ⟨b, sz, cap0, o, hb, rfl, hfit, by omega, .inl rfl, fun m hm => by cases hm; rfl⟩
            · refine HR.write (h := h) hr (by rw [hj]; rfl) hb s8 ?_
              rw [← hasz]
              have hpre := mid_write (l := l) (o := o + len * i.size) (n := m * i.size) hcl (by omega) hnl (arr' := arr') (by rw [s3, hnl]; simp) hcs (hv := hv)
              have hl2 : o + (len + m) * i.size = o + len * i.size + m * i.size := by rw [Nat.add_mul]; omega
              rw [hl2]
              refine OR_cells s2 hpre (VRs.append (VRs.append (VRs.take _ hv) g3) (VRs.drop _ hv)) ?_ (by rw [hasz]; exact hfz rfl)
              intro x hx
              rcases List.mem_append.1 hx with hx | hx
              · rcases List.mem_append.1 hx with hx | hx
                · exact h1c x (List.mem_of_mem_take hx)
                · exact g4 x hx
              · exact h1c x (List.mem_of_mem_drop hx)
            · by_cases e : k = j
              · subst e; rw [hb] at hbb; cases hbb; exact .inr ⟨k, sz, by rw [hj]; rfl, hb⟩
              · exact .inr ⟨k, nn, by simpa [updH, upd_ne _ _ e] using hkk, hbb⟩
        · cases hq
      · rename_i hfit
        cases hq
        obtain ⟨hc', rfl, hle, hroom, hna⟩ := hc
        obtain ⟨new, g1, g2, g3, g4, g5⟩ := src1 hs hc'
        have hlen0 : len = 0 ∨ o = off := by rcases q3 with h3 | h3 <;> omega
        obtain ⟨old, ho1, ho2, ho3, ho4⟩ := old_ok (P := P) (k := i.size) (len := len) (cap := cap0) (cs := cs) hh hv (h1c.seg off _ hna (by have := hv.length; omega)) (o := o) (off := off) (by rcases hlen0 with h3 | h3 <;> omega) (by omega)
        obtain ⟨cap, rest, w', k1, k2, k3, k4, k5⟩ := run_append_new (P := P) (R := R) h0 hu hz hi hzt hzl (base := some ⟨b, o, none⟩) (sLen := len) (sCap := cap0) (m := m) (g1 w) g2 ho1 hfit hroom ho4 g5
        refine ⟨_, w', k1, ?_⟩
        have hsz' : (old ++ new ++ rest : Array Value).toList.take ((cs.drop off).take (len * i.size) ++ l).length = old.toList ++ new.toList := by
          have hl := g3.length
          have hl2 := ho2.length
          rw [List.length_append, ← hl, ← hl2]
          simp only [Array.toList_append]
          rw [← List.length_append, List.take_left]
        exact res_new hr hf k5
          (OR_cells (vs := old.toList ++ new.toList) k3 hsz' (VRs.append (ho2.mono (BLe.setB hf)) (g3.mono (BLe.setB hf))) (fun x hx => by rcases List.mem_append.1 hx with hx | hx; exact ho3 x hx; exact g4 x hx) (.inl (Nat.le_refl _)))
          (by simp only [VR]; exact .inr ⟨_, _, cap, 0, setB_same _ _ _, rfl, k2, by rw [k4]; omega, .inl rfl, by simp⟩)
  · cases hq
end
end Go.Am
