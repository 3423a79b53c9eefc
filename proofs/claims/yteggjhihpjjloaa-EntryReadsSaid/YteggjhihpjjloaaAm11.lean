/- Own theory, no program in sight: the operations that write are as the model has them. -/
import Derived.Test.YteggjhihpjjloaaAm10
namespace Go.Am
set_option linter.unusedSimpArgs false
set_option linter.unusedVariables false
set_option maxHeartbeats 4000000
open Go Go.RowKit
set_option linter.unusedVariables false
set_option linter.unusedSimpArgs false

/-- What an operation that writes leaves. -/
def EffRes (B : BM) (h : Nat → AObj) (w : World) (f : Nat) (v : AV) (ups : List (Nat × AObj)) (r : Value) (w' : World) : Prop :=
  ∃ B', BLe B B' ∧ VR B' v r ∧ HR B' (updH h ups) w' ∧ Kept (Mine B h w) w w' ∧ (∀ i b n, (updH h ups i).own = true → B' i = some (b, n) → Mine B h w b) ∧
    ∀ k, B' k ≠ none → B k ≠ none ∨ (f ≤ k ∧ k < f + 16)
structure New (w w' : World) : Prop where
  os : w'.os = w.os
  tape : w'.tape = w.tape
  output : w'.output = w.output
  size : w.heap.size ≤ w'.heap.size
  block : ∀ b, b < w.heap.size → w'.heap[b]? = w.heap[b]?
theorem New.kept {w w' : World} (h : New w w') (mine : Nat → Prop) : Kept mine w w' := ⟨h.os, h.tape, h.output, h.size, fun b hb _ => h.block b hb⟩
section
variable {P : Program} {B : BM} {w : World} {t : Nat → AV} {a : Act}

/-- A new block of cells. -/
theorem res_new {h : Nat → AObj} {f : Nat} {o : AObj} {v : AV} {r : Value} {w' : World} {n : Nat} (hr : HR B h w) (hf : B f = none) (hn : New w w')
    (ho : OR (setB B f (w.heap.size, n)) o (some (w.heap.size, n)) w') (hv : VR (setB B f (w.heap.size, n)) v r) : EffRes B h w f v [(f, o)] r w' := by
  refine ⟨setB B f (w.heap.size, n), BLe.setB hf, hv, HR.new hr hf (Nat.le_refl _) hn.block ho, hn.kept _, fun i b m hi hb => ?_, fun k hk => ?_⟩
  · by_cases e : i = f
    · subst e
      rw [setB_same] at hb
      cases hb
      exact .inl (Nat.le_refl _)
    · rw [setB_ne B _ e] at hb
      exact .inr ⟨i, m, by simpa [updH, upd_ne _ _ e] using hi, hb⟩
  · by_cases e : k = f
    · right; omega
    · rw [setB_ne B _ e] at hk; exact .inl hk
theorem new_push (w : World) (o : Obj) : New w { w with heap := w.heap.push o } := ⟨rfl, rfl, rfl, by simp, fun b hb => by simp [Array.getElem?_push, show b ≠ w.heap.size by omega]⟩
theorem heap_push (w : World) (o : Obj) : ({ w with heap := w.heap.push o } : World).heap[w.heap.size]? = some o := by simp
/-- An owned block whose cells are now these. -/
theorem OR_cells {cs : List AV} {arr : Array Value} {T : TypeId} {b : Nat} {w' : World} {fz : Nat × Nat} (hw : w'.heap[b]? = some (.cells arr T fz)) {vs : List Value} (hp : arr.toList.take cs.length = vs) (hv : VRs B cs vs)
    (h1 : ∀ x ∈ vs, x.oneCell' = true) (hf : fz.2 ≤ fz.1 ∨ arr.size ≤ fz.1) : OR B (.cells false cs) (some (b, arr.size)) w' :=
  .inr ⟨b, arr.size, arr, T, fz, rfl, hw, rfl, by rw [hp]; exact hv, by rw [hp]; exact Ones.of h1, fun _ => hf⟩
theorem OR_all {cs : List AV} {arr : Array Value} {T : TypeId} {b : Nat} {w' : World} (hw : w'.heap[b]? = some (.cells arr T (0, 0))) (hv : VRs B cs arr.toList)
    (h1 : ∀ x ∈ arr.toList, x.oneCell' = true) : OR B (.cells false cs) (some (b, arr.size)) w' :=
  OR_cells hw (List.take_of_length_le (by have := hv.length; omega)) hv h1 (.inl (Nat.le_refl _))

theorem zeros_eq (n k : Nat) (z : Array Value) (hz : z.size = k) (hk : n * k = 0 ∨ 0 < k) : ((Array.range (n * k)).map (z[· % z.size]!)).toList = (List.replicate n z.toList).flatten := by
  apply List.ext_getElem?
  intro i
  have hl : ((List.replicate n z.toList).flatten).length = n * k := by simp [List.length_flatten, hz]
  rcases Nat.lt_or_ge i (n * k) with h | h
  · have hk0 : 0 < k := by rcases hk with h0 | h0 <;> omega
    have h2 : ((List.replicate n z.toList).flatten)[i]? = z.toList[i % k]? := by
      clear hl hk
      induction n generalizing i with
      | zero => omega
      | succ n ih =>
        rw [List.replicate_succ, List.flatten_cons]
        rw [Nat.succ_mul] at h
        rcases Nat.lt_or_ge i k with h' | h'
        · rw [List.getElem?_append_left (by simp; omega), Nat.mod_eq_of_lt h']
        · rw [List.getElem?_append_right (by simp; omega)]
          have := ih (i - k) (by omega)
          simp only [Array.length_toList, hz]
          rw [this, Nat.mod_eq_sub_mod h']
    rw [h2]
    have hlt : i % k < z.size := by rw [hz]; exact Nat.mod_lt _ hk0
    have hlt' : i % z.size < z.size := by rw [hz]; rw [hz] at hlt; exact hlt
    simp [h, hz, getElem!_pos, hlt']
    rw [getElem!_pos z (i % k) hlt]
    simp [hlt]
  · rw [List.getElem?_eq_none (by simp; omega), List.getElem?_eq_none (by omega)]

theorem cells_store (b : Nat) (T : TypeId) (fz : Nat × Nat) : ∀ (vs : List Value) (o i : Nat) (arr : Array Value) (w : World), w.heap[b]? = some (.cells arr T fz) → o + i + vs.length ≤ arr.size → (∀ v ∈ vs, v.oneCell' = true) →
    (fz.2 ≤ fz.1 ∨ arr.size ≤ fz.1) →
    ∃ w' arr', (storeCells ⟨b, o, none⟩ vs i).run P w = .ok () w' ∧ w'.heap[b]? = some (.cells arr' T fz) ∧ arr'.toList = arr.toList.take (o + i) ++ vs ++ arr.toList.drop (o + i + vs.length) ∧
      w'.os = w.os ∧ w'.tape = w.tape ∧ w'.output = w.output ∧ w'.heap.size = w.heap.size ∧ ∀ x, x ≠ b → w'.heap[x]? = w.heap[x]?
  | [], o, i, arr, w, hg, _, _, _ => ⟨w, arr, rfl, hg, by simp, rfl, rfl, rfl, rfl, fun _ _ => rfl⟩
  | v :: rest, o, i, arr, w, hg, hl, h1, hf => by
    have hi : o + i < arr.size := by simp at hl; omega
    have hcell : w.cell? ⟨b, o + i, none⟩ = some arr[o + i] := by simp [World.cell?, hg, hi]
    have hfro : w.frozen? ⟨b, o + i, none⟩ = false := by
      simp only [World.frozen?, hg]
      rcases hf with hf | hf
      · simp; omega
      · simp; omega
    have hst : (store ((⟨b, o, none⟩ : Addr).add i) v).run P w = .ok () (w.setCell ⟨b, o + i, none⟩ v) := by
      rw [addr_add, run_store P w _ v _ (h1 v (by simp)), hcell]
      simp [hfro]
    have hset : (w.setCell ⟨b, o + i, none⟩ v).heap[b]? = some (.cells (arr.setIfInBounds (o + i) v) T fz) := by
      simp only [World.setCell, Array.getElem?_modify, if_true, hg, Option.map_some]
      rfl
    obtain ⟨w', arr', e1, e2, e3, e4, e5, e6, e7, e8⟩ := cells_store b T fz rest o (i + 1) (arr.setIfInBounds (o + i) v) (w.setCell ⟨b, o + i, none⟩ v) hset (by simp at hl ⊢; omega) (fun x hx => h1 x (by simp [hx])) (by simpa using hf)
    refine ⟨w', arr', ?_, e2, ?_, e4, e5, e6, by rw [e7]; simp [World.setCell], fun x hx => ?_⟩
    · simp only [storeCells, Sem.run_bind, hst, Result.andThen_ok]; exact e1
    · rw [e3]
      have e := list_seg_step arr.toList (o + i) v rest (by simp at hl ⊢; omega)
      simpa [Array.toList_setIfInBounds, Nat.add_assoc] using e
    · rw [e8 x hx]
      exact Below.heap_setCell _ _ _ _ (by simpa using hx)

/-- Store. -/
theorem ok_store {h : Nat → AObj} (hr : HR B h w) {T : TypeId} {n : Nat} (hs : sizeT P T = some n) {x y : AV} {vx vy : Value} (hx : VR B x vx) (hy : VR B y vy) {f : Nat} {c : Prop} {v : AV} {ups : List (Nat × AObj)}
    (hq : effStore n f [x, y] ((idOf x).map h) = some (c, v, ups)) (hc : c) :
    ∃ w', (Instr.storeAt T vx vy).run P w = .ok () w' ∧ EffRes B h w f v ups undef w' := by
  unfold effStore at hq
  split at hq
  · rename_i i off z cs os e1 e2
    simp only [List.cons.injEq, and_true] at e1
    obtain ⟨rfl, rfl⟩ := e1
    simp only [idOf, List.map_cons, List.map_nil, List.cons.injEq] at e2
    obtain ⟨hi, -⟩ := e2
    cases hl : cellsA y with
    | none => rw [hl] at hq; cases hq
    | some l =>
      rw [hl] at hq
      cases hq
      obtain ⟨hln, hfit⟩ := hc
      obtain ⟨hvc, hvo⟩ := cells_ok hl hy
      simp only [VR] at hx
      obtain ⟨b, sz, hb, rfl⟩ := hx
      have hob := hr.obj i
      rw [hi] at hob
      rw [hb] at hob
      obtain ⟨arr, T', fz, hh, hsz, hv, h1c, hf⟩ := OR.at_own hob
      have hlen : cs.length ≤ arr.size := by have := hv.length; simp at this; omega
      have hvl : vy.cells.toList.length = n := by have := hvc.length; omega
      obtain ⟨w', arr', e1, e2, e3, e4, e5, e6, e7, e8⟩ := cells_store (P := P) b T' fz vy.cells.toList off 0 arr w hh (by omega) hvo (by rw [hsz]; exact hf rfl)
      refine ⟨w', ?_, B, BLe.refl B, by simp [VR], ?_, ?_, fun j x m hj hbj => ?_, fun k hk => .inl hk⟩
      · unfold Instr.storeAt Instr.sureAddr storeVar
        simp only [Sem.run_bind, Sem.run_pure, Result.andThen_ok, run_size hs]
        rw [if_neg (by simp at hvl ⊢; omega)]
        exact e1
      · have hasz : arr'.size = sz := by
          have := congrArg List.length e3
          simp at this
          simp at hvl
          omega
        refine HR.write (h := h) hr (by rw [hi]; rfl) hb e8 ?_
        rw [← hasz]
        have hpre : arr'.toList.take (cs.take off ++ l ++ cs.drop (off + n)).length = (arr.toList.take cs.length).take off ++ vy.cells.toList ++ (arr.toList.take cs.length).drop (off + n) := by
          have hcl : (cs.take off ++ l ++ cs.drop (off + n)).length = cs.length := by simp; omega
          rw [hcl, e3]
          simp only [Nat.add_zero, hvl]
          rw [List.take_take, Nat.min_eq_left (by omega)]
          rw [List.append_assoc, List.append_assoc, List.take_append, List.take_append]
          have l1 : (List.take off arr.toList).length = off := by simp; omega
          rw [l1, hvl]
          rw [List.take_of_length_le (by rw [l1]; omega), List.take_of_length_le (l := vy.cells.toList) (by rw [hvl]; omega)]
          rw [List.drop_take]
          congr 3
          omega
        refine OR_cells (vs := _) e2 hpre ?_ ?_ (by rw [hasz]; exact hf rfl)
        · exact VRs.append (VRs.append (VRs.take off hv) hvc) (VRs.drop (off + n) hv)
        · intro x hx
          rcases List.mem_append.1 hx with hx | hx
          · rcases List.mem_append.1 hx with hx | hx
            · exact h1c x (List.mem_of_mem_take hx)
            · exact hvo x hx
          · exact h1c x (List.mem_of_mem_drop hx)
      · exact ⟨e4, e5, e6, by rw [e7]; exact Nat.le_refl _, fun x hx hn => e8 x fun e => hn (.inr ⟨i, sz, by rw [hi]; rfl, by rw [e]; exact hb⟩)⟩
      · by_cases e : j = i
        · subst e
          rw [hb] at hbj
          cases hbj
          exact .inr ⟨j, sz, by rw [hi]; rfl, hb⟩
        · exact .inr ⟨j, m, by simpa [updH, upd_ne _ _ e] using hj, hbj⟩
  · cases hq

theorem HR.drop {h : Nat → AObj} (hr : HR B h w) (i : Nat) : HR B (upd h i .gone) w := by
  refine ⟨fun j => ?_, fun j k b n m hjk hj hl hbj => ?_⟩
  · by_cases e : j = i
    · subst e; rw [upd_same]; trivial
    · rw [upd_ne h _ e]; exact hr.obj j
  · by_cases e : j = i
    · subst e; rw [upd_same] at hj; cases hj
    · by_cases e' : k = i
      · subst e'; rw [upd_same] at hl; cases hl
      · rw [upd_ne h _ e] at hj
        rw [upd_ne h _ e'] at hl
        exact hr.apart j k b n m hjk hj hl hbj
/-- An owned block goes over to a new id. -/
theorem HR.move {h : Nat → AObj} {w' : World} {i f b n : Nat} {o : AObj} (hr : HR B h w) (ho : (h i).own = true) (hb : B i = some (b, n)) (hf : B f = none)
    (hk : ∀ x, x ≠ b → w'.heap[x]? = w.heap[x]?) (hn : OR (setB B f (b, n)) o (some (b, n)) w') : HR (setB B f (b, n)) (upd (upd h i .gone) f o) w' := by
  have hif : i ≠ f := fun e => by rw [e, hf] at hb; cases hb
  have old : ∀ j, j ≠ i → (h j).live = true → ∀ x m, B j = some (x, m) → x ≠ b := fun j hj hl x m hx e => by
    subst e
    exact hr.apart i j x n m (Ne.symm hj) ho hl hb hx
  refine ⟨fun j => ?_, fun j k x m m' hjk hj hl hbj hbk => ?_⟩
  · by_cases e : j = f
    · subst e; rw [upd_same, setB_same]; exact hn
    · rw [upd_ne _ o e, setB_ne B _ e]
      by_cases e' : j = i
      · subst e'; rw [upd_same]; trivial
      · rw [upd_ne h _ e']
        exact ((hr.obj j).mono (BLe.setB hf)).congr fun hl x m hx => hk x (old j e' hl x m hx)
  · by_cases e : j = f
    · subst e
      rw [setB_same] at hbj
      cases hbj
      have e' : k ≠ j := Ne.symm hjk
      rw [upd_ne _ o e'] at hl
      rw [setB_ne B _ e'] at hbk
      by_cases e2 : k = i
      · subst e2; rw [upd_same] at hl; cases hl
      · rw [upd_ne h _ e2] at hl
        exact old k e2 hl _ _ hbk rfl
    · rw [upd_ne _ o e] at hj
      rw [setB_ne B _ e] at hbj
      by_cases e2 : j = i
      · subst e2; rw [upd_same] at hj; cases hj
      · rw [upd_ne h _ e2] at hj
        by_cases e' : k = f
        · subst e'
          rw [setB_same] at hbk
          cases hbk
          exact old j e2 (AObj.own_live hj) _ _ hbj rfl
        · rw [upd_ne _ o e'] at hl
          rw [setB_ne B _ e'] at hbk
          by_cases e3 : k = i
          · subst e3; rw [upd_same] at hl; cases hl
          · rw [upd_ne h _ e3] at hl
            exact hr.apart j k x m m' hjk hj hl hbj hbk

theorem str_cells (s : ByteArray) : VRs B (strCells s) (s.data.toList.map fun b => .int .u8 (b.toNat : Int)) ∧ ∀ x ∈ (s.data.toList.map fun b => Value.int .u8 (b.toNat : Int)), x.oneCell' = true := by
  constructor
  · unfold strCells
    have := VRs.vals (B := B) (s.data.toList.map fun b => Value.int .u8 (b.toNat : Int))
    simpa [List.map_map, Function.comp_def] using this
  · intro x hx
    obtain ⟨b, _, rfl⟩ := List.mem_map.1 hx
    rfl
/-- The source of an append or a copy. -/
theorem src_ok {h : Nat → AObj} (hr : HR B h w) {k : Nat} {y : AV} {vy : Value} (hy : VR B y vy) {c : Prop} {m : Nat} {l : List AV}
    (hq : srcCells k y (((idOf y).map h).headD .gone) = some (c, m, l)) (hc : c) :
    (∀ w : World, (Builtin.lenOf vy).run P w = .ok m w) ∧ l.length = m * k ∧ ∀ n, n ≤ m → ∃ arr : Array Value, (∀ w' : World, w'.heap = w.heap → (Builtin.firstCells k n vy).run P w' = .ok arr w') ∧ VRs B (l.take (n * k)) arr.toList ∧ (∀ x ∈ arr.toList, x.oneCell' = true) ∧ arr.size = n * k := by
  unfold srcCells at hq
  split at hq
  · cases hq
    rw [vr_val] at hy
    subst hy
    refine ⟨fun _ => rfl, by simp, fun n hn => ⟨#[], fun _ _ => rfl, ?_, by simp, ?_⟩⟩
    · obtain rfl : n = 0 := by omega
      simp [VRs]
    · obtain rfl : n = 0 := by omega
      simp
  · rename_i q0
    cases hq
    rw [vr_val] at hy
    subst hy
    refine ⟨fun _ => rfl, by simp, fun n hn => ⟨#[], fun _ _ => by (obtain rfl : n = 0 := by omega); simp [Builtin.firstCells, loadCells, loadCellsFrom], ?_, by simp, ?_⟩⟩
    · obtain rfl : n = 0 := by omega
      simp [VRs]
    · obtain rfl : n = 0 := by omega
      simp
  · rename_i s
    cases hq
    subst hc
    rw [vr_val] at hy
    subst hy
    have e : ∀ n, ((s.extract 0 n).data.map fun b => Value.int .u8 (b.toNat : Int)).toList = (s.data.toList.map fun b => Value.int .u8 (b.toNat : Int)).take n := by
      intro n
      simp [ByteArray.extract, ByteArray.copySlice, List.map_take, List.extract_eq_take_drop]
    obtain ⟨h1, h2⟩ := str_cells (B := B) s
    refine ⟨fun _ => rfl, by simp [strCells], fun n hn => ⟨(s.extract 0 n).data.map fun b => .int .u8 b.toNat, fun _ _ => rfl, ?_, ?_, ?_⟩⟩
    · have := VRs.take (n * 1) h1
      rw [Nat.mul_one] at this ⊢
      rw [e]; exact this
    · intro x hx
      rw [e] at hx
      exact h2 x (List.mem_of_mem_take hx)
    · have : s.size = s.data.size := rfl
      simp [ByteArray.extract, ByteArray.copySlice]
      omega
  · rename_i j off len k' cap
    simp only [idOf, List.map_cons, List.map_nil, List.headD_cons] at hq
    split at hq
    · rename_i ro cs hj
      cases hq
      obtain ⟨rfl, hfit, hna⟩ := hc
      simp only [VR] at hy
      rcases hy with ⟨rfl, rfl, q0, rfl⟩ | ⟨b, sz, c, o, hb, rfl, h1, h2, h3, h4⟩
      · refine ⟨fun _ => rfl, by simp, fun n hn => ⟨#[], fun _ _ => by (obtain rfl : n = 0 := by omega); cases q0 <;> simp [Builtin.firstCells, loadCells, loadCellsFrom], ?_, by simp, ?_⟩⟩
        · obtain rfl : n = 0 := by omega
          simp [VRs]
        · obtain rfl : n = 0 := by omega
          simp
      have hob := hr.obj j
      rw [hj] at hob
      rw [hb] at hob
      obtain ⟨arr, T', fz, hh, hsz, hv, h1c, hf⟩ := OR.at_block hob
      have hlen : cs.length ≤ arr.size := by have := hv.length; simp at this; omega
      refine ⟨fun _ => rfl, by simp; omega, fun n hn => ?_⟩
      rcases Nat.eq_zero_or_pos n with h0 | h0
      · subst h0
        exact ⟨#[], fun w' _ => by simp [Builtin.firstCells, loadCells, loadCellsFrom], by simp [VRs], by simp, by simp⟩
      · have ho : o = off := h3.resolve_right (by omega)
        subst ho
        have hmul : n * k' ≤ m * k' := Nat.mul_le_mul_right _ hn
        refine ⟨arr.extract o (o + n * k'), fun w' e => by simp only [Builtin.firstCells]; exact load_cells (by rw [e]; exact hh) (by omega), ?_, ?_, by simp; omega⟩
        · rw [List.take_take, Nat.min_eq_left hmul]
          have := VRs.take (n * k') (VRs.drop o hv)
          rw [Array.toList_extract]
          rw [List.drop_take, List.take_take] at this
          rw [show Min.min (n * k') (cs.length - o) = n * k' by omega] at this
          simpa [List.extract_eq_take_drop] using this
        · intro x hx
          have hlv := hv.length
          refine h1c.seg o (m * k') hna (by omega) x ?_
          rw [Array.toList_extract, List.extract_eq_take_drop] at hx
          have : (arr.toList.drop o).take (n * k') = ((arr.toList.take cs.length).drop o).take (n * k') := by
            rw [List.drop_take, List.take_take, Nat.min_eq_left (by omega)]
          rw [show o + n * k' - o = n * k' by omega, this] at hx
          have hx2 : x ∈ (((arr.toList.take cs.length).drop o).take (m * k')).take (n * k') := by rw [List.take_take, Nat.min_eq_left hmul]; exact hx
          exact List.mem_of_mem_take hx2
    · cases hq
  · cases hq
end
end Go.Am
