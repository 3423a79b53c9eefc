/- Own theory, no program in sight: copy, and what makes a block. -/
import Derived.Test.YteggjhihpjjloaaAm12
namespace Go.Am
set_option linter.unusedSimpArgs false
set_option linter.unusedVariables false
set_option maxHeartbeats 4000000
open Go Go.RowKit
set_option linter.unusedVariables false
set_option linter.unusedSimpArgs false
section
variable {P : Program} {B : BM} {w : World} {t : Nat → AV} {a : Act}

theorem ok_copy {h : Nat → AObj} (hr : HR B h w) {us : Array TypeId} {R sT e : TypeId} {k : Nat} (h0 : us[0]? = some sT) (hu : P.underlying sT = some (.slice e)) (hk : sizeT P e = some k)
    {x y : AV} {vx vy : Value} (hx : VR B x vx) (hy : VR B y vy) {f : Nat} {c : Prop} {v : AV} {ups : List (Nat × AObj)}
    (hq : effCopy k f [x, y] ((idOf x ++ idOf y).map h) = some (c, v, ups)) (hc : c) :
    ∃ r w', (Builtin.copy_ us R #[vx, vy]).run P w = .ok r w' ∧ EffRes B h w f v ups r w' := by
  unfold effCopy at hq
  split at hq
  · rename_i j off len k' cp y' cs objs e1 e2
    simp only [List.cons.injEq, and_true] at e1
    obtain ⟨rfl, rfl⟩ := e1
    have e3 : h j :: (idOf y).map h = .cells false cs :: objs := e2
    rw [List.cons.injEq] at e3
    obtain ⟨hj, rfl⟩ := e3
    simp only [VR] at hx
    rcases hx with ⟨rfl, rfl, q0, rfl⟩ | ⟨b, sz, cap0, o, hb, rfl, q1, q2, q3, q4⟩
    · cases hs : srcCells k y (((idOf y).map h).headD .gone) with
      | none => rw [hs] at hq; cases hq
      | some r =>
        obtain ⟨c', m, l⟩ := r
        rw [hs] at hq
        cases hq
        obtain ⟨hc', rfl, hle⟩ := hc
        obtain ⟨g1, g2, g3⟩ := src_ok (P := P) hr hy hs hc'
        have hm0 : Min.min m 0 = 0 := Nat.min_eq_right (Nat.zero_le _)
        have hm1 : m.min 0 = 0 := hm0
        obtain ⟨new, n1, n2, n3, n4⟩ := g3 0 (Nat.zero_le _)
        have hnew : new = #[] := by apply Array.eq_empty_of_size_eq_zero; rw [n4]; simp
        subst hnew
        have hsame : updH h [(j, AObj.cells false (cs.take off ++ l.take (Min.min m 0 * k') ++ cs.drop (off + Min.min m 0 * k')))] = h := by
          funext q
          simp only [updH, upd]
          split
          · rename_i e; subst e; rw [hj, hm0]; simp
          · rfl
        simp only [hsame]
        refine ⟨.int .i64 (Min.min m 0 : Nat), w, ?_, B, BLe.refl B, by rw [vr_val], by rw [hsame]; exact hr, Kept.refl _ _, fun q bb nn hkk hbb => ?_, fun q hkk => .inl hkk⟩
        · unfold Builtin.copy_
          cases q0 <;> simp [h0, run_und hu, run_size hk, g1, hm1, n1 w rfl, storeCells, goInt]
        · rw [hsame] at hkk; exact .inr ⟨q, nn, hkk, hbb⟩
    cases hs : srcCells k y (((idOf y).map h).headD .gone) with
    | none => rw [hs] at hq; cases hq
    | some r =>
      obtain ⟨c', m, l⟩ := r
      rw [hs] at hq
      cases hq
      obtain ⟨hc', rfl, hle⟩ := hc
      obtain ⟨g1, g2, g3⟩ := src_ok (P := P) hr hy hs hc'
      have hmn : Min.min m len ≤ m := Nat.min_le_left _ _
      obtain ⟨new, n1, n2, n3, n4⟩ := g3 (Min.min m len) hmn
      generalize hn : Min.min m len = n at *
      have hn' : m.min len = n := hn
      have hob := hr.obj j
      rw [hj] at hob
      rw [hb] at hob
      obtain ⟨arr, T', fz, hh, hsz, hv, h1c, hfz⟩ := OR.at_own hob
      have hcs : cs.length ≤ arr.size := by have := hv.length; simp at this; omega
      have hnl : new.toList.length = n * k' := by simp; exact n4
      have hnlen : n ≤ len := by rw [← hn]; exact Nat.min_le_right _ _
      have hmul : n * k' ≤ len * k' := Nat.mul_le_mul_right _ hnlen
      have hcl : (l.take (n * k')).length = n * k' := by have := n2.length; omega
      rcases Nat.eq_zero_or_pos (n * k') with h00 | h00
      · have hnew : new = #[] := by apply Array.eq_empty_of_size_eq_zero; rw [n4, h00]
        subst hnew
        refine ⟨.int .i64 n, w, ?_, B, BLe.refl B, by rw [vr_val], ?_, Kept.refl _ _, fun q bb nn hkk hbb => ?_, fun q hkk => .inl hkk⟩
        · unfold Builtin.copy_
          simp [h0, run_und hu, run_size hk, g1, hn', n1 w rfl, storeCells, goInt]
        · have hsame : updH h [(j, AObj.cells false (cs.take off ++ l.take (n * k') ++ cs.drop (off + n * k')))] = h := by
            funext q
            simp only [updH, upd]
            split
            · rename_i e; subst e; rw [hj, h00]; simp
            · rfl
          rw [hsame]; exact hr
        · have hsame : updH h [(j, AObj.cells false (cs.take off ++ l.take (n * k') ++ cs.drop (off + n * k')))] = h := by
            funext q
            simp only [updH, upd]
            split
            · rename_i e; subst e; rw [hj, h00]; simp
            · rfl
          rw [hsame] at hkk
          exact .inr ⟨q, nn, hkk, hbb⟩
      · have hlen0 : 0 < len := by
          rcases Nat.eq_zero_or_pos n with h1 | h1
          · subst h1; simp at h00
          · omega
        have ho : o = off := q3.resolve_right (by omega)
        subst ho
        obtain ⟨w', arr', s1, s2, s3, s4, s5, s6, s7, s8⟩ := cells_store (P := P) b T' fz new.toList o 0 arr w hh (by rw [hnl]; omega) n3 (by rw [hsz]; exact hfz rfl)
        have hasz : arr'.size = sz := by
          have := congrArg List.length s3
          simp at this
          simp at hnl
          omega
        refine ⟨.int .i64 n, w', ?_, B, BLe.refl B, by rw [vr_val], ?_, ⟨s4, s5, s6, by rw [s7]; exact Nat.le_refl _, fun x hx hn => s8 x fun e => hn (.inr ⟨j, sz, by rw [hj]; rfl, by rw [e]; exact hb⟩)⟩, fun q bb nn hkk hbb => ?_, fun q hkk => .inl hkk⟩
        · unfold Builtin.copy_
          simp [h0, run_und hu, run_size hk, g1, hn', n1 w rfl, s1, goInt]
        · refine HR.write (h := h) hr (by rw [hj]; rfl) hb s8 ?_
          rw [← hasz]
          have hpre := mid_write (l := l.take (n * k')) (o := o) (n := n * k') hcl (by omega) hnl (arr' := arr') (by rw [s3, hnl]; simp) hcs (hv := hv)
          refine OR_cells s2 hpre (VRs.append (VRs.append (VRs.take _ hv) n2) (VRs.drop _ hv)) ?_ (by rw [hasz]; exact hfz rfl)
          intro x hx
          rcases List.mem_append.1 hx with hx | hx
          · rcases List.mem_append.1 hx with hx | hx
            · exact h1c x (List.mem_of_mem_take hx)
            · exact n3 x hx
          · exact h1c x (List.mem_of_mem_drop hx)
        · by_cases e : q = j
          · subst e; rw [hb] at hbb; cases hbb; exact .inr ⟨q, sz, by rw [hj]; rfl, hb⟩
          · exact .inr ⟨q, nn, by simpa [updH, upd_ne _ _ e] using hkk, hbb⟩
  · cases hq

theorem zeros_rel (n : Nat) {z : List Value} (h1 : ∀ x ∈ z, x.oneCell' = true) : VRs B (zeros n z) (List.replicate n z).flatten ∧ ∀ x ∈ (List.replicate n z).flatten, x.oneCell' = true := by
  refine ⟨VRs.vals _, fun x hx => ?_⟩
  obtain ⟨l, hl, hx⟩ := List.mem_flatten.1 hx
  rw [List.mem_replicate] at hl
  exact h1 x (hl.2 ▸ hx)

theorem fillA_len : ∀ {ps : List (Nat × Nat)} {xs cells l : List AV}, fillA cells ps xs = some l → l.length = cells.length
  | [], [], cells, l, h => by simp only [fillA, Option.some.injEq] at h; rw [h]
  | [], _ :: _, cells, l, h => by simp [fillA] at h
  | (off, n) :: ps, [], cells, l, h => by simp [fillA] at h
  | (off, n) :: ps, x :: xs, cells, l, h => by
    simp only [fillA] at h
    split at h
    · cases h
    · split at h
      · rename_i hh
        have := fillA_len h
        simp at this
        omega
      · cases h
theorem eqOp_kind {neg : Bool} {T : TypeId} {op : AOp} (h : eqOp P neg T = some op) : isFresh op = false ∧ isEff op = false := by
  unfold eqOp at h
  cases hu : P.underlying T with
  | none => simp [hu] at h
  | some d =>
    rw [hu] at h
    cases d <;> simp only [reduceCtorEq, Option.some.injEq] at h <;> first
      | (subst h; exact ⟨rfl, rfl⟩)
      | skip
    · split at h <;> simp only [reduceCtorEq, Option.some.injEq] at h
      subst h; exact ⟨rfl, rfl⟩
    · split at h
      · cases h
      · cases hl : leaves P 10 T 0 <;> rw [hl] at h <;> simp at h
        subst h; exact ⟨rfl, rfl⟩

/-- What makes a block. -/
theorem wrap64 {n : Int} (h : -9223372036854775808 ≤ n) (h' : n ≤ 9223372036854775807) : IntKind.i64.wrap n = n := by simp only [IntKind.wrap, IntKind.signed, IntKind.bits]; simp; omega
/-- Onto the nil slice so many zeros. -/
theorem run_grow {us : Array TypeId} {R sT e U : TypeId} {kk : IntKind} {i : TypeInfo} {z : List Value} (h0 : us[0]? = some sT) (hu : P.underlying sT = some (.slice e)) (h1 : us[1]? = some U) (hU : P.underlying U = some (.int kk))
    (hi : P.info? e = some i) (hzt : zeroT P e = some z) (hzl : z.length = i.size) {n : Int} (hn : 0 < n) (hroom : appRoom n.toNat i.bytes) :
    ∃ cap arr w', (Builtin.append_ us R #[.slice none 0 0, .int .i64 n]).run P w = .ok (.slice (some ⟨w.heap.size, 0, none⟩) n.toNat cap) w' ∧ n.toNat ≤ cap ∧ w'.heap[w.heap.size]? = some (.cells arr e (0, 0)) ∧ arr.size = cap * i.size ∧ New w w' := by
  obtain ⟨zv, hz1, hz2, hz3⟩ := run_zero hzt w
  have hz1' : ∀ w' : World, (zeroValue e).run P w' = .ok zv w' := fun w' => by
    obtain ⟨zv', g1, g2, g3⟩ := run_zero hzt w'
    have : zv' = zv := by
      have r1 : (zeroValue e).run P w' = .ok zv w' := by
        unfold zeroValue at hz1 ⊢
        simp only [Sem.run_bind, run_info hi, Result.andThen_ok] at hz1 ⊢
        cases hzz : i.zero with
        | none => rw [hzz] at hz1; simp at hz1
        | some q => rw [hzz] at hz1; simp at hz1 ⊢; exact hz1
      rw [g1] at r1
      cases r1
      rfl
    rw [this] at g1
    exact g1
  have hk : sizeT P e = some i.size := by simp [sizeT, hi]
  obtain ⟨hr1, hr2⟩ := hroom
  obtain ⟨m, rfl⟩ : ∃ m : Nat, n = (m : Int) := ⟨n.toNat, by omega⟩
  simp only [Int.toNat_natCast] at hr1 ⊢
  have hneed : m ≤ 140737488355328 := Nat.le_trans (Nat.le_mul_of_pos_right _ hr2) hr1
  have hw : IntKind.i64.wrap (m : Int) = m := wrap64 (by omega) (by omega)
  have g2 : ¬ (281474976710656 < Builtin.nextslicecap m 0 * i.bytes) := by
    have := growslice_fits (need := m) (old := 0) (bytes := i.bytes) (by omega) hr1
    omega
  have g3 : ¬ ((m : Int) < 0) := by omega
  have g4 : ¬ (281474976710656 < (m : Int) * (i.bytes : Int)) := by
    have : ((m * i.bytes : Nat) : Int) ≤ ((140737488355328 : Nat) : Int) := Int.ofNat_le.2 hr1
    rw [Int.natCast_mul] at this
    omega
  have g5 : ¬ (9223372036854775807 < (m : Int)) := by omega
  have g6 : ¬ m ≤ 0 := by omega
  have g7 : m ≠ 0 := by omega
  have hq : (Question.appendCap m 0 e).forced = false := rfl
  generalize hcap : (Question.appendCap m 0 e).cut (w.tape w.drawn (Question.appendCap m 0 e)) = cap
  have hcapge : m ≤ cap := by rw [← hcap]; simp only [Question.cut]; omega
  have hs := run_size (P := P) hk w
  have hzs : zv.cells.size = i.size := by have := congrArg List.length hz2; simp at this; omega
  by_cases hms : m * i.size = 0
  · refine ⟨cap, #[] ++ #[] ++ Builtin.zeroCells zv.cells (cap - m), { w.drew with heap := w.heap.push (.cells (#[] ++ #[] ++ Builtin.zeroCells zv.cells (cap - m)) e) }, ?_, hcapge, heap_push w.drew _, ?_, ?_⟩
    · simp [Builtin.append_, h0, h1, run_und hu, run_und hU, hs, run_info hi, hw, asInt, asIntOf, g2, g3, g4, g5, g6, hq, hcap, hms, hz1' w.drew, newRow, Builtin.firstCells, g7]
      rfl
    · have : m * i.size = 0 := hms
      simp only [Array.size_append, Builtin.zeroCells, Array.size_map, Array.size_range, hzs, Array.size_empty]
      rw [Nat.sub_mul, this]; omega
    · exact ⟨rfl, rfl, rfl, by simp, fun b hb => by simp [Array.getElem?_push, show b ≠ w.heap.size by omega]⟩
  · refine ⟨cap, #[] ++ Builtin.zeroCells zv.cells m ++ Builtin.zeroCells zv.cells (cap - m), { w.drew with heap := w.heap.push (.cells (#[] ++ Builtin.zeroCells zv.cells m ++ Builtin.zeroCells zv.cells (cap - m)) e) }, ?_, hcapge, heap_push w.drew _, ?_, ?_⟩
    · simp [Builtin.append_, h0, h1, run_und hu, run_und hU, hs, run_info hi, hw, asInt, asIntOf, g2, g3, g4, g5, g6, hq, hcap, hms, hz1' w.drew, newRow, Builtin.firstCells, g7]
      rfl
    · simp only [Array.size_append, Builtin.zeroCells, Array.size_map, Array.size_range, hzs, Array.size_empty]
      rw [Nat.zero_add, ← Nat.add_mul]; congr 1; omega
    · exact ⟨rfl, rfl, rfl, by simp, fun b hb => by simp [Array.getElem?_push, show b ≠ w.heap.size by omega]⟩
theorem fresh_ok {h : Nat → AObj} (hr : HR B h w) {o : Oper} {op : AOp} {xs : List Opd} (hcomp : compileOp P o = some (op, xs)) (ht : ∀ j, VR B (t j) (a.tmps.getD j undef)) {f : Nat} (hf : B f = none)
    {c : Prop} {v : AV} {ob : AObj} (hq : fresh op (xs.map (evO t)) f = some (c, v, ob)) (hc : c) :
    ∃ r w', (execOp a.eval o).run P w = .ok (.value r) w' ∧ EffRes B h w f v [(f, ob)] r w' := by
  have fin : ∀ {s : Sem Value}, execOp a.eval o = (do pure (.value (← s))) → (∃ r w', s.run P w = .ok r w' ∧ EffRes B h w f v [(f, ob)] r w') → ∃ r w', (execOp a.eval o).run P w = .ok (.value r) w' ∧ EffRes B h w f v [(f, ob)] r w' := by
    intro s e ⟨r, w', h1, h2⟩
    rw [e]
    exact ⟨r, w', valueRun h1, h2⟩
  have nf : isFresh op = true := by
    cases op <;> first | rfl | (simp [fresh] at hq; done)
  cases hop : o.op
  case alloc T =>
    simp only [compileOp, hop] at hcomp
    cases hz : zeroT P T with
    | none => rw [hz] at hcomp; cases hcomp
    | some z =>
      rw [hz] at hcomp
      simp only [Option.map_some, Option.some.injEq, Prod.mk.injEq] at hcomp
      obtain ⟨rfl, rfl⟩ := hcomp
      simp only [fresh, Option.some.injEq, Prod.mk.injEq] at hq
      obtain ⟨-, rfl, rfl⟩ := hq
      obtain ⟨zv, z1, z2, z3⟩ := run_zero hz w
      refine fin (s := Instr.alloc T true (.tuple #[])) (by simp only [execOp, hop]) ⟨.pointer (some ⟨w.heap.size, 0, none⟩), _, ?_, res_new hr hf (new_push w (.cells zv.cells T)) (OR_all (heap_push w _) (by rw [z2]; exact VRs.vals z) (by rw [z2]; exact z3)) (by simp only [VR]; exact ⟨_, _, setB_same _ _ _, rfl⟩)⟩
      simp [Instr.alloc, z1, newVar, newRow]
  case box T x =>
    simp only [compileOp, hop, Option.some.injEq, Prod.mk.injEq] at hcomp
    obtain ⟨rfl, rfl⟩ := hcomp
    simp only [fresh, List.map_cons, List.map_nil] at hq
    cases hl : cellsA (evO t (opd x)) with
    | none => rw [hl] at hq; cases hq
    | some l =>
      rw [hl] at hq
      simp only [Option.map_some, Option.some.injEq, Prod.mk.injEq] at hq
      obtain ⟨-, rfl, rfl⟩ := hq
      obtain ⟨c1, c2⟩ := cells_ok hl (ev_rel ht x)
      refine fin (s := Instr.box T (a.eval x)) (by simp only [execOp, hop]) ⟨.pointer (some ⟨w.heap.size, 0, none⟩), _, ?_, res_new hr hf (new_push w (.cells (a.eval x).cells T)) (OR_all (heap_push w _) (c1.mono (BLe.setB hf)) c2) (by simp only [VR]; exact ⟨_, _, setB_same _ _ _, rfl⟩)⟩
      simp [Instr.box, newVar, newRow]
  case makeMap T r =>
    cases r <;> simp only [compileOp, hop, reduceCtorEq, Option.some.injEq, Prod.mk.injEq] at hcomp
    obtain ⟨rfl, rfl⟩ := hcomp
    simp only [fresh, Option.some.injEq, Prod.mk.injEq] at hq
    obtain ⟨-, rfl, rfl⟩ := hq
    refine fin (s := Instr.makeMap T none) (by simp only [execOp, hop]; rfl) ⟨.map (some w.heap.size), _, ?_, res_new (n := 0) hr hf (new_push w (.map #[] 0)) ⟨w.heap.size, 0, #[], 0, rfl, heap_push w _, by simp [ER], by simp [born]⟩ (by simp only [VR]; exact ⟨_, _, setB_same _ _ _, rfl⟩)⟩
    simp [Instr.makeMap]
  case buildSlice T n ps =>
    simp only [compileOp, hop] at hcomp
    split at hcomp
    · rename_i r hr'
      obtain ⟨k, by0, z⟩ := r
      obtain ⟨e, i0, hu, hi0, hz, hzl0, hk1, -⟩ := elemT_spec hr'
      · simp only at hcomp hz hzl0 hk1
        have hzl : z.length = k := by omega
        have hk : sizeT P e = some k := by simp [sizeT, hi0, hk1]
        split at hcomp
        · rename_i hcond
          obtain ⟨hc1, hk0⟩ := hcond
          cases hq' : partsOf (fun i => some (i * k, k)) ps with
          | none => rw [hq'] at hcomp; cases hcomp
          | some q =>
            rw [hq'] at hcomp
            simp only [Option.map_some, Option.some.injEq, Prod.mk.injEq] at hcomp
            obtain ⟨rfl, rfl⟩ := hcomp
            simp only [fresh, List.map_map, Function.comp_def] at hq
            cases hfl : fillA (zeros n z) q (ps.toList.map fun x => evO t (opd x.2)) with
            | none => rw [hfl] at hq; cases hq
            | some l =>
              rw [hfl] at hq
              simp only [Option.map_some, Option.some.injEq, Prod.mk.injEq] at hq
              obtain ⟨-, rfl, rfl⟩ := hq
              obtain ⟨zv, z1, z2, z3⟩ := run_zero hz w
              obtain ⟨zr1, zr2⟩ := zeros_rel (B := B) n z3
              have hzs : zv.cells.size = k := by have := congrArg List.length z2; simp at this; omega
              -- the zero cells
              obtain ⟨base, hb1, hb2⟩ : ∃ base : Array Value, ((do let zero ← (if n * k = 0 then pure #[] else do pure (← zeroValue e).cells : Sem (Array Value)); pure ((Array.range (n * k)).map (zero[· % zero.size]!)) : Sem (Array Value)).run P w) = .ok base w ∧ base.toList = (List.replicate n z).flatten := by
                by_cases hnk : n * k = 0
                · refine ⟨#[], by simp [hnk], ?_⟩
                  have : n = 0 := by rcases Nat.mul_eq_zero.1 hnk with h | h <;> omega
                  subst this; simp
                · refine ⟨(Array.range (n * k)).map (zv.cells[· % zv.cells.size]!), by simp [hnk, z1], ?_⟩
                  rw [← z2]; exact zeros_eq n k zv.cells hzs (.inr hk0)
              have hvs := evs_rel ht (ps.toList.map (·.2))
              simp only [List.map_map, Function.comp_def] at hvs
              obtain ⟨out, ho, hv, hv1⟩ := fill_ok q _ _ l hfl (fun i => some (i * k, k)) (ps.toList.map (·.1)) _ base (by
                rw [← partsL_mapM]
                exact hq') hvs (by rw [hb2]; exact zr1) (by rw [hb2]; exact zr2)
              have hzip : (ps.toList.map (·.1)).zip (ps.toList.map fun x => a.eval x.2) = (ps.map fun (i, x) => (i, a.eval x)).toList := by
                rw [Array.toList_map]
                generalize ps.toList = L
                induction L with
                | nil => rfl
                | cons x L ih => simp [ih]
              rw [hzip] at ho
              have hol : out.size = n * k := by
                have h1 := hv.length
                have h2 := fillA_len hfl
                simp [zeros, List.length_flatten, hzl] at h2
                simp at h1
                omega
              refine fin (s := Instr.buildSlice T n (ps.map fun (i, x) => (i, a.eval x))) (by simp only [execOp, hop]) ⟨.slice (some ⟨w.heap.size, 0, none⟩) n n, _, ?_, res_new hr hf (new_push w (.cells out e)) (OR_all (heap_push w _) (hv.mono (BLe.setB hf)) hv1)
                (by simp only [VR]; exact .inr ⟨_, _, n, 0, setB_same _ _ _, rfl, Nat.le_refl _, by omega, .inl rfl, fun m hm => by cases hm; rfl⟩)⟩
              unfold Instr.buildSlice
              simp only [Sem.run_bind, run_und hu, Result.andThen_ok, run_size hk]
              have hng : ¬ (n * k > 2 ^ 24) := by omega
              simp only [Sem.run_ite, if_neg hng]
              by_cases hnk : n * k = 0
              · rw [if_pos hnk] at hb1
                simp only [Sem.run_bind, Sem.run_pure, Result.andThen_ok, Result.ok.injEq, and_true] at hb1
                simp only [hnk, if_true, Sem.run_bind, Sem.run_pure, Result.andThen_ok]
                simp only [hnk] at hb1
                rw [hb1, ho]
                simp [newRow]
              · rw [if_neg hnk] at hb1
                simp only [Sem.run_bind, z1, Sem.run_pure, Result.andThen_ok, Result.ok.injEq, and_true] at hb1
                simp only [if_neg hnk, Sem.run_bind, z1, Sem.run_pure, Result.andThen_ok]
                rw [hb1, ho]
                simp [newRow]
        · cases hcomp
    · cases hcomp
  case makeSlice T l' c' =>
    simp only [compileOp, hop] at hcomp
    split at hcomp
    · rename_i r hr'
      obtain ⟨ks, bys, z⟩ := r
      obtain ⟨e, i, hu, hi, hz, hzl, hk1, hb1'⟩ := elemT_spec hr'
      · simp only at hk1 hb1'
        subst hk1; subst hb1'
        simp only at hz hzl
        · simp only [Option.some.injEq, Prod.mk.injEq] at hcomp
          obtain ⟨rfl, rfl⟩ := hcomp
          simp only [fresh, List.map_cons, List.map_nil] at hq
          split at hq
          · rename_i k1 l k2 c e1
            simp only [List.cons.injEq, and_true] at e1
            have hl := one_rel ht e1.1
            have hcc := one_rel ht e1.2
            rw [vr_val] at hl hcc
            simp only [Option.some.injEq, Prod.mk.injEq] at hq
            obtain ⟨rfl, rfl, rfl⟩ := hq
            obtain ⟨p1, p2, p3, p4⟩ := hc
            obtain ⟨zv, z1, z2, z3⟩ := run_zero hz w
            obtain ⟨zr1, zr2⟩ := zeros_rel (B := B) c.toNat z3
            have hzs : zv.cells.size = i.size := by have := congrArg List.length z2; simp at this; omega
            have hwl : IntKind.i64.wrap l = l := by rw [IntKind.wrap_i64]; omega
            have hwc : IntKind.i64.wrap c = c := by rw [IntKind.wrap_i64]; omega
            obtain ⟨base, hb1, hb2, hb3⟩ : ∃ base : Array Value, ((do let zero ← (if c.toNat * i.size = 0 then pure #[] else do pure (← zeroValue e).cells : Sem (Array Value)); pure ((Array.range (c.toNat * i.size)).map (zero[· % zero.size]!)) : Sem (Array Value)).run P w) = .ok base w ∧ base.toList = (List.replicate c.toNat z).flatten ∧ base.size = c.toNat * i.size := by
              by_cases hnk : c.toNat * i.size = 0
              · refine ⟨#[], by simp [hnk], ?_, by simp [hnk]⟩
                rcases Nat.mul_eq_zero.1 hnk with h | h
                · rw [h]; simp
                · have : z = [] := List.length_eq_zero_iff.1 (by omega)
                  subst this; simp
              · refine ⟨(Array.range (c.toNat * i.size)).map (zv.cells[· % zv.cells.size]!), by simp [hnk, z1], ?_, by simp⟩
                rw [← z2]; exact zeros_eq c.toNat i.size zv.cells hzs (.inr (by rcases Nat.eq_zero_or_pos i.size with h | h; (exfalso; exact hnk (by rw [h]; simp)); exact h))
            refine fin (s := Instr.makeSlice T (a.eval l') (a.eval c')) (by simp only [execOp, hop]) ⟨.slice (some ⟨w.heap.size, 0, none⟩) l.toNat c.toNat, _, ?_, res_new hr hf (new_push w (.cells base e)) (OR_all (heap_push w _) (by rw [hb2]; exact zr1.mono (BLe.setB hf)) (by rw [hb2]; exact zr2))
              (by simp only [VR]; exact .inr ⟨_, _, c.toNat, 0, setB_same _ _ _, rfl, by omega, by omega, .inl rfl, fun m hm => by cases hm; rfl⟩)⟩
            rw [hl, hcc]
            unfold Instr.makeSlice
            simp only [Sem.run_bind, run_und hu, Result.andThen_ok, asInt, asIntOf, Sem.run_pure, run_info hi, hwl, hwc]
            have g1 : ¬ ((decide (c < 0) || decide ((i.bytes : Int) * c > 2 ^ 48)) = true ∨ l < 0 ∨ l > c) := by
              simp
              omega
            have g2 : ((decide (c < 0) || decide ((i.bytes : Int) * c > 2 ^ 48)) || decide (l < 0) || decide (l > c)) = false := by
              simp
              omega
            simp only [g2, Bool.false_eq_true, if_false, Sem.run_bind, run_askRoom, Result.andThen_ok, run_size (show sizeT P e = some i.size by simp [sizeT, hi]), Sem.run_ite]
            by_cases hnk : c.toNat * i.size = 0
            · rw [if_pos hnk] at hb1
              simp only [Sem.run_bind, Sem.run_pure, Result.andThen_ok, Result.ok.injEq, and_true] at hb1
              simp only [hnk, if_true, Sem.run_bind, Sem.run_pure, Result.andThen_ok]
              simp only [hnk] at hb1
              rw [hb1]
              simp [newRow]
            · rw [if_neg hnk] at hb1
              simp only [Sem.run_bind, z1, Sem.run_pure, Result.andThen_ok, Result.ok.injEq, and_true] at hb1
              simp only [if_neg hnk, Sem.run_bind, z1, Sem.run_pure, Result.andThen_ok]
              rw [hb1]
              simp [newRow]
          · cases hq
    · cases hcomp
  case convert S T x =>
    simp only [compileOp, hop] at hcomp
    split at hcomp
    · simp only [Option.some.injEq, Prod.mk.injEq] at hcomp; obtain ⟨rfl, rfl⟩ := hcomp; cases nf
    · simp only [Option.some.injEq, Prod.mk.injEq] at hcomp; obtain ⟨rfl, rfl⟩ := hcomp; cases nf
    · split at hcomp <;> first | (cases hcomp; done) | (simp only [Option.some.injEq, Prod.mk.injEq] at hcomp; obtain ⟨rfl, rfl⟩ := hcomp; cases nf)
    · rename_i e h1 h2
      split at hcomp
      · rename_i h3
        simp only [Option.some.injEq, Prod.mk.injEq] at hcomp
        obtain ⟨rfl, rfl⟩ := hcomp
        simp only [fresh, List.map_cons, List.map_nil] at hq
        split at hq
        · rename_i s e1
          simp only [List.cons.injEq, and_true] at e1
          have hx := one_rel ht e1
          rw [vr_val] at hx
          simp only [Option.some.injEq, Prod.mk.injEq] at hq
          obtain ⟨rfl, rfl, rfl⟩ := hq
          generalize hcap : (Question.appendCap s.size 0 e).cut (w.tape w.drawn (Question.appendCap s.size 0 e)) = cap
          have hge : s.size ≤ cap := by rw [← hcap]; simp only [Question.cut]; omega
          obtain ⟨sc1, sc2⟩ := str_cells (B := B) s
          let arr : Array Value := (s.data.map fun b => Value.int .u8 (b.toNat : Int)) ++ Array.replicate (cap - s.size) (.int .u8 0)
          have hasz : arr.size = cap := by simp only [arr, Array.size_append, Array.size_map, Array.size_replicate]; have : s.data.size = s.size := rfl; omega
          let w1 : World := { w with heap := w.heap.push (.cells arr e), drawn := w.drawn + 1 }
          let w2 : World := w1.freeze { block := w.heap.size, off := arr.size } 1
          have hw2 : w2.heap[w.heap.size]? = some (.cells arr e (arr.size, arr.size + 1)) := by
            simp only [w2, World.freeze]
            rw [if_neg (by omega)]
            simp only [w1, Array.getElem?_modify, if_true]
            simp
          have hnew : New w w2 := by
            refine ⟨by simp [w2, World.freeze, w1], by simp [w2, World.freeze, w1], by simp [w2, World.freeze, w1], by simp [w2, World.freeze, w1], fun b hb => ?_⟩
            simp only [w2, World.freeze]
            rw [if_neg (by omega)]
            simp only [w1, Array.getElem?_modify]
            rw [if_neg (by omega)]
            simp [Array.getElem?_push, show b ≠ w.heap.size by omega]
          have htk : arr.toList.take (strCells s).length = s.data.toList.map fun b => Value.int .u8 (b.toNat : Int) := by
            simp only [arr, Array.toList_append, Array.toList_map]
            rw [show (strCells s).length = (s.data.toList.map fun b => Value.int .u8 (b.toNat : Int)).length by simp [strCells], List.take_left]
          refine fin (s := convert S T (a.eval x)) (by simp only [execOp, hop]) ⟨.slice (some ⟨w.heap.size, 0, none⟩) s.size cap, w2, ?_, res_new (n := arr.size) hr hf hnew (OR_cells hw2 htk (sc1.mono (BLe.setB hf)) sc2 (.inr (Nat.le_refl _)))
            (by simp only [VR]; exact .inr ⟨_, _, cap, 0, setB_same _ _ _, rfl, hge, by omega, .inl rfl, by simp⟩)⟩
          rw [hx]
          have hfo : (Question.appendCap s.size 0 e).forced = false := rfl
          simp only [convert, Sem.run_bind, run_und h1, run_und h2, run_und h3, Result.andThen_ok, Conv.stringToBytes, run_choose, hfo, Bool.false_eq_true, if_false, hcap]
          simp only [newRow, Sem.run_bind, run_newObj, Result.andThen_ok, Sem.run_pure, markStringish, run_shape]
          have hsh : (World.mk (w.heap.push (.cells arr e)) w.tape (w.drawn + 1) w.os w.output).shape? w.heap.size = some (e, arr.size) := by simp [World.shape?]
          have hsh' := hsh
          simp only [arr] at hsh
          rw [hsh]
          simp only [run_freeze, Result.andThen_ok]
          rfl
        · cases hq
      · cases hcomp
    · cases hcomp
  case call cl =>
    have ex : execOp a.eval o = (do let d ← resolve a.eval cl o.type; invoke d.target d.args) := by simp only [execOp, hop]
    simp only [compileOp, hop] at hcomp
    unfold call? at hcomp
    split at hcomp
    · simp only [Option.some.injEq, Prod.mk.injEq] at hcomp; obtain ⟨rfl, rfl⟩ := hcomp; cases nf
    · simp only [Option.some.injEq, Prod.mk.injEq] at hcomp; obtain ⟨rfl, rfl⟩ := hcomp; cases nf
    · cases hcomp
    · rename_i b hb
      have hat : ∀ {T : TypeId} {l : List TypeId}, cl.argTypes.toList = T :: l → cl.argTypes[0]? = some T := fun e => by
        rw [← Array.getElem?_toList, e]; rfl
      have hat1 : ∀ {T U : TypeId}, cl.argTypes.toList = [T, U] → cl.argTypes[1]? = some U := fun e => by
        rw [← Array.getElem?_toList, e]; rfl
      have har2 : ∀ {x y : Operand}, cl.args.toList = [x, y] → cl.args.map a.eval = #[a.eval x, a.eval y] := fun e => by
        apply Array.ext'; simp [e]
      split at hcomp
      case h_5 T U x y ets exs =>
        split at hcomp
        · rename_i r d hr0 hd
          obtain ⟨ks, bys, z⟩ := r
          obtain ⟨e, i, hu, hi, hz, hzl, hk1, hb1⟩ := elemT_spec hr0
          simp only at hk1 hb1
          subst hk1; subst hb1
          simp only at hz hzl
          split at hcomp
          · simp only [Option.some.injEq, Prod.mk.injEq] at hcomp; obtain ⟨rfl, rfl⟩ := hcomp; cases nf
          · simp only [Option.some.injEq, Prod.mk.injEq] at hcomp; obtain ⟨rfl, rfl⟩ := hcomp; cases nf
          · rename_i kk
            simp only [Option.some.injEq, Prod.mk.injEq] at hcomp
            obtain ⟨rfl, rfl⟩ := hcomp
            simp only [fresh, List.map_cons, List.map_nil] at hq
            split at hq
            · rename_i n e1
              simp only [List.cons.injEq, and_true] at e1
              obtain ⟨ex1, ey1⟩ := e1
              have hx := one_rel ht ex1
              have hy := one_rel ht ey1
              rw [vr_val] at hx hy
              cases hq
              obtain ⟨hn, hroom⟩ := hc
              have ea : cl.args.map a.eval = #[.slice none 0 0, .int .i64 n] := by rw [har2 exs, hx, hy]
              rcases Int.lt_or_eq_of_le hn with hn0 | hn0
              · obtain ⟨cap, arr, w', k1, k2, k3, k4, k5⟩ := run_grow (P := P) (R := o.type) (w := w) (hat ets) hu (hat1 ets) hd hi hz hzl hn0 hroom
                refine ⟨_, w', by rw [ex]; exact callNext hb (fun cs => by rw [ea]; rfl) k1, res_new hr hf k5 (OR_cells (cs := []) (vs := []) k3 (by simp) (by simp [VRs]) (by simp) (.inl (Nat.le_refl _))) ?_⟩
                simp only [VR]
                exact .inr ⟨_, _, cap, 0, setB_same _ _ _, rfl, k2, by rw [k4]; simp, .inl rfl, by simp⟩
              · subst hn0
                have k1 : (Builtin.append_ cl.argTypes o.type #[.slice none 0 0, .int .i64 0]).run P w = .ok (.slice none 0 0) w := by
                  have hs := run_size (P := P) (show sizeT P e = some i.size by simp [sizeT, hi]) w
                  have hw : IntKind.i64.wrap 0 = 0 := rfl
                  simp [Builtin.append_, hat ets, hat1 ets, run_und hu, run_und hd, hs, run_info hi, hw, asInt, asIntOf]
                refine ⟨_, w, by rw [ex]; exact callNext hb (fun cs => by rw [ea]; rfl) k1, B, BLe.refl B, by simp [VR], ⟨fun j => ?_, fun j k b n n' hjk hj hl hbj hbk => ?_⟩, Kept.refl _ _, fun j b n hj hb => ?_, fun k hk' => .inl hk'⟩
                · by_cases ej : j = f
                  · subst ej; simp only [updH, upd_same, hf]; exact .inl ⟨rfl, rfl⟩
                  · simp only [updH, upd_ne _ _ ej]; exact hr.obj j
                · by_cases ej : j = f
                  · subst ej; rw [hf] at hbj; cases hbj
                  · by_cases ek : k = f
                    · subst ek; rw [hf] at hbk; cases hbk
                    · simp only [updH, upd_ne _ _ ej] at hj
                      simp only [updH, upd_ne _ _ ek] at hl
                      exact hr.apart j k b n n' hjk hj hl hbj hbk
                · by_cases ej : j = f
                  · subst ej; rw [hf] at hb; cases hb
                  · simp only [updH, upd_ne _ _ ej] at hj
                    exact .inr ⟨j, n, hj, hb⟩
            · cases hq
          · cases hcomp
        · cases hcomp
      all_goals
        exfalso
        (repeat' split at hcomp) <;> first
          | (cases hcomp; done)
          | (simp only [Option.some.injEq, Prod.mk.injEq] at hcomp; obtain ⟨rfl, rfl⟩ := hcomp; simp [isFresh] at nf; done)
          | (cases hz : sizeT P _ <;> rw [hz] at hcomp <;> simp at hcomp <;> obtain ⟨rfl, rfl⟩ := hcomp <;> simp [isFresh] at nf; done)
          | (cases hz : leaves P 10 _ 0 <;> rw [hz] at hcomp <;> simp at hcomp <;> obtain ⟨rfl, rfl⟩ := hcomp <;> simp [isFresh] at nf; done)
  case binOp bop T x y yT =>
    exfalso
    have : (∃ neg, (eqOp P neg T).map (fun op => (op, [opd x, opd y])) = some (op, xs)) ∨ some (AOp.bin bop, [opd x, opd y]) = some (op, xs) := by
      unfold compileOp at hcomp
      rw [hop] at hcomp
      cases bop <;> first | exact .inr hcomp | exact .inl ⟨_, hcomp⟩
    rcases this with ⟨neg, h1⟩ | h1
    · cases he : eqOp P neg T with
      | none => rw [he] at h1; cases h1
      | some q => rw [he] at h1; simp only [Option.map_some, Option.some.injEq, Prod.mk.injEq] at h1; obtain ⟨rfl, rfl⟩ := h1; rw [(eqOp_kind he).1] at nf; cases nf
    · simp only [Option.some.injEq, Prod.mk.injEq] at h1; obtain ⟨rfl, rfl⟩ := h1; cases nf
  all_goals
    exfalso
    simp only [compileOp, hop] at hcomp
    (repeat' split at hcomp) <;> first
      | (cases hcomp; done)
      | (simp only [Option.some.injEq, Prod.mk.injEq] at hcomp; obtain ⟨rfl, rfl⟩ := hcomp; simp [isFresh] at nf; done)
      | (cases hz : sizeT P _ <;> rw [hz] at hcomp <;> simp at hcomp <;> obtain ⟨rfl, rfl⟩ := hcomp <;> simp [isFresh] at nf; done)
      | (cases hz : lay P _ <;> rw [hz] at hcomp <;> simp at hcomp <;> obtain ⟨rfl, rfl⟩ := hcomp <;> simp [isFresh] at nf; done)
      | (cases hz : leaves P 10 _ 0 <;> rw [hz] at hcomp <;> simp at hcomp <;> obtain ⟨rfl, rfl⟩ := hcomp <;> simp [isFresh] at nf; done)
      | (cases hz : partsOf _ _ <;> rw [hz] at hcomp <;> simp at hcomp <;> obtain ⟨rfl, rfl⟩ := hcomp <;> simp [isFresh] at nf; done)
end
end Go.Am
