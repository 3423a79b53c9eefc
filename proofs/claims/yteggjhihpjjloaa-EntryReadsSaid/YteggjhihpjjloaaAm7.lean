/- Own theory, no program in sight: the quiet operations are as the model has them (5). -/
import Derived.Test.YteggjhihpjjloaaAm6
namespace Go.Am
set_option linter.unusedSimpArgs false
set_option linter.unusedVariables false
set_option maxHeartbeats 4000000
open Go Go.RowKit
set_option linter.unusedVariables false
set_option linter.unusedSimpArgs false

section
variable {P : Program} {B : BM} {w : World} {t : Nat → AV} {a : Act}

theorem valueRun {s : Sem Value} {r : Value} {w w' : World} (h : s.run P w = .ok r w') : ((do pure (.value (← s)) : Sem Next).run P w) = .ok (.value r) w' := by
  simp [h]
def Goal (P : Program) (B : BM) (w : World) (s : Sem Value) (v : AV) : Prop := ∃ r, s.run P w = .ok r w ∧ VR B v r

theorem ok_pick (ht : ∀ j, VR B (t j) (a.tmps.getD j undef)) (c x y : Operand) {p : Prop} {v : AV}
    (hq : qPick [evO t (opd c), evO t (opd x), evO t (opd y)] = some (p, v)) : Goal P B w (do pure (if ← asBool (a.eval c) then a.eval x else a.eval y)) v := by
  unfold qPick at hq
  split at hq
  · rename_i b p q e
    simp only [List.cons.injEq, and_true] at e
    obtain ⟨e1, rfl, rfl⟩ := e
    cases hq
    have hc := one_rel ht e1
    rw [vr_val] at hc
    rw [hc]
    cases b
    · exact ⟨_, by simp [asBool], ev_rel ht y⟩
    · exact ⟨_, by simp [asBool], ev_rel ht x⟩
  · cases hq
theorem ok_un (ht : ∀ j, VR B (t j) (a.tmps.getD j undef)) (op : UnOp) (x : Operand) {p : Prop} {v : AV}
    (hq : qUn op [evO t (opd x)] = some (p, v)) : Goal P B w (Op.unary op (a.eval x)) v := by
  unfold qUn at hq
  split at hq
  · rename_i u e
    simp only [List.cons.injEq, and_true] at e
    have hx := one_rel ht e
    rw [vr_val] at hx
    rw [hx]
    cases hu : unV op u with
    | none => rw [hu] at hq; cases hq
    | some r =>
      rw [hu] at hq
      cases hq
      refine ⟨r, ?_, by rw [vr_val]⟩
      unfold unV at hu
      split at hu <;> first | (cases hu; simp [Op.unary, Op.intArith]; done) | (cases hu; simp [Op.unary, Op.intBits, bits]; done) | (cases hu; done) | (cases hu; rfl)
  · cases hq
theorem ok_bin (ht : ∀ j, VR B (t j) (a.tmps.getD j undef)) (op : BinOp) (T : TypeId) (X Y : Operand) {p : Prop} {v : AV}
    (hq : qBin op [evO t (opd X), evO t (opd Y)] = some (p, v)) (hp : p) : Goal P B w (do eqGuard op T X Y (a.eval X) (a.eval Y); binOp op T (a.eval X) (a.eval Y)) v := by
  unfold qBin at hq
  split at hq
  · rename_i x y e
    simp only [List.cons.injEq, and_true] at e
    have hx := one_rel ht e.1
    have hy := one_rel ht e.2
    rw [vr_val] at hx hy
    rw [hx, hy]
    cases hb : binV op x y with
    | none => rw [hb] at hq; cases hq
    | some r =>
      rw [hb] at hq
      cases hq
      refine ⟨r.2, ?_, by rw [vr_val]⟩
      have hg := eqGuard_quiet (P := P) (w := w) (op := op) (T := T) (X := X) (Y := Y) (x := x) (y := y) (by rintro a b rfl; simp [binV] at hb) (by rintro rfl; simp [binV] at hb)
      simp only [Sem.run_bind, hg, Result.andThen_ok]
      exact run_binV T hb hp
  · cases hq
theorem ok_addr (ht : ∀ j, VR B (t j) (a.tmps.getD j undef)) {s : TypeId} {fs : Array Field} {f : Nat} {fd : Field} {n : Nat} (hu : P.underlying s = some (.struct fs)) (hf : fs[f]? = some fd) (hs : sizeT P fd.type = some (n + 1)) (x : Operand) {p : Prop} {v : AV}
    (hq : qAddr fd.offset [evO t (opd x)] = some (p, v)) : Goal P B w (Instr.fieldAt s (a.eval x) f) v := by
  unfold qAddr at hq
  split at hq
  · rename_i i o e
    simp only [List.cons.injEq, and_true] at e
    have hx := one_rel ht e
    simp only [VR] at hx
    obtain ⟨b, m, hb, hx⟩ := hx
    cases hq
    rw [hx]
    refine ⟨.pointer (some ⟨b, o + fd.offset, none⟩), ?_, by simp only [VR]; exact ⟨b, m, hb, rfl⟩⟩
    unfold Instr.fieldAt
    simp only [Sem.run_bind, run_und hu, Result.andThen_ok, hf, Instr.sureAddr, Sem.run_pure, fieldPlace, run_size hs]
    simp [addr_add]
  · cases hq
theorem ok_fld (ht : ∀ j, VR B (t j) (a.tmps.getD j undef)) {s : TypeId} {fs : Array Field} {f : Nat} {fd : Field} {l : Bool × Nat} (hu : P.underlying s = some (.struct fs)) (hf : fs[f]? = some fd) (hl : lay P fd.type = some l) (x : Operand) {p : Prop} {v : AV}
    (hq : qFld l.1 fd.offset l.2 [evO t (opd x)] = some (p, v)) (hp : p) : Goal P B w (Instr.field s (a.eval x) f) v := by
  unfold qFld at hq
  split at hq
  · rename_i cs e
    simp only [List.cons.injEq, and_true] at e
    have hx := one_rel ht e
    simp only [VR] at hx
    obtain ⟨arr, hx, hv, h1c⟩ := hx
    rw [hx]
    obtain ⟨r, hr, hvr⟩ := part_ok (P := P) (w := w) hl hv h1c fd.offset hq hp
    refine ⟨r, ?_, hvr⟩
    unfold Instr.field
    simp only [Sem.run_bind, run_und hu, Result.andThen_ok, hf, asAgg, Sem.run_pure]
    exact hr
  · cases hq
theorem idx_add {off i k : Nat} : off + i * k = off + i * k := rfl
theorem ok_ixS (ht : ∀ j, VR B (t j) (a.tmps.getD j undef)) {T e : TypeId} {k : Nat} (hu : P.underlying T = some (.slice e)) (hs : sizeT P e = some k) (x y : Operand) {p : Prop} {v : AV}
    (hq : qIxS k [evO t (opd x), evO t (opd y)] = some (p, v)) (hp : p) : Goal P B w (Instr.indexAt T (a.eval x) (a.eval y)) v := by
  unfold qIxS at hq
  split at hq
  · rename_i i off len k' cap kk z e
    simp only [List.cons.injEq, and_true] at e
    have hx := one_rel ht e.1
    have hy := one_rel ht e.2
    rw [vr_val] at hy
    simp only [VR] at hx
    rcases hx with ⟨rfl, _, hx⟩ | ⟨b, n, c, o, hb, hx, h1, h2, h3, h4⟩
    · cases hq
      obtain ⟨rfl, p1, p2⟩ := hp
      exfalso
      omega
    cases hq
    obtain ⟨rfl, p1, p2⟩ := hp
    have ho : o = off := h3.resolve_right (by omega)
    subst ho
    rw [hx, hy]
    refine ⟨.pointer (some ⟨b, o + z.toNat * k', none⟩), ?_, by simp only [VR]; exact ⟨b, n, hb, rfl⟩⟩
    unfold Instr.indexAt
    simp only [Sem.run_bind, asIntOf, Sem.run_pure, run_und hu, Result.andThen_ok]
    simp [p1, p2, run_size hs, addr_add]
  · cases hq
theorem ok_ixA (ht : ∀ j, VR B (t j) (a.tmps.getD j undef)) {T e : TypeId} {len k : Nat} (hu : P.underlying T = some (.array len e)) (hs : sizeT P e = some k) (x y : Operand) {p : Prop} {v : AV}
    (hq : qIxA len k [evO t (opd x), evO t (opd y)] = some (p, v)) (hp : p) : Goal P B w (Instr.indexAt T (a.eval x) (a.eval y)) v := by
  unfold qIxA at hq
  split at hq
  · rename_i i off kk z e
    simp only [List.cons.injEq, and_true] at e
    have hx := one_rel ht e.1
    have hy := one_rel ht e.2
    rw [vr_val] at hy
    simp only [VR] at hx
    obtain ⟨b, n, hb, hx⟩ := hx
    cases hq
    obtain ⟨p1, p2⟩ := hp
    rw [hx, hy]
    refine ⟨.pointer (some ⟨b, off + z.toNat * k, none⟩), ?_, by simp only [VR]; exact ⟨b, n, hb, rfl⟩⟩
    unfold Instr.indexAt
    simp only [Sem.run_bind, asIntOf, Sem.run_pure, run_und hu, Result.andThen_ok, Instr.sureAddr]
    simp [p1, p2, run_size hs, addr_add]
  · cases hq
theorem ok_ixV (ht : ∀ j, VR B (t j) (a.tmps.getD j undef)) {T e : TypeId} {len : Nat} {l : Bool × Nat} (hu : P.underlying T = some (.array len e)) (hl : lay P e = some l) (x y : Operand) {p : Prop} {v : AV}
    (hq : qIxV l.1 len l.2 [evO t (opd x), evO t (opd y)] = some (p, v)) (hp : p) : Goal P B w (Instr.index T (a.eval x) (a.eval y)) v := by
  unfold qIxV at hq
  split at hq
  · rename_i cs kk z e
    simp only [List.cons.injEq, and_true] at e
    have hx := one_rel ht e.1
    have hy := one_rel ht e.2
    rw [vr_val] at hy
    simp only [VR] at hx
    obtain ⟨arr, hx, hv, h1c⟩ := hx
    rw [hx, hy]
    obtain ⟨-, hsz⟩ := run_lay (P := P) hl w
    have fin : ∀ {p' : Prop} {v' : AV}, (match l.1 with | true => some (z.toNat * l.2 + l.2 ≤ cs.length, AV.agg ((cs.drop (z.toNat * l.2)).take l.2)) | false => some (z.toNat * l.2 < cs.length, cs.getD (z.toNat * l.2) .bad)) = some (p', v') → p' → (0 ≤ z ∧ z < len) →
        Goal P B w (Instr.index T (.agg arr) (.int kk z)) v' := by
      intro p' v' hm hp' hz
      obtain ⟨r, hr, hvr⟩ := part_ok (P := P) (w := w) hl hv h1c (z.toNat * l.2) hm hp'
      refine ⟨r, ?_, hvr⟩
      unfold Instr.index
      simp only [Sem.run_bind, asIntOf, Sem.run_pure, run_und hu, Result.andThen_ok, Sem.run_ite, if_pos hz, hsz]
      exact hr
    obtain ⟨ag, n⟩ := l
    cases ag
    · simp only [Option.some.injEq, Prod.mk.injEq] at hq
      obtain ⟨rfl, rfl⟩ := hq
      exact fin rfl hp.2.2 ⟨hp.1, hp.2.1⟩
    · simp only [Option.some.injEq, Prod.mk.injEq] at hq
      obtain ⟨rfl, rfl⟩ := hq
      refine fin rfl ?_ ⟨hp.1, hp.2.1⟩
      obtain ⟨h1, h2, h3⟩ := hp
      show z.toNat * n + n ≤ cs.length
      rw [h3, ← Nat.succ_mul]
      exact Nat.mul_le_mul_right _ (by omega)
  · cases hq
theorem ok_ixStr (ht : ∀ j, VR B (t j) (a.tmps.getD j undef)) {T : TypeId} (hu : P.underlying T = some .string) (x y : Operand) {p : Prop} {v : AV}
    (hq : qIxStr [evO t (opd x), evO t (opd y)] = some (p, v)) (hp : p) : Goal P B w (Instr.index T (a.eval x) (a.eval y)) v := by
  unfold qIxStr at hq
  split at hq
  · rename_i s kk z e
    simp only [List.cons.injEq, and_true] at e
    have hx := one_rel ht e.1
    have hy := one_rel ht e.2
    rw [vr_val] at hy hx
    cases hq
    obtain ⟨p1, p2⟩ := hp
    rw [hx, hy]
    refine ⟨_, ?_, by rw [vr_val]⟩
    have hlt : z.toNat < s.size := by omega
    unfold Instr.index
    simp only [Sem.run_bind, asIntOf, Sem.run_pure, run_und hu, Result.andThen_ok, if_pos p1]
    have : s[z.toNat]? = some s[z.toNat] := getElem?_pos s z.toNat hlt
    rw [this]
    simp only [Sem.run_pure]
    unfold byteAt
    rw [List.getD_eq_getElem?_getD, List.getElem?_eq_getElem (by simpa using hlt)]
    rfl
  · cases hq
theorem ok_ext (ht : ∀ j, VR B (t j) (a.tmps.getD j undef)) (i : Nat) (x : Operand) {p : Prop} {v : AV}
    (hq : qExt i [evO t (opd x)] = some (p, v)) (hp : p) : Goal P B w (Instr.extract (a.eval x) i) v := by
  unfold qExt at hq
  split at hq
  · rename_i l e
    simp only [List.cons.injEq, and_true] at e
    have hx := one_rel ht e
    simp only [VR] at hx
    obtain ⟨arr, hx, hv⟩ := hx
    cases hq
    rw [hx]
    obtain ⟨r, hr, hvr⟩ := hv.get i (a := l.getD i .bad) (by simp [List.getD_eq_getElem?_getD, List.getElem?_eq_getElem hp])
    refine ⟨r, ?_, hvr⟩
    have : arr[i]? = some r := by simpa using hr
    simp [Instr.extract, this]
  · cases hq
theorem ok_conv (ht : ∀ j, VR B (t j) (a.tmps.getD j undef)) {S T : TypeId} {k k' : IntKind} (h1 : P.underlying S = some (.int k')) (h2 : P.underlying T = some (.int k)) (x : Operand) {p : Prop} {v : AV}
    (hq : qConv k [evO t (opd x)] = some (p, v)) : Goal P B w (convert S T (a.eval x)) v := by
  unfold qConv at hq
  split at hq
  · rename_i kk n e
    simp only [List.cons.injEq, and_true] at e
    have hx := one_rel ht e
    rw [vr_val] at hx
    cases hq
    rw [hx]
    exact ⟨.int k (k.wrap n), by simp [convert, run_und h1, run_und h2, Conv.intToInt], by rw [vr_val]⟩
  · cases hq
theorem ok_str (ht : ∀ j, VR B (t j) (a.tmps.getD j undef)) {S T : TypeId} (h1 : P.underlying S = some .string) (h2 : P.underlying T = some .string) (x : Operand) {p : Prop} {v : AV}
    (hq : qStr [evO t (opd x)] = some (p, v)) : Goal P B w (convert S T (a.eval x)) v := by
  unfold qStr at hq
  split at hq
  · rename_i n e
    simp only [List.cons.injEq, and_true] at e
    have hx := one_rel ht e
    rw [vr_val] at hx
    cases hq
    rw [hx]
    exact ⟨.string n, by simp [convert, run_und h1, run_und h2], by rw [vr_val]⟩
  · cases hq
theorem ok_nil (ht : ∀ j, VR B (t j) (a.tmps.getD j undef)) (o : Oper) (x : Operand) (ho : o.op = .nilCheck x) {p : Prop} {v : AV}
    (hq : qNil [evO t (opd x)] = some (p, v)) : ∃ r, (execOp a.eval o).run P w = .ok (.value r) w ∧ VR B v r := by
  unfold qNil at hq
  split at hq
  · rename_i i off e
    simp only [List.cons.injEq, and_true] at e
    have hx := one_rel ht e
    simp only [VR] at hx
    obtain ⟨b, n, hb, hx⟩ := hx
    cases hq
    refine ⟨.pointer (some ⟨b, off, none⟩), ?_, by simp only [VR]; exact ⟨b, n, hb, rfl⟩⟩
    simp [execOp, ho, hx]
  · cases hq
theorem ok_build (ht : ∀ j, VR B (t j) (a.tmps.getD j undef)) {T : TypeId} {z : List Value} (hz : zeroT P T = some z) {places : Nat → Option (Nat × Nat)} {q : List (Nat × Nat)} {ps : Array (Nat × Operand)}
    (hpl : partsOf places ps = some q) {p : Prop} {v : AV} (hq : qBuild z q (ps.toList.map fun x => evO t (opd x.2)) = some (p, v))
    (hrun : ∀ zv : Value, (zeroValue T).run P w = .ok zv w → zv.cells.toList = z → ∀ out, Instr.fill places zv.cells (ps.map fun (i, x) => (i, a.eval x)).toList = some out → (Instr.build T (ps.map fun (i, x) => (i, a.eval x))).run P w = .ok (.agg out) w) :
    Goal P B w (Instr.build T (ps.map fun (i, x) => (i, a.eval x))) v := by
  obtain ⟨zv, h1, h2, h3⟩ := run_zero hz w
  unfold qBuild at hq
  cases hf : fillA (z.map .val) q (ps.toList.map fun x => evO t (opd x.2)) with
  | none => rw [hf] at hq; cases hq
  | some l =>
    rw [hf] at hq
    cases hq
    have hvs := evs_rel ht (ps.toList.map (·.2))
    simp only [List.map_map, Function.comp_def] at hvs
    obtain ⟨out, ho, hv, ho1⟩ := fill_ok q _ _ l hf places (ps.toList.map (·.1)) _ zv.cells (by
      rw [← partsL_mapM]
      exact hpl) hvs (by rw [h2]; exact VRs.vals z) (by rw [h2]; exact h3)
    have hzip : (ps.toList.map (·.1)).zip (ps.toList.map fun x => a.eval x.2) = (ps.map fun (i, x) => (i, a.eval x)).toList := by
      rw [Array.toList_map]
      generalize ps.toList = L
      induction L with
      | nil => rfl
      | cons x L ih => simp [ih]
    rw [hzip] at ho
    exact ⟨.agg out, hrun zv h1 h2 out ho, by simp only [VR]; exact ⟨out, rfl, hv, ho1⟩⟩
theorem sl_add {b o l k m : Nat} : (if m = l then (⟨b, o, none⟩ : Addr) else (⟨b, o, none⟩ : Addr).add (l * k)) = ⟨b, if m = l then o else o + l * k, none⟩ := by
  split <;> simp [addr_add]
theorem bounds_mx {lo hi : Bool} {xs : List AV} {bd : Option Int × Option Int × Option Int} (h : bounds lo hi false xs = some bd) : bd.2.2 = none := by
  unfold bounds at h
  split at h
  · cases h
  · split at h
    · cases h
    · simp only [takeI] at h
      split at h
      · rename_i m e
        cases h
        simp only [Option.some.injEq, Prod.mk.injEq] at e
        exact e.1.symm
      · cases h
theorem ok_slS (ht : ∀ j, VR B (t j) (a.tmps.getD j undef)) {T e : TypeId} {k : Nat} (hu : P.underlying T = some (.slice e)) (hs : sizeT P e = some k) (x : Operand) (lo hi mx : Option Operand) (hmh : mx.isSome = true → hi.isSome = true) {p : Prop} {v : AV}
    (hq : qSlS k lo.isSome hi.isSome mx.isSome (evO t (opd x) :: (lhm lo hi mx).map (evO t)) = some (p, v)) (hp : p) :
    Goal P B w (Instr.sliceAt T (a.eval x) (lo.map a.eval) (hi.map a.eval) (mx.map a.eval)) v := by
  unfold qSlS at hq
  split at hq
  · rename_i i off len k' cap xs e
    rw [List.cons.injEq] at e
    obtain ⟨e, rfl⟩ := e
    have hx := one_rel ht e
    simp only [VR] at hx
    rcases hx with ⟨rfl, rfl, q0, hx⟩ | ⟨b, n, c, o, hb, hx, h1, h2, h3, h4⟩
    · cases hbd : bounds lo.isSome hi.isSome mx.isSome ((lhm lo hi mx).map (evO t)) with
      | none => rw [hbd] at hq; cases hq
      | some bd =>
        rw [hbd] at hq
        cases hq
        obtain ⟨rfl, hp, hmx⟩ := hp
        obtain ⟨m, hrun, g1, g2, g3, g4⟩ := bounds_ok (P := P) (w := w) (rcap := 0) ht hbd (by simp) (by simp) hp true hmh
        have hcc : (cutAt 0 none bd).2.2.2 = none := by
          cases hm : mx.isSome with
          | true => rw [hm] at hmx; exact absurd hmx (Nat.lt_irrefl 0)
          | false =>
            rw [hm] at hbd
            have := bounds_mx hbd
            obtain ⟨q1, q2, q3⟩ := bd
            simp only at this
            subst this
            rfl
        rw [hx, hcc]
        refine ⟨.slice q0 0 0, ?_, ?_⟩
        · unfold Instr.sliceAt
          simp only [Sem.run_bind, run_und hu, Result.andThen_ok]
          unfold Instr.slice
          simp only [Sem.run_bind, run_und hu, Result.andThen_ok, hrun, run_size hs, Sem.run_pure]
          generalize (cutAt 0 none bd).2.1 = l at *
          generalize (cutAt 0 none bd).2.2.1 = h at *
          obtain rfl : m = 0 := by omega
          obtain rfl : h = 0 := by omega
          obtain rfl : l = 0 := by omega
          simp
        · simp only [VR]
          exact .inl ⟨by omega, rfl, q0, rfl⟩
    cases hbd : bounds lo.isSome hi.isSome mx.isSome ((lhm lo hi mx).map (evO t)) with
    | none => rw [hbd] at hq; cases hq
    | some bd =>
      rw [hbd] at hq
      cases hq
      obtain ⟨rfl, hp, hmx⟩ := hp
      obtain ⟨m, hrun, g1, g2, g3, g4⟩ := bounds_ok (P := P) (w := w) ht hbd h4 h1 hp true hmh
      rw [hx]
      generalize (cutAt len cap bd).2.1 = l at *
      generalize (cutAt len cap bd).2.2.1 = h at *
      generalize (cutAt len cap bd).2.2.2 = cc at *
      refine ⟨.slice (some ⟨b, if m = l then o else o + l * k', none⟩) (h - l) (m - l), ?_, ?_⟩
      · unfold Instr.sliceAt
        simp only [Sem.run_bind, run_und hu, Result.andThen_ok]
        unfold Instr.slice
        simp only [Sem.run_bind, run_und hu, Result.andThen_ok, hrun, run_size hs, Sem.run_pure]
        rw [← sl_add]
        split <;> rfl
      · simp only [VR]
        refine .inr ⟨b, n, m - l, _, hb, rfl, by omega, ?_, ?_, ?_⟩
        · have : l * k' + (m - l) * k' = m * k' := by rw [← Nat.add_mul]; congr 1; omega
          have h5 : m * k' ≤ c * k' := Nat.mul_le_mul_right _ g3
          omega
        · by_cases hml : m = l
          · right; omega
          · left
            rw [if_neg hml]
            have : o = off := h3.resolve_right (by omega)
            rw [this]
        · intro q hq'
          cases cc with
          | none => cases hq'
          | some y => simp only [Option.map_some, Option.some.injEq] at hq'; have := g4 y rfl; omega
  · rename_i xs e
    rw [List.cons.injEq] at e
    obtain ⟨e, rfl⟩ := e
    have hx := one_rel ht e
    rw [vr_val] at hx
    cases hbd : bounds lo.isSome hi.isSome mx.isSome ((lhm lo hi mx).map (evO t)) with
    | none => rw [hbd] at hq; cases hq
    | some bd =>
      rw [hbd] at hq
      cases hq
      obtain ⟨m, hrun, g1, g2, g3, g4⟩ := bounds_ok (P := P) (w := w) (rcap := 0) ht hbd (by simp) (by simp) hp true hmh
      rw [hx]
      refine ⟨.slice none 0 0, ?_, by rw [vr_val]⟩
      unfold Instr.sliceAt
      simp only [Sem.run_bind, run_und hu, Result.andThen_ok]
      unfold Instr.slice
      simp only [Sem.run_bind, run_und hu, Result.andThen_ok, hrun, run_size hs, Sem.run_pure]
      generalize (cutAt 0 (some 0) bd).2.1 = l at *
      generalize (cutAt 0 (some 0) bd).2.2.1 = h at *
      obtain rfl : m = 0 := by omega
      obtain rfl : h = 0 := by omega
      obtain rfl : l = 0 := by omega
      simp
  · cases hq
theorem ok_slStr (ht : ∀ j, VR B (t j) (a.tmps.getD j undef)) {T : TypeId} (hu : P.underlying T = some .string) (x : Operand) (lo hi : Option Operand) {p : Prop} {v : AV}
    (hq : qSlStr lo.isSome hi.isSome (evO t (opd x) :: (lhm lo hi none).map (evO t)) = some (p, v)) (hp : p) :
    Goal P B w (Instr.sliceAt T (a.eval x) (lo.map a.eval) (hi.map a.eval) none) v := by
  unfold qSlStr at hq
  split at hq
  · rename_i s xs e
    rw [List.cons.injEq] at e
    obtain ⟨e, rfl⟩ := e
    have hx := one_rel ht e
    rw [vr_val] at hx
    cases hbd : bounds lo.isSome hi.isSome false ((lhm lo hi none).map (evO t)) with
    | none => rw [hbd] at hq; cases hq
    | some bd =>
      rw [hbd] at hq
      cases hq
      obtain ⟨m, hrun, g1, g2, g3, g4⟩ := bounds_ok (P := P) (w := w) (mx := none) (rcap := s.size) ht hbd (by simp) (Nat.le_refl _) hp false (by simp)
      rw [hx]
      refine ⟨_, ?_, by rw [vr_val]⟩
      unfold Instr.sliceAt
      simp only [Sem.run_bind, run_und hu, Result.andThen_ok]
      unfold Instr.slice
      simp only [Sem.run_bind, run_und hu, Result.andThen_ok, Option.isSome_none, Bool.false_eq_true, if_false]
      simp only [Option.map_none] at hrun
      simp only [hrun, Result.andThen_ok, Sem.run_pure]
  · cases hq
theorem ok_slA (ht : ∀ j, VR B (t j) (a.tmps.getD j undef)) {T e : TypeId} {n k : Nat} (hu : P.underlying T = some (.array n e)) (hs : sizeT P e = some k) (x : Operand) (lo hi mx : Option Operand) (hmh : mx.isSome = true → hi.isSome = true) {ob : AObj} {p : Prop} {v : AV}
    (hob : ∀ i, rid (.slA n k lo.isSome hi.isSome mx.isSome) (evO t (opd x) :: (lhm lo hi mx).map (evO t)) = some i → OR B ob (B i) w)
    (hq : qSlA n k lo.isSome hi.isSome mx.isSome ob (evO t (opd x) :: (lhm lo hi mx).map (evO t)) = some (p, v)) (hp : p) :
    Goal P B w (Instr.sliceAt T (a.eval x) (lo.map a.eval) (hi.map a.eval) (mx.map a.eval)) v := by
  unfold qSlA at hq
  split at hq
  · rename_i i off xs e
    rw [List.cons.injEq] at e
    obtain ⟨e, rfl⟩ := e
    have hx := one_rel ht e
    have hob := hob i (by simp [rid, e])
    simp only [VR] at hx
    obtain ⟨b, sz, hb, hx⟩ := hx
    split at hq
    · rename_i ro cs hob
      cases hbd : bounds lo.isSome hi.isSome mx.isSome ((lhm lo hi mx).map (evO t)) with
      | none => rw [hbd] at hq; cases hq
      | some bd =>
        rw [hbd] at hq
        cases hq
        obtain ⟨hp, hfit⟩ := hp
        obtain ⟨m, hrun, g1, g2, g3, g4⟩ := bounds_ok (P := P) (w := w) (rcap := n) ht hbd (by simp) (Nat.le_refl _) hp false hmh
        rw [hx]
        generalize (cutAt n (some n) bd).2.1 = l at *
        generalize (cutAt n (some n) bd).2.2.1 = h at *
        generalize (cutAt n (some n) bd).2.2.2 = cc at *
        rw [hb] at hob
        obtain ⟨arr, T', fz, hh, hsz, hv, h1c, hf⟩ := OR.at_block hob
        have hlen : cs.length ≤ arr.size := by have := hv.length; simp at this; omega
        refine ⟨.slice (some ⟨b, if m = l then off else off + l * k, none⟩) (h - l) (m - l), ?_, ?_⟩
        · unfold Instr.sliceAt
          simp only [Sem.run_bind, run_und hu, Result.andThen_ok, Instr.sureAddr, Sem.run_pure, hrun, run_size hs]
          rw [← sl_add]
        · simp only [VR]
          refine .inr ⟨b, sz, m - l, _, hb, rfl, by omega, ?_, ?_, ?_⟩
          · have : l * k + (m - l) * k = m * k := by rw [← Nat.add_mul]; congr 1; omega
            have h5 : m * k ≤ n * k := Nat.mul_le_mul_right _ g3
            omega
          · by_cases hml : m = l
            · right; omega
            · left; rw [if_neg hml]
          · intro q hq'
            cases cc with
            | none => cases hq'
            | some y => simp only [Option.map_some, Option.some.injEq] at hq'; have := g4 y rfl; omega
    · cases hq
  · cases hq
theorem ok_len (ht : ∀ j, VR B (t j) (a.tmps.getD j undef)) {T R e : TypeId} {us : Array TypeId} (h0 : us[0]? = some T) (hu : P.underlying T = some (.slice e)) (x : Operand) {p : Prop} {v : AV}
    (hq : qLen [evO t (opd x)] = some (p, v)) : Goal P B w (Builtin.len_ us R #[a.eval x]) v := by
  unfold qLen at hq
  split at hq
  · rename_i i off len k cap e
    simp only [List.cons.injEq, and_true] at e
    have hx := one_rel ht e
    simp only [VR] at hx
    rcases hx with ⟨rfl, rfl, q0, hx⟩ | ⟨b, n, c, o, hb, hx, h1⟩
    · cases hq
      rw [hx]
      exact ⟨.int .i64 0, by simp [Builtin.len_, h0, run_und hu, goInt], by rw [vr_val]; rfl⟩
    cases hq
    rw [hx]
    exact ⟨.int .i64 len, by simp [Builtin.len_, h0, run_und hu, goInt], by rw [vr_val]⟩
  · rename_i q0 l0 c0 e
    simp only [List.cons.injEq, and_true] at e
    have hx := one_rel ht e
    rw [vr_val] at hx
    cases hq
    rw [hx]
    exact ⟨.int .i64 l0, by simp [Builtin.len_, h0, run_und hu, goInt], by rw [vr_val]⟩
  · cases hq
theorem ok_lenS (ht : ∀ j, VR B (t j) (a.tmps.getD j undef)) {T R : TypeId} {us : Array TypeId} (h0 : us[0]? = some T) (hu : P.underlying T = some .string) (x : Operand) {p : Prop} {v : AV}
    (hq : qLenS [evO t (opd x)] = some (p, v)) : Goal P B w (Builtin.len_ us R #[a.eval x]) v := by
  unfold qLenS at hq
  split at hq
  · rename_i s e
    simp only [List.cons.injEq, and_true] at e
    have hx := one_rel ht e
    rw [vr_val] at hx
    cases hq
    rw [hx]
    exact ⟨.int .i64 s.size, by simp [Builtin.len_, h0, run_und hu, goInt], by rw [vr_val]⟩
  · cases hq
theorem ok_cap (ht : ∀ j, VR B (t j) (a.tmps.getD j undef)) {T R e : TypeId} {us : Array TypeId} (h0 : us[0]? = some T) (hu : P.underlying T = some (.slice e)) (x : Operand) {p : Prop} {v : AV}
    (hq : qCap [evO t (opd x)] = some (p, v)) : Goal P B w (Builtin.cap_ us R #[a.eval x]) v := by
  unfold qCap at hq
  split at hq
  · rename_i i off len k c e
    simp only [List.cons.injEq, and_true] at e
    have hx := one_rel ht e
    simp only [VR] at hx
    rcases hx with ⟨_, h9, _⟩ | ⟨b, n, c', o, hb, hx, h1, h2, h3, h4⟩
    · cases h9
    cases hq
    rw [hx, h4 c rfl]
    exact ⟨.int .i64 c, by simp [Builtin.cap_, h0, run_und hu, goInt], by rw [vr_val]⟩
  · rename_i e
    simp only [List.cons.injEq, and_true] at e
    have hx := one_rel ht e
    rw [vr_val] at hx
    cases hq
    rw [hx]
    exact ⟨.int .i64 0, by simp [Builtin.cap_, h0, run_und hu, goInt], by rw [vr_val]⟩
  · cases hq
theorem ok_minmax (ht : ∀ j, VR B (t j) (a.tmps.getD j undef)) (us : Array TypeId) (R : TypeId) (xs : List Operand) {p : Prop} {v : AV} :
    (qMin (xs.map fun x => evO t (opd x)) = some (p, v) → Goal P B w (Builtin.min_ us R (xs.map a.eval).toArray) v) ∧
    (qMax (xs.map fun x => evO t (opd x)) = some (p, v) → Goal P B w (Builtin.max_ us R (xs.map a.eval).toArray) v) := by
  have hvs := evs_rel ht xs
  constructor
  · intro hq
    unfold qMin at hq
    split at hq
    · rename_i k x l e
      rw [e] at hvs
      simp only [VRs] at hvs
      obtain ⟨y, rest, hy, hv, hs⟩ := hvs
      rw [vr_val] at hv
      subst hv
      cases hm : minA x l with
      | none => rw [hm] at hq; cases hq
      | some r =>
        rw [hm] at hq
        cases hq
        refine ⟨.int k r, ?_, by rw [vr_val]⟩
        unfold Builtin.min_
        rw [hy]
        exact minA_run l rest k x r hs hm
    · cases hq
  · intro hq
    unfold qMax at hq
    split at hq
    · rename_i k x l e
      rw [e] at hvs
      simp only [VRs] at hvs
      obtain ⟨y, rest, hy, hv, hs⟩ := hvs
      rw [vr_val] at hv
      subst hv
      cases hm : maxA x l with
      | none => rw [hm] at hq; cases hq
      | some r =>
        rw [hm] at hq
        cases hq
        refine ⟨.int k r, ?_, by rw [vr_val]⟩
        unfold Builtin.max_
        rw [hy]
        exact maxA_run l rest k x r hs hm
    · cases hq
end
end Go.Am
