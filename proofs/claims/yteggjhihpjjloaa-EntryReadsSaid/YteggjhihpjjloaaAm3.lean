/- Own theory, no program in sight: operations compiled; the quiet ones are as the model has them. -/
import Derived.Test.YteggjhihpjjloaaAm2
namespace Go.Am
set_option linter.unusedSimpArgs false
set_option linter.unusedVariables false
set_option maxHeartbeats 4000000
open Go Go.RowKit
set_option linter.unusedVariables false
set_option linter.unusedSimpArgs false

def aggD : TypeDesc → Bool
  | .struct _ => true
  | .array _ _ => true
  | _ => false
/-- Is a type an aggregate, and how many cells has it? -/
def lay (P : Program) (t : TypeId) : Option (Bool × Nat) :=
  match P.underlying t, P.info? t with
  | some d, some i => some (aggD d, i.size)
  | _, _ => none
def sizeT (P : Program) (t : TypeId) : Option Nat := (P.info? t).map (·.size)
def zeroT (P : Program) (t : TypeId) : Option (List Value) :=
  match (P.info? t).bind fun i => i.zero.map (·.cells.toList) with
  | some z => match z.all Value.oneCell' with | true => some z | false => none
  | none => none
/-- The leaves of a plain type, in order: offsets of its cells and their kinds; all of them ints, strings, bools. -/
def leaves (P : Program) : Nat → TypeId → Nat → Option (List (Nat × Nat))
  | 0, _, _ => none
  | d + 1, t, off =>
    match P.underlying t with
    | some (.int _) => some [(off, 0)]
    | some .string => some [(off, 1)]
    | some .bool => some [(off, 2)]
    | some (.struct fs) => match P.stoodInHeld t, sizeT P t with
      | false, some n => fs.toList.foldr (fun f acc => match acc, leaves P d f.type (off + f.offset), sizeT P f.type with
        | some l, some l', some m => if f.name ≠ "_" ∧ f.offset + m ≤ n ∧ 0 < m then some (l' ++ l) else none
        | _, _, _ => none) (some [])
      | _, _ => none
    | _ => none
def eqOp (P : Program) (neg : Bool) (t : TypeId) : Option AOp :=
  match P.underlying t with
  | some (.int _) => some (.bin (cond neg .neq .eql))
  | some .string => some (.bin (cond neg .neq .eql))
  | some .bool => some (.eqB neg)
  | some (.pointer e) => match sizeT P e with
    | some (n + 1) => some (.eqP neg)
    | _ => none
  | some (.slice _) => some (.eqS neg)
  | some (.map _ _) => some (.eqM neg)
  | some (.func _ _ _) => some (.eqF neg)
  | some (.struct _) => if P.eqGuardType P.depth t then none else (leaves P 10 t 0).map (.eqA neg)
  | _ => none
def placesOf (P : Program) (fs : Array Field) : Option (List (Nat × Nat)) := fs.toList.mapM fun f => (sizeT P f.type).map fun n => (f.offset, n)
def partsL (places : Nat → Option (Nat × Nat)) : List (Nat × Operand) → Option (List (Nat × Nat))
  | [] => some []
  | p :: l => match places p.1, partsL places l with
    | some a, some r => some (a :: r)
    | _, _ => none
def partsOf (places : Nat → Option (Nat × Nat)) (ps : Array (Nat × Operand)) : Option (List (Nat × Nat)) := partsL places ps.toList
theorem partsL_mapM (places : Nat → Option (Nat × Nat)) : ∀ l : List (Nat × Operand), partsL places l = (l.map (·.1)).mapM places
  | [] => by simp [partsL]
  | p :: l => by
    rw [List.map_cons, List.mapM_cons, ← partsL_mapM places l]
    simp only [partsL]
    cases h1 : places p.1 <;> cases h2 : partsL places l <;> simp
/-- A struct's zero and its fields' places; an array's zero and its elements' size; a slice's element: size, bytes, zero. -/
def structT (P : Program) (t : TypeId) : Option (List Value × List (Nat × Nat)) :=
  match zeroT P t, P.underlying t with
  | some z, some (.struct fs) => (placesOf P fs).map fun pl => (z, pl)
  | _, _ => none
def arrayT (P : Program) (t : TypeId) : Option (List Value × Nat) :=
  match zeroT P t, P.underlying t with
  | some z, some (.array n e) => (sizeT P e).map fun k => (z, k)
  | _, _ => none
def elemT (P : Program) (t : TypeId) : Option (Nat × Nat × List Value) :=
  match P.underlying t with
  | some (.slice e) => match P.info? e, zeroT P e with
    | some i, some z => if z.length = i.size then some (i.size, i.bytes, z) else none
    | _, _ => none
  | _ => none
def lhm (lo hi mx : Option Operand) : List Opd := lo.toList.map opd ++ hi.toList.map opd ++ mx.toList.map opd
def fldsL (P : Program) : List Field → Option (List (Nat × Bool × Nat))
  | [] => some []
  | f :: l => match lay P f.type, fldsL P l with
    | some q, some r => some ((f.offset, q.1, q.2) :: r)
    | _, _ => none
/-- A struct's fields: offset, is it an aggregate, size. -/
def fldsT (P : Program) (t : TypeId) : Option (List (Nat × Bool × Nat)) :=
  match P.underlying t with
  | some (.struct fs) => fldsL P fs.toList
  | _ => none
theorem fldsL_get {P : Program} : ∀ {l : List Field} {r : List (Nat × Bool × Nat)}, fldsL P l = some r → ∀ {i : Nat} {q : Nat × Bool × Nat}, r[i]? = some q → ∃ f, l[i]? = some f ∧ f.offset = q.1 ∧ lay P f.type = some q.2
  | [], r, h, i, q, e => by simp only [fldsL, Option.some.injEq] at h; subst h; simp at e
  | f :: l, r, h, i, q, e => by
    simp only [fldsL] at h
    split at h
    · rename_i x y h1 h2
      cases h
      cases i with
      | zero => simp at e; subst e; exact ⟨f, rfl, rfl, h1⟩
      | succ i => simpa using fldsL_get h2 (i := i) (by simpa using e)
    · cases h
theorem fldsT_get {P : Program} {t : TypeId} {r : List (Nat × Bool × Nat)} (h : fldsT P t = some r) {i : Nat} {q : Nat × Bool × Nat} (e : r[i]? = some q) : ∃ fs f, P.underlying t = some (.struct fs) ∧ fs[i]? = some f ∧ f.offset = q.1 ∧ lay P f.type = some q.2 := by
  unfold fldsT at h
  split at h
  · rename_i fs hu
    obtain ⟨f, h1, h2, h3⟩ := fldsL_get h e
    exact ⟨fs, f, hu, by simpa using h1, h2, h3⟩
  · cases h
theorem lay_size {P : Program} {t : TypeId} {q : Bool × Nat} (h : lay P t = some q) : sizeT P t = some q.2 := by
  unfold lay at h
  cases hu : P.underlying t with
  | none => simp [hu] at h
  | some d =>
    cases hi : P.info? t with
    | none => simp [hu, hi] at h
    | some i => simp [hu, hi] at h; subst h; simp [sizeT, hi]
def call? (P : Program) (c : Go.Call) : Option (AOp × List Opd) :=
  match c.callee with
  | .value (.func f) => some (.call f, c.args.toList.map opd)
  | .value x => some (.callv, opd x :: c.args.toList.map opd)
  | .invoke _ _ => none
  | .builtin b =>
    match b, c.argTypes.toList, c.args.toList with
    | .len, [t], [x] => match P.underlying t with
      | some .string => some (.lenStr, [opd x])
      | some (.slice _) => some (.len, [opd x])
      | some (.array n _) => some (.lenA n, [opd x])
      | some (.pointer e) => match P.underlying e with
        | some (.array n _) => some (.lenA n, [opd x])
        | _ => none
      | some (.map _ _) => some (.lenM, [opd x])
      | _ => none
    | .cap, [t], [x] => match P.underlying t with
      | some (.slice _) => some (.cap, [opd x])
      | _ => none
    | .min, _, xs => some (.min, xs.map opd)
    | .max, _, xs => some (.max, xs.map opd)
    | .append, [t, u], [x, y] => match elemT P t, P.underlying u with
      | some r, some d => match d with
          | .slice _ => some (.append r.1 r.2.1 false, [opd x, opd y])
          | .string => some (.append r.1 r.2.1 true, [opd x, opd y])
          | .int _ => some (.growN r.1 r.2.1, [opd x, opd y])
          | _ => none
      | _, _ => none
    | .copy, [t, u], [x, y] => match P.underlying t with
      | some (.slice e) => (sizeT P e).map fun n => (.copy n, [opd x, opd y])
      | _ => none
    | .delete, [t, _], [x, y] => match P.underlying t with
      | some (.map k _) => (leaves P 10 k 0).map fun l => (.delete l, [opd x, opd y])
      | _ => none
    | _, _, _ => none
def compileOp (P : Program) (o : Oper) : Option (AOp × List Opd) :=
  match o.op with
  | .move x => some (.move, [opd x])
  | .assign x => some (.move, [opd x])
  | .pick c a b => some (.pick, [opd c, opd a, opd b])
  | .alloc t => (zeroT P t).map fun z => (.alloc z, [])
  | .box t x => some (.box 0, [opd x])
  | .build t ps => match structT P t with
    | some r => (partsOf (r.2[·]?) ps).map fun q => (.build r.1 q, ps.toList.map fun p => opd p.2)
    | none => match arrayT P t with
      | some r => (partsOf (fun i => some (i * r.2, r.2)) ps).map fun q => (.build r.1 q, ps.toList.map fun p => opd p.2)
      | none => none
  | .buildSlice t len ps => match elemT P t with
    | some r => if len * r.1 ≤ 2 ^ 24 ∧ 0 < r.1 then (partsOf (fun i => some (i * r.1, r.1)) ps).map fun q => (.buildSl r.1 len r.2.2 q, ps.toList.map fun p => opd p.2) else none
    | none => none
  | .load t x => (lay P t).map fun l => (.load l.1 l.2, [opd x])
  | .store t x v => (sizeT P t).map fun n => (.store n, [opd x, opd v])
  | .nilCheck x => some (.nilChk, [opd x])
  | .binOp .eql t x y _ => (eqOp P false t).map fun op => (op, [opd x, opd y])
  | .binOp .neq t x y _ => (eqOp P true t).map fun op => (op, [opd x, opd y])
  | .binOp op _ x y _ => some (.bin op, [opd x, opd y])
  | .unOp op _ x => some (.un op, [opd x])
  | .convert src dst x => match P.underlying src, P.underlying dst with
    | some (.int _), some (.int k) => some (.conv k, [opd x])
    | some .string, some .string => some (.strId, [opd x])
    | some (.slice e), some .string => match P.underlying e with
      | some (.int .u8) => some (.toStr, [opd x])
      | _ => none
    | some .string, some (.slice e) => match P.underlying e with
      | some (.int .u8) => some (.toBytes, [opd x])
      | _ => none
    | _, _ => none
  | .makeFunc fn first captured => match fn with
    | .func f => some (.mkFn f first.size, first.toList.map opd ++ captured.toList.map opd)
    | _ => none
  | .makeMap t none => some (.makeMap, [])
  | .makeSlice t l c => match elemT P t with
    | some r => some (.makeSl r.1 r.2.1 r.2.2, [opd l, opd c])
    | none => none
  | .slice t x lo hi mx => if mx.isSome && hi.isNone then none else match P.underlying t with
    | some .string => if mx.isNone then some (.slStr lo.isSome hi.isSome, opd x :: lhm lo hi none) else none
    | some (.slice e) => (sizeT P e).map fun k => (.slS k lo.isSome hi.isSome mx.isSome, opd x :: lhm lo hi mx)
    | some (.array n e) => (sizeT P e).map fun k => (.slA n k lo.isSome hi.isSome mx.isSome, opd x :: lhm lo hi mx)
    | _ => none
  | .fieldAddr s x f => match fldsT P s with
    | some l => match l[f]? with
      | some (off, _, n + 1) => some (.addr off, [opd x])
      | _ => none
    | none => none
  | .field s x f => match fldsT P s with
    | some l => match l[f]? with
      | some (off, ag, n) => some (.fld ag off n, [opd x])
      | none => none
    | none => none
  | .indexAddr t x i => match P.underlying t with
    | some (.slice e) => (sizeT P e).map fun k => (.ixS k, [opd x, opd i])
    | some (.array n e) => (sizeT P e).map fun k => (.ixA n k, [opd x, opd i])
    | _ => none
  | .index t x i => match P.underlying t with
    | some .string => some (.ixStr, [opd x, opd i])
    | some (.array n e) => (lay P e).map fun l => (.ixV l.1 n l.2, [opd x, opd i])
    | _ => none
  | .lookup t x i ok => match P.underlying t with
    | some (.map k e) => match leaves P 10 k 0, (P.info? e).bind (·.zero) with
      | some l, some z => some (.lookup l z ok, [opd x, opd i])
      | _, _ => none
    | _ => none
  | .mapUpdate t m k v => match P.underlying t with
    | some (.map kt _) => (leaves P 10 kt 0).map fun l => (.mapUpd l, [opd m, opd k, opd v])
    | _ => none
  | .extract x i => some (.ext i, [opd x])
  | .call c => call? P c
  | _ => none

theorem elemT_spec {P : Program} {t : TypeId} {r : Nat × Nat × List Value} (h : elemT P t = some r) : ∃ e i, P.underlying t = some (.slice e) ∧ P.info? e = some i ∧ zeroT P e = some r.2.2 ∧ r.2.2.length = i.size ∧ r.1 = i.size ∧ r.2.1 = i.bytes := by
  unfold elemT at h
  split at h
  · rename_i e hu
    split at h
    · rename_i i z hi hz
      split at h
      · rename_i hl; cases h; exact ⟨e, i, hu, hi, hz, hl, rfl, rfl⟩
      · cases h
    · cases h
  · cases h
theorem structT_spec {P : Program} {t : TypeId} {r : List Value × List (Nat × Nat)} (h : structT P t = some r) : ∃ fs, zeroT P t = some r.1 ∧ P.underlying t = some (.struct fs) ∧ placesOf P fs = some r.2 := by
  unfold structT at h
  split at h
  · rename_i z fs hz hu
    cases hp : placesOf P fs with
    | none => rw [hp] at h; cases h
    | some pl => rw [hp] at h; cases h; exact ⟨fs, hz, hu, hp⟩
  · cases h
theorem arrayT_spec {P : Program} {t : TypeId} {r : List Value × Nat} (h : arrayT P t = some r) : ∃ n e, zeroT P t = some r.1 ∧ P.underlying t = some (.array n e) ∧ sizeT P e = some r.2 := by
  unfold arrayT at h
  split at h
  · rename_i z n e hz hu
    cases hp : sizeT P e with
    | none => rw [hp] at h; cases h
    | some k => rw [hp] at h; cases h; exact ⟨n, e, hz, hu, hp⟩
  · cases h
section
variable {P : Program} {B : BM} {w : World}

theorem run_info {t : TypeId} {i : TypeInfo} (h : P.info? t = some i) (w : World) : (typeInfo t).run P w = .ok i w := by
  simp [typeInfo, h]
theorem run_size {t : TypeId} {n : Nat} (h : sizeT P t = some n) (w : World) : (sizeOf t).run P w = .ok n w := by
  unfold sizeT at h
  cases hi : P.info? t with
  | none => simp [hi] at h
  | some i =>
    simp [hi] at h
    subst h
    simp [sizeOf, run_info hi]
theorem run_und {t : TypeId} {d : TypeDesc} (h : P.underlying t = some d) (w : World) : (underlying t).run P w = .ok d w := run_underlying h w
theorem run_agg {t : TypeId} {d : TypeDesc} (h : P.underlying t = some d) (w : World) : (isAgg t).run P w = .ok (aggD d) w := by
  unfold isAgg
  simp only [Sem.run_bind, run_und h, Result.andThen_ok]
  cases d <;> rfl
theorem run_lay {t : TypeId} {l : Bool × Nat} (h : lay P t = some l) (w : World) : (isAgg t).run P w = .ok l.1 w ∧ (sizeOf t).run P w = .ok l.2 w := by
  unfold lay at h
  cases hu : P.underlying t with
  | none => simp [hu] at h
  | some d =>
    cases hi : P.info? t with
    | none => simp [hu, hi] at h
    | some i =>
      simp [hu, hi] at h
      subst h
      exact ⟨run_agg hu w, run_size (by simp [sizeT, hi]) w⟩
theorem run_zero {t : TypeId} {z : List Value} (h : zeroT P t = some z) (w : World) : ∃ v, (zeroValue t).run P w = .ok v w ∧ v.cells.toList = z ∧ ∀ x ∈ z, x.oneCell' = true := by
  unfold zeroT at h
  cases hi : P.info? t with
  | none => simp [hi] at h
  | some i =>
    cases hz : i.zero with
    | none => simp [hi, hz] at h
    | some v =>
      simp only [hi, hz, Option.bind_some, Option.map_some] at h
      split at h
      · rename_i ho
        cases h
        exact ⟨v, by simp [zeroValue, run_info hi, hz], rfl, List.all_eq_true.1 ho⟩
      · cases h

/-- One operand, two operands. -/
theorem one_rel {t : Nat → AV} {a : Act} (ht : ∀ j, VR B (t j) (a.tmps.getD j undef)) {x : AV} {y : Operand} (h : evO t (opd y) = x) : VR B x (a.eval y) := h ▸ ev_rel ht y

theorem part_ok {t : TypeId} {l : Bool × Nat} (hl : lay P t = some l) {cs : List AV} {arr : Array Value} (hc : VRs B cs arr.toList) (h1c : ∀ x ∈ arr.toList, x.oneCell' = true) (off : Nat)
    {c : Prop} {v : AV} (h : (match l.1 with | true => some (off + l.2 ≤ cs.length, AV.agg ((cs.drop off).take l.2)) | false => some (off < cs.length, cs.getD off .bad)) = some (c, v)) (hcc : c) :
    ∃ r, (part t arr off).run P w = .ok r w ∧ VR B v r := by
  obtain ⟨h1, h2⟩ := run_lay hl w
  obtain ⟨ag, n⟩ := l
  unfold part
  simp only [Sem.run_bind, h1, Result.andThen_ok]
  cases ag with
  | true =>
    simp only [Option.some.injEq, Prod.mk.injEq] at h
    obtain ⟨rfl, rfl⟩ := h
    refine ⟨.agg (arr.extract off (off + n)), by simp [h2], ?_⟩
    simp only [VR]
    refine ⟨_, rfl, ?_, fun x hx => h1c x ?_⟩
    · rw [Array.toList_extract]
      have := VRs.take n (VRs.drop off hc)
      simpa [List.extract_eq_take_drop] using this
    · rw [Array.toList_extract, List.extract_eq_take_drop] at hx
      exact List.mem_of_mem_drop (List.mem_of_mem_take hx)
  | false =>
    simp only [Option.some.injEq, Prod.mk.injEq] at h
    obtain ⟨rfl, rfl⟩ := h
    obtain ⟨r, hr, hv⟩ := hc.get off (a := cs.getD off .bad) (by simp [List.getD_eq_getElem?_getD, List.getElem?_eq_getElem hcc])
    refine ⟨r, ?_, hv⟩
    have : arr[off]? = some r := by simpa using hr
    simp [this]
theorem cell_at {b : Nat} {arr : Array Value} {T : TypeId} {fz : Nat × Nat} (h : w.heap[b]? = some (.cells arr T fz)) (o : Nat) : w.cell? ⟨b, o, none⟩ = arr[o]? := by
  simp [World.cell?, h]
theorem addr_add (b o n : Nat) : (⟨b, o, none⟩ : Addr).add n = ⟨b, o + n, none⟩ := by
  unfold Addr.add
  split
  · rename_i h; subst h; rfl
  · rfl
/-- Cells out of a block. -/
theorem load_cells {b : Nat} {arr : Array Value} {T : TypeId} {fz : Nat × Nat} (h : w.heap[b]? = some (.cells arr T fz)) {o n : Nat} (hn : o + n ≤ arr.size) :
    (loadCells ⟨b, o, none⟩ n).run P w = .ok (arr.extract o (o + n)) w := by
  have := run_loadCells_list (P := P) (w := w) ⟨b, o, none⟩ ((arr.toList.drop o).take n) (fun j v hj => by
    rw [addr_add, cell_at h]
    rw [List.getElem?_take] at hj
    split at hj
    · rw [List.getElem?_drop] at hj; simpa using hj
    · cases hj)
  have hl : ((arr.toList.drop o).take n).length = n := by simp; omega
  rw [hl] at this
  rw [this]
  congr 1
  apply Array.ext'
  simp [Array.toList_extract, List.extract_eq_take_drop]
theorem load_ok {t : TypeId} {l : Bool × Nat} (hl : lay P t = some l) {o : AObj} {i off : Nat} (ho : OR B o (B i) w) {a : Value} (ha : VR B (.ptr i off) a)
    {c : Prop} {v : AV} (h : qLoad l.1 l.2 o [.ptr i off] = some (c, v)) (hcc : c) :
    ∃ r, (Instr.loadAt t a).run P w = .ok r w ∧ VR B v r := by
  obtain ⟨h1, h2⟩ := run_lay hl w
  simp only [VR] at ha
  obtain ⟨b, n, hb, rfl⟩ := ha
  cases o with
  | gone => simp [qLoad] at h
  | map => simp [qLoad] at h
  | cells ro cs =>
    rw [hb] at ho
    obtain ⟨arr, T, fz, hh, hs, hv, h1c, hf⟩ := ho.at_block
    have hlen : cs.length ≤ arr.size := by have := hv.length; simp at this; omega
    have hlv := hv.length
    obtain ⟨ag, m⟩ := l
    unfold Instr.loadAt Instr.sureAddr loadVar
    simp only [Sem.run_bind, Sem.run_pure, h1, Result.andThen_ok]
    cases ag with
    | true =>
      simp only [qLoad, Option.some.injEq, Prod.mk.injEq] at h
      obtain ⟨rfl, rfl⟩ := h
      obtain ⟨hcc, hna⟩ := hcc
      refine ⟨.agg (arr.extract off (off + m)), by simp [h2, load_cells hh (show off + m ≤ arr.size by omega)], ?_⟩
      simp only [VR]
      have e : (arr.extract off (off + m)).toList = ((arr.toList.take cs.length).drop off).take m := by
        rw [Array.toList_extract, List.drop_take, List.take_take, show Min.min m (cs.length - off) = m by omega]
        simp [List.extract_eq_take_drop]
      refine ⟨_, rfl, by rw [e]; exact VRs.take m (VRs.drop off hv), fun x hx => ?_⟩
      rw [e] at hx
      exact h1c.seg off m hna (by omega) x hx
    | false =>
      simp only [qLoad, Option.some.injEq, Prod.mk.injEq] at h
      obtain ⟨rfl, rfl⟩ := h
      obtain ⟨r, hr, hv'⟩ := hv.get off (a := cs.getD off .bad) (by simp [List.getD_eq_getElem?_getD, List.getElem?_eq_getElem hcc])
      refine ⟨r, ?_, hv'⟩
      rw [List.getElem?_take, if_pos hcc] at hr
      have : arr[off]? = some r := by simpa using hr
      simp [cell_at hh, this]
end
end Go.Am
