/- Own theory, no program in sight: the quiet operations are as the model has them (6): all of them. -/
import Derived.Test.YteggjhihpjjloaaAm7
import Derived.Laws.BytesArg
namespace Go.Am
set_option linter.unusedSimpArgs false
set_option linter.unusedVariables false
set_option maxHeartbeats 4000000
open Go Go.RowKit
set_option linter.unusedVariables false
set_option linter.unusedSimpArgs false

section
variable {P : Program} {B : BM} {w : World} {t : Nat → AV} {a : Act}

theorem callNext {c : Go.Call} {ρ : Operand → Value} {T : TypeId} {b : Builtin} (hb : c.callee = .builtin b) {s : Sem Value}
    (h : ∀ cs, builtin b c.argTypes T cs (c.args.map ρ) = (do pure (.value (← s)))) {r : Value} {w' : World} (hr : s.run P w = .ok r w') :
    ((do let d ← resolve ρ c T; invoke d.target d.args : Sem Next).run P w) = .ok (.value r) w' := by
  unfold resolve
  simp only [hb, Sem.run_bind, Sem.run_pure, Result.andThen_ok, invoke]
  rw [h]
  simp [hr]

set_option maxHeartbeats 1000000 in
theorem ints8_vals : ∀ {l : List AV} {ns : List Int} {vs : List Value}, ints8 l = some ns → VRs B l vs → vs = ns.map (Value.int .u8)
  | [], ns, vs, h, hv => by
    simp only [ints8, Option.some.injEq] at h
    subst h
    simpa [VRs] using hv
  | x :: l, ns, vs, h, hv => by
    simp only [ints8] at h
    split at h
    · rename_i n r h1 h2
      cases h
      simp only [VRs] at hv
      obtain ⟨v, rest, rfl, g1, g2⟩ := hv
      unfold int8? at h1
      split at h1
      · cases h1
        rw [vr_val] at g1
        rw [g1, ints8_vals h2 g2]
        rfl
      · cases h1
    · cases h
theorem ok_toStr (ht : ∀ j, VR B (t j) (a.tmps.getD j undef)) {S T e : TypeId} (h1 : P.underlying S = some (.slice e)) (h2 : P.underlying e = some (.int .u8)) (h3 : P.underlying T = some .string) (x : Operand) {ob : AObj}
    (hob : ∀ i, rid .toStr [evO t (opd x)] = some i → OR B ob (B i) w) {p : Prop} {v : AV} (hq : qToStr [evO t (opd x)] ob = some (p, v)) (hp : p) : Goal P B w (convert S T (a.eval x)) v := by
  have nilcase : ∀ q : Option Addr, (convert S T (.slice q 0 0)).run P w = .ok (.string ⟨#[]⟩) w := fun q => by
    rw [run_convert_bytes_string w S T e q 0 0 h1 h2 h3]
    cases q with
    | none => simp [Conv.bytesToString]; rfl
    | some q =>
      have := run_bytesToString (P := P) w q 0 0 [] (by simp [loadCells, loadCellsFrom])
      rw [this]
      rfl
  have hx := one_rel ht (x := evO t (opd x)) (y := x) rfl
  unfold qToStr at hq
  split at hq
  · rename_i e1
    simp only [List.cons.injEq, and_true] at e1
    rw [e1, vr_val] at hx
    cases hq
    rw [hx]
    exact ⟨_, nilcase _, by rw [vr_val]⟩
  · rename_i i off len k cap e1
    simp only [List.cons.injEq, and_true] at e1
    rw [e1] at hx hob
    split at hq
    · rename_i ro cs
      split at hq
      · rename_i ns hns
        cases hq
        obtain ⟨rfl, hle⟩ := hp
        have ho := hob i rfl
        simp only [VR] at hx
        rcases hx with ⟨rfl, rfl, q0, hx⟩ | ⟨b, n, c, o, hb, hx, q1, q2, q3, q4⟩
        · rw [hx]
          simp only [List.take_zero, ints8, Option.some.injEq] at hns
          subst hns
          exact ⟨_, nilcase _, by rw [vr_val]; rfl⟩
        · rw [hx]
          rw [hb] at ho
          obtain ⟨arr, T', fz, hh, hsz, hv, h1c, hf⟩ := OR.at_block ho
          have hlen : cs.length ≤ arr.size := by have := hv.length; simp at this; omega
          have hld : (loadCells ⟨b, o, none⟩ len).run P w = .ok (ns.map (Value.int .u8)).toArray w := by
            rcases Nat.eq_zero_or_pos len with h0 | h0
            · subst h0
              simp only [List.take_zero, ints8, Option.some.injEq] at hns
              subst hns
              simp [loadCells, loadCellsFrom]
            · have ho' : o = off := q3.resolve_right (by omega)
              subst ho'
              rw [load_cells hh (by omega)]
              have e2 : (arr.extract o (o + len)).toList = ((arr.toList.take cs.length).drop o).take len := by
                rw [Array.toList_extract, List.drop_take, List.take_take, show Min.min len (cs.length - o) = len by omega]
                simp [List.extract_eq_take_drop]
              have e3 := ints8_vals hns (VRs.take len (VRs.drop o hv))
              rw [← e2] at e3
              have e4 : arr.extract o (o + len) = (ns.map (Value.int .u8)).toArray := by apply Array.ext'; simpa using e3
              rw [e4]
          refine ⟨.string ⟨(toB ns).toArray⟩, ?_, by rw [vr_val]⟩
          rw [run_convert_bytes_string w S T e _ len c h1 h2 h3, run_bytesToString w _ len c ns hld, foldl_push_bytes]
          simp [toB, ByteArray.empty, ByteArray.emptyWithCapacity]
          rfl
      · cases hq
    · cases hq
  · cases hq
theorem quiet_ok {o : Oper} {op : AOp} {xs : List Opd} (h : compileOp P o = some (op, xs)) (ht : ∀ j, VR B (t j) (a.tmps.getD j undef)) {ob : AObj}
    (hob : ∀ i, rid op (xs.map (evO t)) = some i → OR B ob (B i) w) {c : Prop} {v : AV} (hq : quiet op (xs.map (evO t)) ob = some (c, v)) (hc : c) :
    ∃ r, (execOp a.eval o).run P w = .ok (.value r) w ∧ VR B v r := by
  have fin : ∀ {s : Sem Value}, execOp a.eval o = (do pure (.value (← s))) → Goal P B w s v → ∃ r, (execOp a.eval o).run P w = .ok (.value r) w ∧ VR B v r := by
    intro s e ⟨r, h1, h2⟩
    rw [e]
    exact ⟨r, valueRun h1, h2⟩
  cases hop : o.op
  case move x =>
    simp only [compileOp, hop, Option.some.injEq, Prod.mk.injEq] at h
    obtain ⟨rfl, rfl⟩ := h
    simp only [quiet, qMove, List.map_cons, List.map_nil, Option.some.injEq, Prod.mk.injEq] at hq
    obtain ⟨rfl, rfl⟩ := hq
    exact ⟨a.eval x, by simp [execOp, hop], ev_rel ht x⟩
  case assign x =>
    simp only [compileOp, hop, Option.some.injEq, Prod.mk.injEq] at h
    obtain ⟨rfl, rfl⟩ := h
    simp only [quiet, qMove, List.map_cons, List.map_nil, Option.some.injEq, Prod.mk.injEq] at hq
    obtain ⟨rfl, rfl⟩ := hq
    exact ⟨a.eval x, by simp [execOp, hop], ev_rel ht x⟩
  case pick c' x y =>
    simp only [compileOp, hop, Option.some.injEq, Prod.mk.injEq] at h
    obtain ⟨rfl, rfl⟩ := h
    obtain ⟨r, h1, h2⟩ := ok_pick (P := P) (w := w) ht c' x y hq
    refine ⟨r, ?_, h2⟩
    simp only [execOp, hop]
    simp only [Sem.run_bind, Sem.run_pure] at h1 ⊢
    generalize (asBool (a.eval c')).run P w = z at *
    cases z with
    | ok b w1 => simp only [Result.andThen_ok, Result.ok.injEq] at h1 ⊢; exact ⟨by rw [h1.1], h1.2⟩
    | halt x w1 => simp at h1
  case alloc => simp only [compileOp, hop] at h; cases hz : zeroT P _ <;> rw [hz] at h <;> simp at h <;> obtain ⟨rfl, rfl⟩ := h <;> simp [quiet] at hq
  case box => simp only [compileOp, hop, Option.some.injEq, Prod.mk.injEq] at h; obtain ⟨rfl, rfl⟩ := h; simp [quiet] at hq
  case build T ps =>
    simp only [compileOp, hop] at h
    split at h
    · rename_i r hr
      obtain ⟨z, pl⟩ := r
      obtain ⟨fs, hz, hu, hpl⟩ := structT_spec hr
      · simp only at h hz hpl
        cases hq' : partsOf (pl[·]?) ps with
        | none => rw [hq'] at h; cases h
        | some q =>
          rw [hq'] at h
          simp only [Option.map_some, Option.some.injEq, Prod.mk.injEq] at h
          obtain ⟨rfl, rfl⟩ := h
          simp only [quiet, List.map_map, Function.comp_def] at hq
          refine fin (by simp only [execOp, hop]) (ok_build ht hz hq' hq fun zv h1 h2 out ho => ?_)
          unfold Instr.build
          have hfm : ∀ (l : List Field) (pl : List (Nat × Nat)), l.mapM (fun f => (sizeT P f.type).map fun n => (f.offset, n)) = some pl → ∀ w, (l.mapM (fun f => do pure (f.offset, ← sizeOf f.type)) : Sem (List (Nat × Nat))).run P w = .ok pl w := by
            intro l
            induction l with
            | nil => intro pl h w; simp at h; subst h; rfl
            | cons f l ih =>
              intro pl h w
              rw [List.mapM_cons] at h ⊢
              cases hs : sizeT P f.type with
              | none => rw [hs] at h; simp at h
              | some n =>
                rw [hs] at h
                cases hl : l.mapM (fun f => (sizeT P f.type).map fun n => (f.offset, n)) with
                | none => rw [hl] at h; simp at h
                | some ql =>
                  rw [hl] at h
                  simp at h
                  subst h
                  simp only [Sem.run_bind, run_size hs, Result.andThen_ok, Sem.run_pure, ih ql hl]
          have hfa : ∀ w, (fs.mapM (fun f => do pure (f.offset, ← sizeOf f.type)) : Sem (Array (Nat × Nat))).run P w = .ok pl.toArray w := by
            intro w
            have := hfm fs.toList pl hpl w
            rw [Array.mapM_eq_mapM_toList, Sem.run_map, this]
            rfl
          simp only [Sem.run_bind, h1, Result.andThen_ok, run_und hu, hfa]
          have : (fun i : Nat => pl.toArray[i]?) = (fun i : Nat => pl[i]?) := by funext i; simp
          rw [this, ho]
          rfl
    · split at h
      rotate_left
      · cases h
      rename_i r hr
      obtain ⟨z, k⟩ := r
      obtain ⟨n, e, hz, hu, hk⟩ := arrayT_spec hr
      · simp only at h hz hk
        cases hq' : partsOf (fun i => some (i * k, k)) ps with
        | none => rw [hq'] at h; cases h
        | some q =>
          rw [hq'] at h
          simp only [Option.map_some, Option.some.injEq, Prod.mk.injEq] at h
          obtain ⟨rfl, rfl⟩ := h
          simp only [quiet, List.map_map, Function.comp_def] at hq
          refine fin (by simp only [execOp, hop]) (ok_build ht hz hq' hq fun zv h1 h2 out ho => ?_)
          unfold Instr.build
          simp only [Sem.run_bind, h1, Result.andThen_ok, run_und hu, run_size hk]
          rw [ho]
          rfl
  case buildSlice T n ps =>
    simp only [compileOp, hop] at h
    (repeat' split at h) <;> first | (cases h; done) | skip
    cases hq' : partsOf (fun i => some (i * _, _)) ps with
    | none => rw [hq'] at h; cases h
    | some q => rw [hq'] at h; simp at h; obtain ⟨rfl, rfl⟩ := h; simp [quiet] at hq
  case load T x =>
    simp only [compileOp, hop] at h
    cases hl : lay P T with
    | none => rw [hl] at h; cases h
    | some l =>
      rw [hl] at h
      simp only [Option.map_some, Option.some.injEq, Prod.mk.injEq] at h
      obtain ⟨rfl, rfl⟩ := h
      simp only [quiet, List.map_cons, List.map_nil] at hq hob
      refine fin (s := Instr.loadAt T (a.eval x)) (by simp only [execOp, hop]) ?_
      cases he : evO t (opd x) with
      | ptr i off =>
        rw [he] at hq hob
        exact load_ok hl (hob i rfl) (one_rel ht he) hq hc
      | _ => rw [he] at hq; simp [qLoad] at hq
  case store T x y =>
    simp only [compileOp, hop] at h
    cases hz : sizeT P T <;> rw [hz] at h <;> simp at h
    obtain ⟨rfl, rfl⟩ := h; simp [quiet] at hq
  case nilCheck x =>
    simp only [compileOp, hop, Option.some.injEq, Prod.mk.injEq] at h
    obtain ⟨rfl, rfl⟩ := h
    exact ok_nil ht o x hop hq
  case binOp bop T x y yT =>
    have gen : bop ≠ .eql → bop ≠ .neq → ∃ r, (execOp a.eval o).run P w = .ok (.value r) w ∧ VR B v r := by
      intro n1 n2
      have : compileOp P o = some (.bin bop, [opd x, opd y]) := by
        unfold compileOp; rw [hop]; cases bop <;> first | rfl | exact absurd rfl n1 | exact absurd rfl n2
      rw [this] at h
      simp only [Option.some.injEq, Prod.mk.injEq] at h
      obtain ⟨rfl, rfl⟩ := h
      exact fin (by simp only [execOp, hop]) (ok_bin ht bop T x y hq hc)
    by_cases e1 : bop = .eql
    · subst e1
      simp only [compileOp, hop] at h
      cases he : eqOp P false T with
      | none => rw [he] at h; cases h
      | some e =>
        rw [he] at h
        simp only [Option.map_some, Option.some.injEq, Prod.mk.injEq] at h
        obtain ⟨rfl, rfl⟩ := h
        exact fin (by simp only [execOp, hop]; rfl) (eqOp_ok he (ev_rel ht x) (ev_rel ht y) hq hc x y)
    · by_cases e2 : bop = .neq
      · subst e2
        simp only [compileOp, hop] at h
        cases he : eqOp P true T with
        | none => rw [he] at h; cases h
        | some e =>
          rw [he] at h
          simp only [Option.map_some, Option.some.injEq, Prod.mk.injEq] at h
          obtain ⟨rfl, rfl⟩ := h
          exact fin (by simp only [execOp, hop]; rfl) (eqOp_ok he (ev_rel ht x) (ev_rel ht y) hq hc x y)
      · exact gen e1 e2
  case unOp uop T x =>
    simp only [compileOp, hop, Option.some.injEq, Prod.mk.injEq] at h
    obtain ⟨rfl, rfl⟩ := h
    exact fin (by simp only [execOp, hop]) (ok_un ht uop x hq)
  case convert S T x =>
    simp only [compileOp, hop] at h
    split at h
    · rename_i k' k h1 h2
      simp only [Option.some.injEq, Prod.mk.injEq] at h
      obtain ⟨rfl, rfl⟩ := h
      exact fin (by simp only [execOp, hop]) (ok_conv ht h1 h2 x hq)
    · rename_i h1 h2
      simp only [Option.some.injEq, Prod.mk.injEq] at h
      obtain ⟨rfl, rfl⟩ := h
      exact fin (by simp only [execOp, hop]) (ok_str ht h1 h2 x hq)
    · rename_i e1 h1 h2
      split at h <;> first | (cases h; done) | skip
      rename_i h3
      simp only [Option.some.injEq, Prod.mk.injEq] at h
      obtain ⟨rfl, rfl⟩ := h
      exact fin (by simp only [execOp, hop]) (ok_toStr ht h1 h3 h2 x hob hq hc)
    · split at h <;> first | (cases h; done) | skip
      simp only [Option.some.injEq, Prod.mk.injEq] at h
      obtain ⟨rfl, rfl⟩ := h
      simp [quiet] at hq
    · cases h
  case makeFunc fn first captured =>
    simp only [compileOp, hop] at h
    cases fn <;> simp only [reduceCtorEq, Option.some.injEq, Prod.mk.injEq] at h
    rename_i f
    obtain ⟨rfl, rfl⟩ := h
    simp only [quiet, Option.some.injEq, Prod.mk.injEq] at hq
    obtain ⟨rfl, rfl⟩ := hq
    refine fin (s := Instr.makeFunc (.func f) (first.map a.eval) (captured.map a.eval)) (by simp only [execOp, hop]) ⟨_, rfl, ?_⟩
    simp only [VR]
    refine ⟨_, _, rfl, ?_, ?_⟩
    · have := evs_rel ht first.toList
      simpa [Function.comp_def] using this
    · have := evs_rel ht captured.toList
      simpa [Function.comp_def] using this
  case makeMap T r =>
    cases r <;> simp only [compileOp, hop, reduceCtorEq, Option.some.injEq, Prod.mk.injEq] at h
    obtain ⟨rfl, rfl⟩ := h; simp [quiet] at hq
  case makeSlice T l c' =>
    simp only [compileOp, hop] at h
    (repeat' split at h) <;> first | (cases h; done) | skip
    simp only [Option.some.injEq, Prod.mk.injEq] at h
    obtain ⟨rfl, rfl⟩ := h; simp [quiet] at hq
  case slice T x lo hi mx =>
    simp only [compileOp, hop] at h
    split at h
    · cases h
    · rename_i hmh
      have hmh' : mx.isSome = true → hi.isSome = true := by intro e; simp [e] at hmh; simpa [Option.isSome_iff_ne_none] using hmh
      split at h
      · rename_i hu
        split at h
        · rename_i hm
          simp only [Option.some.injEq, Prod.mk.injEq] at h
          obtain ⟨rfl, rfl⟩ := h
          obtain rfl : mx = none := by simpa using hm
          exact fin (by simp only [execOp, hop]; rfl) (ok_slStr ht hu x lo hi hq hc)
        · cases h
      · rename_i e hu
        cases hk : sizeT P e with
        | none => rw [hk] at h; cases h
        | some k =>
          rw [hk] at h
          simp only [Option.map_some, Option.some.injEq, Prod.mk.injEq] at h
          obtain ⟨rfl, rfl⟩ := h
          exact fin (by simp only [execOp, hop]) (ok_slS ht hu hk x lo hi mx hmh' hq hc)
      · rename_i n e hu
        cases hk : sizeT P e with
        | none => rw [hk] at h; cases h
        | some k =>
          rw [hk] at h
          simp only [Option.map_some, Option.some.injEq, Prod.mk.injEq] at h
          obtain ⟨rfl, rfl⟩ := h
          exact fin (by simp only [execOp, hop]) (ok_slA ht hu hk x lo hi mx hmh' hob hq hc)
      · cases h
  case fieldAddr T x f =>
    simp only [compileOp, hop] at h
    split at h
    · rename_i l hl
      split at h
      · rename_i off ag n hq1
        obtain ⟨fs, fd, hu, hf, ho, hly⟩ := fldsT_get hl hq1
        simp only [Option.some.injEq, Prod.mk.injEq] at h
        obtain ⟨rfl, rfl⟩ := h
        simp only at ho
        subst ho
        exact fin (by simp only [execOp, hop]) (ok_addr ht hu hf (lay_size hly) x hq)
      · cases h
    · cases h
  case field T x f =>
    simp only [compileOp, hop] at h
    split at h
    · rename_i l hl
      split at h
      · rename_i off ag n hq1
        obtain ⟨fs, fd, hu, hf, ho, hly⟩ := fldsT_get hl hq1
        simp only [Option.some.injEq, Prod.mk.injEq] at h
        obtain ⟨rfl, rfl⟩ := h
        simp only at ho
        subst ho
        exact fin (by simp only [execOp, hop]) (ok_fld ht hu hf hly x hq hc)
      · cases h
    · cases h
  case indexAddr T x i =>
    simp only [compileOp, hop] at h
    split at h
    · rename_i e hu
      cases hk : sizeT P e with
      | none => rw [hk] at h; cases h
      | some k =>
        rw [hk] at h
        simp only [Option.map_some, Option.some.injEq, Prod.mk.injEq] at h
        obtain ⟨rfl, rfl⟩ := h
        exact fin (by simp only [execOp, hop]) (ok_ixS ht hu hk x i hq hc)
    · rename_i n e hu
      cases hk : sizeT P e with
      | none => rw [hk] at h; cases h
      | some k =>
        rw [hk] at h
        simp only [Option.map_some, Option.some.injEq, Prod.mk.injEq] at h
        obtain ⟨rfl, rfl⟩ := h
        exact fin (by simp only [execOp, hop]) (ok_ixA ht hu hk x i hq hc)
    · cases h
  case index T x i =>
    simp only [compileOp, hop] at h
    split at h
    · rename_i hu
      simp only [Option.some.injEq, Prod.mk.injEq] at h
      obtain ⟨rfl, rfl⟩ := h
      exact fin (by simp only [execOp, hop]) (ok_ixStr ht hu x i hq hc)
    · rename_i n e hu
      cases hl : lay P e with
      | none => rw [hl] at h; cases h
      | some l =>
        rw [hl] at h
        simp only [Option.map_some, Option.some.injEq, Prod.mk.injEq] at h
        obtain ⟨rfl, rfl⟩ := h
        exact fin (by simp only [execOp, hop]) (ok_ixV ht hu hl x i hq hc)
    · cases h
  case lookup T x i ok =>
    simp only [compileOp, hop] at h
    (repeat' split at h) <;> first | (cases h; done) | skip
    simp only [Option.some.injEq, Prod.mk.injEq] at h
    obtain ⟨rfl, rfl⟩ := h; simp [quiet] at hq
  case mapUpdate T m k x =>
    simp only [compileOp, hop] at h
    split at h <;> first | (cases h; done) | skip
    cases hl : leaves P 10 _ 0 <;> rw [hl] at h <;> simp at h
    obtain ⟨rfl, rfl⟩ := h; simp [quiet] at hq
  case extract x i =>
    simp only [compileOp, hop, Option.some.injEq, Prod.mk.injEq] at h
    obtain ⟨rfl, rfl⟩ := h
    exact fin (by simp only [execOp, hop]) (ok_ext ht i x hq hc)
  case call cl =>
    simp only [compileOp, hop] at h
    have ex : execOp a.eval o = (do let d ← resolve a.eval cl o.type; invoke d.target d.args) := by simp only [execOp, hop]
    rw [ex]
    unfold call? at h
    split at h
    · (repeat' split at h) <;> first | (cases h; done) | (simp only [Option.some.injEq, Prod.mk.injEq] at h; obtain ⟨rfl, rfl⟩ := h; simp [quiet] at hq; done)
    · simp only [Option.some.injEq, Prod.mk.injEq] at h; obtain ⟨rfl, rfl⟩ := h; simp [quiet] at hq
    · cases h
    · rename_i b hb
      have done : ∀ {s : Sem Value}, (∀ cs, builtin b cl.argTypes o.type cs (cl.args.map a.eval) = (do pure (.value (← s)))) → Goal P B w s v →
          ∃ r, ((do let d ← resolve a.eval cl o.type; invoke d.target d.args : Sem Next).run P w) = .ok (.value r) w ∧ VR B v r := by
        intro s e ⟨r, h1, h2⟩
        exact ⟨r, callNext hb e h1, h2⟩
      have hat : ∀ {T : TypeId} {l : List TypeId}, cl.argTypes.toList = T :: l → cl.argTypes[0]? = some T := fun e => by
        rw [← Array.getElem?_toList, e]; rfl
      have har1 : ∀ {x : Operand}, cl.args.toList = [x] → cl.args.map a.eval = #[a.eval x] := fun e => by
        apply Array.ext'; simp [e]
      split at h
      · rename_i T x ets exs
        split at h
        · rename_i hu
          simp only [Option.some.injEq, Prod.mk.injEq] at h; obtain ⟨rfl, rfl⟩ := h
          exact done (s := Builtin.len_ cl.argTypes o.type #[a.eval x]) (fun cs => by rw [har1 exs]; rfl) (ok_lenS ht (hat ets) hu x hq)
        · rename_i e hu
          simp only [Option.some.injEq, Prod.mk.injEq] at h; obtain ⟨rfl, rfl⟩ := h
          exact done (s := Builtin.len_ cl.argTypes o.type #[a.eval x]) (fun cs => by rw [har1 exs]; rfl) (ok_len ht (hat ets) hu x hq)
        · rename_i n e hu
          simp only [Option.some.injEq, Prod.mk.injEq] at h; obtain ⟨rfl, rfl⟩ := h
          simp only [quiet, Option.some.injEq, Prod.mk.injEq] at hq
          obtain ⟨rfl, rfl⟩ := hq
          exact done (s := Builtin.len_ cl.argTypes o.type #[a.eval x]) (fun cs => by rw [har1 exs]; rfl) ⟨.int .i64 n, by simp [Builtin.len_, hat ets, run_und hu, goInt], by rw [vr_val]⟩
        · rename_i e hu
          split at h
          · rename_i n e' hu'
            simp only [Option.some.injEq, Prod.mk.injEq] at h; obtain ⟨rfl, rfl⟩ := h
            simp only [quiet, Option.some.injEq, Prod.mk.injEq] at hq
            obtain ⟨rfl, rfl⟩ := hq
            exact done (s := Builtin.len_ cl.argTypes o.type #[a.eval x]) (fun cs => by rw [har1 exs]; rfl) ⟨.int .i64 n, by simp [Builtin.len_, hat ets, run_und hu, run_und hu', goInt], by rw [vr_val]⟩
          · cases h
        · simp only [Option.some.injEq, Prod.mk.injEq] at h; obtain ⟨rfl, rfl⟩ := h; simp [quiet] at hq
        · cases h
      · rename_i T x ets exs
        split at h
        · rename_i e hu
          simp only [Option.some.injEq, Prod.mk.injEq] at h; obtain ⟨rfl, rfl⟩ := h
          exact done (s := Builtin.cap_ cl.argTypes o.type #[a.eval x]) (fun cs => by rw [har1 exs]; rfl) (ok_cap ht (hat ets) hu x hq)
        · cases h
      · simp only [Option.some.injEq, Prod.mk.injEq] at h; obtain ⟨rfl, rfl⟩ := h
        simp only [quiet, List.map_map, Function.comp_def] at hq
        refine done (s := Builtin.min_ cl.argTypes o.type (cl.args.toList.map a.eval).toArray) (fun cs => ?_) ((ok_minmax ht cl.argTypes o.type cl.args.toList).1 hq)
        rw [show (cl.args.toList.map a.eval).toArray = cl.args.map a.eval by apply Array.ext'; simp]; rfl
      · simp only [Option.some.injEq, Prod.mk.injEq] at h; obtain ⟨rfl, rfl⟩ := h
        simp only [quiet, List.map_map, Function.comp_def] at hq
        refine done (s := Builtin.max_ cl.argTypes o.type (cl.args.toList.map a.eval).toArray) (fun cs => ?_) ((ok_minmax ht cl.argTypes o.type cl.args.toList).2 hq)
        rw [show (cl.args.toList.map a.eval).toArray = cl.args.map a.eval by apply Array.ext'; simp]; rfl
      all_goals first
        | (cases h; done)
        | ((repeat' split at h) <;> first
            | (cases h; done)
            | (simp only [Option.some.injEq, Prod.mk.injEq] at h; obtain ⟨rfl, rfl⟩ := h; simp [quiet] at hq; done)
            | (cases hz : sizeT P _ <;> rw [hz] at h <;> simp at h <;> obtain ⟨rfl, rfl⟩ := h <;> simp [quiet] at hq; done)
            | (cases hz : leaves P 10 _ 0 <;> rw [hz] at h <;> simp at h <;> obtain ⟨rfl, rfl⟩ := h <;> simp [quiet] at hq; done))
  all_goals (simp [compileOp, hop] at h; done)
end
end Go.Am
