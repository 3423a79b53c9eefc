/- Own theory, no program in sight: regions. -/
import Derived.Test.YteggjhihpjjloaaAm14
namespace Go.Am
set_option linter.unusedSimpArgs false
set_option linter.unusedVariables false
set_option maxHeartbeats 4000000
open Go Go.RowKit
set_option linter.unusedVariables false
set_option linter.unusedSimpArgs false
section
variable {P : Program} {B : BM} {w : World} {t : Nat → AV} {a : Act}

theorem res_same {h : Nat → AObj} (hr : HR B h w) {f : Nat} {v : AV} {r : Value} (hv : VR B v r) : EffRes B h w f v [] r w :=
  ⟨B, BLe.refl B, hv, hr, Kept.refl _ _, fun i b n hi hb => .inr ⟨i, n, hi, hb⟩, fun k hk => .inl hk⟩

/-- What the operation leaves, whatever way it ends. -/
def Left (B : BM) (h : Nat → AObj) (w : World) (f : Nat) (a : Act) (o : Oper) (out : AV → List (Nat × AObj) → Prop) (a' : Act) (w' : World) : Prop :=
  ∃ v ups r, out v ups ∧ a' = a.put o.dst r ∧ EffRes B h w f v ups r w'

theorem left_value {h : Nat → AObj} {f : Nat} {o : Oper} {out : AV → List (Nat × AObj) → Prop} {Q : Exit → Act → World → Prop} {v : AV} {ups : List (Nat × AObj)} (hv : out v ups)
    (h1 : ∃ r w', (execOp a.eval o).run P w = .ok (.value r) w' ∧ EffRes B h w f v ups r w') : o.wp P a w (Left B h w f a o out) Q := by
  obtain ⟨r, w', e, hres⟩ := h1
  unfold Oper.wp
  rw [e]
  exact ⟨v, ups, r, hv, rfl, hres⟩

theorem enter_of {g : FuncId} (hg : entersB P g = true) (args : Array Value) (w : World) : (callFunc g args).run P w = .ok (.enter g args) w := by
  unfold entersB at hg
  cases hf : P.funcs[g]? with
  | none => rw [hf] at hg; cases hg
  | some fn =>
    rw [hf] at hg
    simp only [Bool.and_eq_true, Bool.not_eq_true'] at hg
    unfold callFunc
    simp only [Sem.run_bind, run_program, Result.andThen_ok, hf, hg.1, Bool.false_eq_true, if_false, hg.2, Sem.run_pure]
theorem CallSpec.enters {g : FuncId} {xs : List AV} {f : Nat} {ids : List Nat} {objs : List AObj} {out : AV → List (Nat × AObj) → Prop} (h : CallSpec P g xs f ids objs out) : entersB P g = true := by
  obtain ⟨args, H, R, hcall, _⟩ := h
  exact hcall.1

theorem left_call {h : Nat → AObj} (hr : HR B h w) {f : Nat} (hf : ∀ k, f ≤ k → k < f + 16 → B k = none) {o : Oper} {out : AV → List (Nat × AObj) → Prop} {Q : Exit → Act → World → Prop} {g : FuncId} {xs : List AV} {ids : List Nat}
    {ra : Array Value} (hx : VRs B xs ra.toList) (hs : CallSpec P g xs f ids (ids.map h) out) (h1 : (execOp a.eval o).run P w = .ok (.enter g ra) w) : o.wp P a w (Left B h w f a o out) Q := by
  unfold Oper.wp
  rw [h1]
  refine (call_ok hr hx hs hf).mono ?_
  rintro e w' ⟨v, ups, r, rfl, ho, hres⟩
  exact ⟨v, ups, r, ho, rfl, hres⟩

theorem eff_wp {h : Nat → AObj} (hr : HR B h w) {f : Nat} (hf : ∀ k, f ≤ k → k < f + 16 → B k = none) {o : Oper} {op : AOp} {xs : List Opd} (hcomp : compileOp P o = some (op, xs)) (ht : ∀ j, VR B (t j) (a.tmps.getD j undef))
    {ids : List Nat} {out : AV → List (Nat × AObj) → Prop} {Q : Exit → Act → World → Prop} (hs : Spec P op f (xs.map (evO t)) ids (ids.map h) out) :
    o.wp P a w (Left B h w f a o out) Q := by
  have hf0 : B f = none := hf f (Nat.le_refl _) (by omega)
  have quietCase : (∃ c v ups, (quiet op (xs.map (evO t)) ((ids.map h).headD .gone)).map (fun r => (r.1, r.2, ([] : List (Nat × AObj)))) = some (c, v, ups) ∧ c ∧ out v ups) → ids = eids op (xs.map (evO t)) → eids op (xs.map (evO t)) = (rid op (xs.map (evO t))).toList →
      o.wp P a w (Left B h w f a o out) Q := by
    rintro ⟨c, v, ups, hq, hc, ho⟩ hids he
    cases hqq : quiet op (xs.map (evO t)) ((ids.map h).headD .gone) with
    | none => rw [hqq] at hq; cases hq
    | some r =>
      rw [hqq] at hq
      cases hq
      obtain ⟨r', h1, h2⟩ := quiet_ok (w := w) hcomp ht (fun i hi => by
        rw [hids, he, hi]
        exact hr.obj i) hqq hc
      exact left_value ho ⟨r', w, h1, res_same hr h2⟩
  by_cases hE : isEff op = false
  · have hs' := hs
    cases op <;> first | (cases hE; done) | exact quietCase hs.2 hs.1 rfl
  have nf : isEff op = true := by simpa using hE
  clear quietCase hE
  cases hop : o.op
  case store T x y =>
    simp only [compileOp, hop] at hcomp
    cases hz : sizeT P T with
    | none => rw [hz] at hcomp; cases hcomp
    | some n =>
      rw [hz] at hcomp
      simp only [Option.map_some, Option.some.injEq, Prod.mk.injEq] at hcomp
      obtain ⟨rfl, rfl⟩ := hcomp
      obtain ⟨rfl, c, v, ups, hq, hc, ho⟩ := hs
      obtain ⟨w', h1, h2⟩ := ok_store (P := P) hr hz (ev_rel ht x) (ev_rel ht y) (f := f) hq hc
      unfold Oper.wp
      have : (execOp a.eval o).run P w = .ok .skip w' := by simp [execOp, hop, h1]
      rw [this]
      exact ⟨v, ups, undef, ho, rfl, h2⟩
  case call cl =>
    have ex : execOp a.eval o = (do let d ← resolve a.eval cl o.type; invoke d.target d.args) := by simp only [execOp, hop]
    simp only [compileOp, hop] at hcomp
    unfold call? at hcomp
    split at hcomp
    · rename_i g hg
      simp only [Option.some.injEq, Prod.mk.injEq] at hcomp
      obtain ⟨rfl, rfl⟩ := hcomp
      have hx := evs_rel ht cl.args.toList
      rw [List.map_map] at hs
      refine left_call (ra := cl.args.map a.eval) hr hf (by simpa [Function.comp_def] using hx) hs ?_
      rw [ex]
      simp only [resolve, hg, Act.eval, Deferred.ofValue, Sem.run_bind, Sem.run_pure, Result.andThen_ok, invoke]
      rw [enter_of (CallSpec.enters hs)]
      congr 2
      simp
    · rename_i x hx0 hg
      simp only [Option.some.injEq, Prod.mk.injEq] at hcomp
      obtain ⟨rfl, rfl⟩ := hcomp
      simp only [Spec, List.map_cons] at hs
      split at hs
      · rename_i g first cap rest he
        rw [List.cons.injEq] at he
        obtain ⟨he, rfl⟩ := he
        have hxv := one_rel ht he
        simp only [VR] at hxv
        obtain ⟨fa, fc, hxv, hfa, hfc⟩ := hxv
        have hxs := evs_rel ht cl.args.toList
        refine left_call (ra := fa ++ cl.args.map a.eval ++ fc) hr hf ?_ hs ?_
        · simp only [Array.toList_append]
          refine VRs.append (VRs.append hfa ?_) hfc
          simpa [Function.comp_def] using hxs
        · rw [ex]
          simp only [resolve, hg, hxv, Deferred.ofValue, Sem.run_bind, Sem.run_pure, Result.andThen_ok, invoke]
          rw [enter_of (CallSpec.enters hs)]
      · exact hs.elim
    · cases hcomp
    · rename_i b hb
      have done : ∀ {s : Sem Value}, (∀ cs, builtin b cl.argTypes o.type cs (cl.args.map a.eval) = (do pure (.value (← s)))) → ∀ {v ups}, out v ups →
          (∃ r w', s.run P w = .ok r w' ∧ EffRes B h w f v ups r w') → o.wp P a w (Left B h w f a o out) Q := by
        intro s e v ups ho ⟨r, w', h1, h2⟩
        exact left_value ho ⟨r, w', by rw [ex]; exact callNext hb e h1, h2⟩
      have hat : ∀ {T : TypeId} {l : List TypeId}, cl.argTypes.toList = T :: l → cl.argTypes[0]? = some T := fun e => by
        rw [← Array.getElem?_toList, e]; rfl
      have hat1 : ∀ {T U : TypeId}, cl.argTypes.toList = [T, U] → cl.argTypes[1]? = some U := fun e => by
        rw [← Array.getElem?_toList, e]; rfl
      have har2 : ∀ {x y : Operand}, cl.args.toList = [x, y] → cl.args.map a.eval = #[a.eval x, a.eval y] := fun e => by
        apply Array.ext'; simp [e]
      split at hcomp
      case h_5 T U x y ets exs =>
        split at hcomp
        · rename_i r d hr0 hd
          obtain ⟨ks, bys, z⟩ := r
          obtain ⟨e, i, hu, hi, hz, hzl, hk1, hb1⟩ := elemT_spec hr0
          simp only at hk1 hb1
          subst hk1; subst hb1
          simp only at hz hzl
          have key : ∀ str, op = .append i.size i.bytes str → xs = [opd x, opd y] → (P.underlying U = some .string ∨ ∃ e', P.underlying U = some (.slice e')) → o.wp P a w (Left B h w f a o out) Q := by
            rintro str rfl rfl hU
            obtain ⟨rfl, c, v, ups, hq, hc, ho⟩ := hs
            exact done (s := Builtin.append_ cl.argTypes o.type #[a.eval x, a.eval y]) (fun cs => by rw [har2 exs]; rfl) ho
              (ok_append hr (hat ets) hu ⟨U, hat1 ets, hU⟩ hi hz hzl (ev_rel ht x) (ev_rel ht y) hf0 hq hc)
          split at hcomp
          · simp only [Option.some.injEq, Prod.mk.injEq] at hcomp; exact key _ hcomp.1.symm hcomp.2.symm (.inr ⟨_, hd⟩)
          · simp only [Option.some.injEq, Prod.mk.injEq] at hcomp; exact key _ hcomp.1.symm hcomp.2.symm (.inl hd)
          · simp only [Option.some.injEq, Prod.mk.injEq] at hcomp; obtain ⟨rfl, rfl⟩ := hcomp; cases nf
          · cases hcomp
        · cases hcomp
      case h_6 T U x y ets exs =>
        split at hcomp
        · rename_i e hu
          cases hk : sizeT P e with
          | none => rw [hk] at hcomp; cases hcomp
          | some k =>
            rw [hk] at hcomp
            simp only [Option.map_some, Option.some.injEq, Prod.mk.injEq] at hcomp
            obtain ⟨rfl, rfl⟩ := hcomp
            obtain ⟨rfl, c, v, ups, hq, hc, ho⟩ := hs
            exact done (s := Builtin.copy_ cl.argTypes o.type #[a.eval x, a.eval y]) (fun cs => by rw [har2 exs]; rfl) ho
              (ok_copy hr (hat ets) hu hk (ev_rel ht x) (ev_rel ht y) hq hc)
        · cases hcomp
      all_goals
        exfalso
        (repeat' split at hcomp) <;> first
          | (cases hcomp; done)
          | (simp only [Option.some.injEq, Prod.mk.injEq] at hcomp; obtain ⟨rfl, rfl⟩ := hcomp; simp [isEff] at nf; done)
          | (simp only [Option.some.injEq, Prod.mk.injEq] at hcomp; obtain ⟨rfl, rfl⟩ := hcomp; simp [Spec, effD, quiet] at hs; done)
          | (cases hz : leaves P 10 _ 0 <;> rw [hz] at hcomp <;> simp at hcomp <;> obtain ⟨rfl, rfl⟩ := hcomp <;> simp [Spec, effD, quiet] at hs; done)
  case makeMap T r =>
    exfalso
    cases r <;> simp only [compileOp, hop, reduceCtorEq, Option.some.injEq, Prod.mk.injEq] at hcomp
    obtain ⟨rfl, rfl⟩ := hcomp
    cases nf
  case binOp bop T x y yT =>
    exfalso
    have : (∃ neg, (eqOp P neg T).map (fun op => (op, [opd x, opd y])) = some (op, xs)) ∨ some (AOp.bin bop, [opd x, opd y]) = some (op, xs) := by
      unfold compileOp at hcomp
      rw [hop] at hcomp
      cases bop <;> first | exact .inr hcomp | exact .inl ⟨_, hcomp⟩
    rcases this with ⟨neg, h1⟩ | h1
    · cases he : eqOp P neg T with
      | none => rw [he] at h1; cases h1
      | some q => rw [he] at h1; simp only [Option.map_some, Option.some.injEq, Prod.mk.injEq] at h1; obtain ⟨rfl, rfl⟩ := h1; rw [(eqOp_kind he).2] at nf; cases nf
    · simp only [Option.some.injEq, Prod.mk.injEq] at h1; obtain ⟨rfl, rfl⟩ := h1; cases nf
  all_goals
    exfalso
    simp only [compileOp, hop] at hcomp
    (repeat' split at hcomp) <;> first
      | (cases hcomp; done)
      | (simp only [Option.some.injEq, Prod.mk.injEq] at hcomp; obtain ⟨rfl, rfl⟩ := hcomp; simp [isEff] at nf; done)
      | (cases hz : sizeT P _ <;> rw [hz] at hcomp <;> simp at hcomp <;> obtain ⟨rfl, rfl⟩ := hcomp <;> simp [isEff] at nf; done)
      | (cases hz : zeroT P _ <;> rw [hz] at hcomp <;> simp at hcomp <;> obtain ⟨rfl, rfl⟩ := hcomp <;> simp [isEff] at nf; done)
      | (cases hz : lay P _ <;> rw [hz] at hcomp <;> simp at hcomp <;> obtain ⟨rfl, rfl⟩ := hcomp <;> simp [isEff] at nf; done)
      | (cases hz : leaves P 10 _ 0 <;> rw [hz] at hcomp <;> simp at hcomp <;> obtain ⟨rfl, rfl⟩ := hcomp <;> simp [Spec, effD, quiet] at hs; done)
      | (cases hz : partsOf _ _ <;> rw [hz] at hcomp <;> simp at hcomp <;> obtain ⟨rfl, rfl⟩ := hcomp <;> simp [isEff] at nf; done)
end
end Go.Am
