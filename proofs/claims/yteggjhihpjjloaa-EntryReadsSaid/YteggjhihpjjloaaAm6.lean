/- Own theory, no program in sight: the quiet operations are as the model has them (4). -/
import Derived.Test.YteggjhihpjjloaaAm5
namespace Go.Am
set_option linter.unusedSimpArgs false
set_option linter.unusedVariables false
set_option maxHeartbeats 4000000
open Go Go.RowKit
set_option linter.unusedVariables false
set_option linter.unusedSimpArgs false

section
variable {P : Program} {B : BM} {w : World}

/-- What a quiet operation is asked for. -/
def QOk (P : Program) (B : BM) (w : World) (q : Option (Prop × AV)) (s : Sem Value) : Prop :=
  ∀ c v, q = some (c, v) → c → ∃ r, s.run P w = .ok r w ∧ VR B v r

theorem cells_ok {x : AV} {lc : List AV} (hce : cellsA x = some lc) {v : Value} (hv : VR B x v) : VRs B lc v.cells.toList ∧ ∀ y ∈ v.cells.toList, y.oneCell' = true := by
  cases x <;> simp only [cellsA, reduceCtorEq, Option.some.injEq] at hce
  case val u =>
    rw [vr_val] at hv
    subst hv
    cases v <;> simp [Value.oneCell'] at hce <;> subst hce <;> simp [Value.cells, VRs, VR, Value.oneCell']
  case ptr => subst hce; simp only [VR] at hv; obtain ⟨b, m, hb, rfl⟩ := hv; simp [Value.cells, VRs, VR, hb, Value.oneCell']
  case sl =>
    subst hce; simp only [VR] at hv; rcases hv with ⟨rfl, rfl, q0, rfl⟩ | ⟨b, m, c, o, hb, rfl, h1⟩
    · refine ⟨?_, by simp [Value.cells, Value.oneCell']⟩
      simp [Value.cells, VRs, VR]
    refine ⟨?_, by simp [Value.cells, Value.oneCell']⟩
    simp only [Value.cells, VRs, VR]; exact ⟨_, [], rfl, .inr ⟨b, m, c, o, hb, rfl, h1⟩, rfl⟩
  case mp => subst hce; simp only [VR] at hv; obtain ⟨b, m, hb, rfl⟩ := hv; simp [Value.cells, VRs, VR, hb, Value.oneCell']
  case agg => subst hce; simp only [VR] at hv; obtain ⟨a, rfl, ha⟩ := hv; exact ha
  case fn =>
    subst hce; simp only [VR] at hv; obtain ⟨a, c, rfl, h1, h2⟩ := hv
    refine ⟨?_, by simp [Value.cells, Value.oneCell']⟩
    simp only [Value.cells, VRs, VR]; exact ⟨_, [], rfl, ⟨a, c, rfl, h1, h2⟩, rfl⟩

theorem fill_ok : ∀ (parts : List (Nat × Nat)) (xs : List AV) (cells : List AV) (l : List AV), fillA cells parts xs = some l →
    ∀ (place : Nat → Option (Nat × Nat)) (ix : List Nat) (vs : List Value) (arr : Array Value), ix.mapM place = some parts → VRs B xs vs → VRs B cells arr.toList → (∀ x ∈ arr.toList, x.oneCell' = true) →
    ∃ out, Instr.fill place arr (ix.zip vs) = some out ∧ VRs B l out.toList ∧ (∀ x ∈ out.toList, x.oneCell' = true) := by
  intro parts
  induction parts with
  | nil =>
    intro xs cells l h place ix vs arr hix hxs hc h1c
    cases xs with
    | cons x xs => simp [fillA] at h
    | nil =>
      simp only [fillA, Option.some.injEq] at h
      subst h
      have : ix = [] := by
        cases ix with
        | nil => rfl
        | cons i ix =>
          rw [List.mapM_cons] at hix
          cases hp : place i <;> cases hm : ix.mapM place <;> simp [hp, hm] at hix
      subst this
      exact ⟨arr, rfl, hc, h1c⟩
  | cons p parts ih =>
    intro xs cells l h place ix vs arr hix hxs hc h1c
    obtain ⟨off, n⟩ := p
    cases xs with
    | nil => simp [fillA] at h
    | cons x xs =>
      simp only [fillA] at h
      cases hce : cellsA x with
      | none => rw [hce] at h; cases h
      | some lc =>
        rw [hce] at h
        simp only at h
        split at h
        · rename_i hfit
          obtain ⟨hn, hle⟩ := hfit
          cases ix with
          | nil => simp at hix
          | cons i ix =>
            rw [List.mapM_cons] at hix
            cases hp : place i with
            | none => rw [hp] at hix; simp at hix
            | some q =>
              rw [hp] at hix
              cases hm : ix.mapM place with
              | none => rw [hm] at hix; simp at hix
              | some qs =>
                rw [hm] at hix
                simp at hix
                obtain ⟨rfl, rfl⟩ := hix
                simp only [VRs] at hxs
                obtain ⟨v, rest, rfl, hv, hrest⟩ := hxs
                obtain ⟨hvc, hvo⟩ := cells_ok hce hv
                have hvl : v.cells.size = n := by have := hvc.length; simp at this; omega
                have hal : arr.size = cells.length := by have := hc.length; simpa using this
                simp only [List.zip_cons_cons, Instr.fill, hp]
                rw [if_neg (by simp; omega)]
                -- the fold lays the cells
                have fold : ∀ (new : List Value) (k : Nat) (a : Array Value), off + k + new.length ≤ a.size →
                    ((new.zipIdx k).foldl (fun cs (c, j) => cs.setIfInBounds (off + j) c) a).toList = a.toList.take (off + k) ++ new ++ a.toList.drop (off + k + new.length) := by
                  intro new
                  induction new with
                  | nil => intro k a hk; simp
                  | cons y new ihn =>
                    intro k a hk
                    simp only [List.zipIdx_cons, List.foldl_cons]
                    rw [ihn (k + 1) _ (by simp at hk ⊢; omega)]
                    simp only [List.length_cons] at hk
                    have hlt : off + k < a.toList.length := by simp; omega
                    rw [Array.toList_setIfInBounds]
                    apply List.ext_getElem?
                    intro m
                    simp only [List.getElem?_append, List.getElem?_take, List.getElem?_drop, List.getElem?_set, List.length_append, List.length_take, List.length_set, List.length_cons]
                    rcases Nat.lt_trichotomy m (off + k) with hm' | hm' | hm'
                    · have e1 : m < Min.min (off + (k + 1)) a.toList.length := by omega
                      have e2 : m < Min.min (off + k) a.toList.length := by omega
                      simp [hm', show m < off + (k + 1) by omega, show ¬ off + k = m by omega]
                      grind
                    · subst hm'
                      grind
                    · grind
                have hfold := fold v.cells.toList 0 arr (by simp; omega)
                have harr : (v.cells.zipIdx.foldl (fun cs (c, j) => cs.setIfInBounds (off + j) c) arr).toList = arr.toList.take off ++ v.cells.toList ++ arr.toList.drop (off + n) := by
                  rw [← Array.foldl_toList, Array.toList_zipIdx]
                  rw [hfold]
                  simp [hvl]
                refine ih xs _ l h place ix rest _ hm hrest ?_ ?_
                rotate_left
                · intro x hx
                  rw [harr] at hx
                  rcases List.mem_append.1 hx with hx | hx
                  · rcases List.mem_append.1 hx with hx | hx
                    · exact h1c x (List.mem_of_mem_take hx)
                    · exact hvo x hx
                  · exact h1c x (List.mem_of_mem_drop hx)
                rw [harr]
                refine VRs.append (VRs.append (VRs.take off hc) ?_) (VRs.drop (off + n) hc)
                exact hvc
        · cases h
theorem run_bound {k : IntKind} {x : Int} {y : Nat} (code : BoundsCode) (h : 0 ≤ x ∧ x ≤ y) : (Instr.sliceBound (.int k x) y code).run P w = .ok x.toNat w := by
  simp [Instr.sliceBound, asIntOf, h]
theorem takeI_ok {t : Nat → AV} {a : Act} (ht : ∀ j, VR B (t j) (a.tmps.getD j undef)) (o : Option Operand) (rest : List AV) {i : Option Int} {rest' : List AV}
    (h : takeI o.isSome (o.toList.map (fun x => evO t (opd x)) ++ rest) = some (i, rest')) : rest' = rest ∧ ∃ k, o.map a.eval = i.map (Value.int k) := by
  cases o with
  | none => simp only [takeI, Option.isSome, Option.toList, List.map_nil, List.nil_append, Option.some.injEq, Prod.mk.injEq] at h; obtain ⟨rfl, rfl⟩ := h; exact ⟨rfl, .i64, rfl⟩
  | some x =>
    simp only [takeI, Option.isSome, Option.toList, List.map_cons, List.map_nil, List.cons_append, List.nil_append] at h
    split at h
    · rename_i k y l e
      rw [List.cons.injEq] at e
      obtain ⟨e, rfl⟩ := e
      cases h
      have := ev_rel ht x
      rw [e, vr_val] at this
      exact ⟨rfl, k, by simp [this]⟩
    · cases h
theorem bounds_ok {t : Nat → AV} {a : Act} (ht : ∀ j, VR B (t j) (a.tmps.getD j undef)) {lo hi mx : Option Operand} {b : Option Int × Option Int × Option Int}
    (hb : bounds lo.isSome hi.isSome mx.isSome ((lhm lo hi mx).map (evO t)) = some b) {len rcap : Nat} {cap : Option Nat} (hcap : ∀ m, cap = some m → rcap = m) (hlen : len ≤ rcap)
    (hc : (cutAt len cap b).1) (isSl : Bool) (hmh : mx.isSome = true → hi.isSome = true) :
    ∃ m, (Instr.sliceBounds isSl len rcap (lo.map a.eval) (hi.map a.eval) (mx.map a.eval)).run P w = .ok ((cutAt len cap b).2.1, (cutAt len cap b).2.2.1, m) w ∧
      (cutAt len cap b).2.1 ≤ (cutAt len cap b).2.2.1 ∧ (cutAt len cap b).2.2.1 ≤ m ∧ m ≤ rcap ∧ ∀ k, (cutAt len cap b).2.2.2 = some k → m = k := by
  have hroom : cap.getD len ≤ rcap := by cases cap with | none => simpa using hlen | some m => have := hcap m rfl; simp; omega
  unfold bounds at hb
  simp only [lhm, List.map_append, List.map_map, Function.comp_def] at hb
  split at hb
  · cases hb
  · rename_i l xs1 e1
    rw [List.append_assoc] at e1
    obtain ⟨rfl, kl, hl⟩ := takeI_ok ht lo _ e1
    split at hb
    · cases hb
    · rename_i h xs2 e2
      obtain ⟨rfl, kh, hh⟩ := takeI_ok ht hi _ e2
      split at hb
      · rename_i m e3
        cases hb
        obtain ⟨hnil, km, hm⟩ := takeI_ok ht mx [] (by rw [List.append_nil]; exact e3)
        rw [hl, hh, hm]
        have hmi : m.isSome = mx.isSome := by have := congrArg Option.isSome hm; simpa using this.symm
        have hhi : h.isSome = hi.isSome := by have := congrArg Option.isSome hh; simpa using this.symm
        unfold Instr.sliceBounds
        cases m with
        | none =>
          simp only [cutAt] at hc ⊢
          obtain ⟨c1, c2, c3⟩ := hc
          refine ⟨rcap, ?_, by omega, by omega, Nat.le_refl _, fun k hk => hcap k hk⟩
          cases h <;> cases l <;> simp only [Option.map_none, Option.map_some, Option.getD_none, Option.getD_some, Option.isSome] at c1 c2 c3 ⊢ <;>
            simp only [Sem.run_bind, Sem.run_pure, Result.andThen_ok]
          · simp
          · rename_i x
            rw [run_bound _ ⟨c1, by omega⟩]; simp
          · rename_i x
            rw [run_bound _ ⟨by omega, by omega⟩]; simp
          · rename_i x y
            rw [run_bound _ ⟨by omega, by omega⟩]
            simp only [Result.andThen_ok, Sem.run_bind, Sem.run_pure]
            rw [run_bound _ ⟨c1, by omega⟩]; simp
        | some m =>
          simp only [cutAt] at hc ⊢
          obtain ⟨c1, c2, c3, c4⟩ := hc
          have : h.isSome = true := by rw [hhi]; exact hmh (by rw [← hmi]; rfl)
          cases h with
          | none => cases this
          | some h =>
            refine ⟨m.toNat, ?_, by omega, by simp at c3 ⊢; omega, by simp at c3 c2; omega, by simp⟩
            cases l <;> simp only [Option.map_none, Option.map_some, Option.getD_none, Option.getD_some, Option.isSome] at c1 c2 c3 ⊢ <;>
              simp only [Sem.run_bind, Sem.run_pure, Result.andThen_ok]
            · rw [run_bound _ ⟨by omega, by omega⟩]
              simp only [Result.andThen_ok, Sem.run_bind, Sem.run_pure]
              rw [run_bound _ ⟨by omega, by omega⟩]; simp
            · rw [run_bound _ ⟨by omega, by omega⟩]
              simp only [Result.andThen_ok, Sem.run_bind, Sem.run_pure]
              rw [run_bound _ ⟨by omega, by omega⟩]
              simp only [Result.andThen_ok, Sem.run_bind, Sem.run_pure]
              rw [run_bound _ ⟨c1, by omega⟩]; simp
      · cases hb
end
end Go.Am
