/- Own theory, no program in sight: code, loops, contracts. -/
import Derived.Test.YteggjhihpjjloaaAm16
namespace Go.Am
set_option linter.unusedSimpArgs false
set_option linter.unusedVariables false
set_option maxHeartbeats 4000000
open Go Go.RowKit
set_option linter.unusedVariables false
set_option linter.unusedSimpArgs false

section
variable {P : Program} {N : Nat} {nn : NN} {Q : Exit → St → Prop} {x : St}

theorem least {p : Nat → Prop} (h : ∃ m, p m) : ∃ m, p m ∧ ∀ k, p k → m ≤ k := by
  obtain ⟨m, hm⟩ := h
  induction m using Nat.strongRecOn with
  | _ m ih =>
    by_cases hk : ∃ k, k < m ∧ p k
    · obtain ⟨k, h1, h2⟩ := hk
      exact ih k h1 h2
    · exact ⟨m, hm, fun k hp => Nat.le_of_not_lt fun hlt => hk ⟨k, hlt, hp⟩⟩
open Classical in
noncomputable def sInf' (p : Nat → Prop) : Nat := if h : ∃ m, p m then (least h).choose else 0
theorem sInf'_spec {p : Nat → Prop} (h : ∃ m, p m) : p (sInf' p) ∧ ∀ m, p m → sInf' p ≤ m := by
  unfold sInf'
  rw [dif_pos h]
  exact (least h).choose_spec
def AThen (K : St → Prop) (Q : Exit → St → Prop) : Exit → St → Prop
  | .normal, s => K s
  | .exit id, s => Q (.exit id) s
  | .goto l, s => Q (.goto l) s
  | .ret, s => Q .ret s
  | .panic c, s => Q (.panic c) s
  | .outgrown, s => Q .outgrown s
def ABlock (id : Nat) (Q : Exit → St → Prop) : Exit → St → Prop
  | .normal, s => Q .normal s
  | .exit id', s => match Nat.beq id' id with | true => Q .normal s | false => Q (.exit id') s
  | .goto l, s => Q (.goto l) s
  | .ret, s => Q .ret s
  | .panic c, s => Q (.panic c) s
  | .outgrown, s => Q .outgrown s
theorem AWp.seq {c d : Code} (h : AWp P N nn c (AThen (fun x => AWp P N nn d Q x) Q) x) : AWp P N nn (.seq c d) Q x := by
  intro C B a w hn hs
  refine wp_seq (wp_mono (h C B a w hn hs) ?_)
  rintro e a' w' ⟨B', x', hq, hs'⟩
  cases e with
  | normal => exact hq C B' a' w' hn hs'
  | exit id => exact ⟨B', x', hq, hs'⟩
  | goto l => exact ⟨B', x', hq, hs'⟩
  | ret => exact ⟨B', x', hq, hs'⟩
  | panic c => exact ⟨B', x', hq, hs'⟩
  | outgrown => exact ⟨B', x', hq, hs'⟩
theorem AWp.block {id : Nat} {c : Code} (h : AWp P N nn c (ABlock id Q) x) : AWp P N nn (.block id c) Q x := by
  intro C B a w hn hs
  refine wp_block (wp_mono (h C B a w hn hs) ?_)
  rintro e a' w' ⟨B', x', hq, hs'⟩
  cases e with
  | exit id' =>
    simp only [ABlock] at hq
    simp only [Exit.inBlock]
    cases hb : Nat.beq id' id with
    | true => rw [hb] at hq; rw [if_pos (Nat.eq_of_beq_eq_true hb)]; exact ⟨B', x', hq, hs'⟩
    | false => rw [hb] at hq; rw [if_neg (Nat.ne_of_beq_eq_false hb)]; exact ⟨B', x', hq, hs'⟩
  | normal => exact ⟨B', x', hq, hs'⟩
  | goto l => exact ⟨B', x', hq, hs'⟩
  | ret => exact ⟨B', x', hq, hs'⟩
  | panic c => exact ⟨B', x', hq, hs'⟩
  | outgrown => exact ⟨B', x', hq, hs'⟩
theorem AWp.skip (h : Q .normal x) : AWp P N nn .skip Q x := fun C B a w hn hs => wp_skip ⟨B, x, h, hs⟩
theorem AWp.label {l : Nat} (h : Q .normal x) : AWp P N nn (.label l) Q x := fun C B a w hn hs => wp_label ⟨B, x, h, hs⟩
theorem AWp.exit {id : Nat} (h : Q (.exit id) x) : AWp P N nn (.exit id) Q x := fun C B a w hn hs => wp_exit ⟨B, x, h, hs⟩
theorem AWp.ret (h : Q .ret x) : AWp P N nn .ret Q x := fun C B a w hn hs => wp_ret ⟨B, x, h, hs⟩
theorem AWp.cond {c : Operand} {y z : Code} {t : Bool} (hc : evO x.s.t (opd c) = .val (.bool t)) (ht : t = true → AWp P N nn y Q x) (hf : t = false → AWp P N nn z Q x) : AWp P N nn (.cond c y z) Q x := by
  intro C B a w hn hs
  have hv := one_rel hs.sim.t hc
  rw [vr_val] at hv
  refine wp_cond_split hv (fun e => ht e C B a w hn hs) (fun e => hf e C B a w hn hs)
theorem AWp.cond_true {c : Operand} {y z : Code} (hc : evO x.s.t (opd c) = .val (.bool true)) (ht : AWp P N nn y Q x) : AWp P N nn (.cond c y z) Q x := AWp.cond hc (fun _ => ht) (fun e => by cases e)
theorem AWp.cond_false {c : Operand} {y z : Code} (hc : evO x.s.t (opd c) = .val (.bool false)) (hf : AWp P N nn z Q x) : AWp P N nn (.cond c y z) Q x := AWp.cond hc (fun e => by cases e) (fun _ => hf)

/-- A state that says less, under other ids. -/
structure Emb (nn : NN) (ρ : List Nat) (x0 x : St) : Prop where
  t : ∀ j, leA (x.s.t j) (ren ρ (x0.s.t j))
  h : ∀ i, x0.s.h i = .gone ∨ ∃ j, ρ[i]? = some j ∧ leO (x.s.h j) (renO ρ (x0.s.h i))
  inj : ∀ i j, i ≠ j → (x0.s.h i).own = true → (x0.s.h j).live = true → ρ[i]? ≠ ρ[j]?
  anc : ∀ k, k < nn.n → ρ[k]? = some k
  n : ρ.length ≤ x0.n
theorem Emb.sms {ρ : List Nat} {x0 : St} (e : Emb nn ρ x0 x) {C : Ctx} {B : BM} {a : Act} {w : World} (hn : nn.fits C) (hs : Sms C N B x a w) : Sms C N (under ρ B) x0 a w := by
  obtain ⟨⟨h1, h2, h3, h4, h5, h6, h7⟩, h8, h9⟩ := hs
  have hnn : nn.n ≤ ρ.length := by
    rcases Nat.eq_zero_or_pos nn.n with h | h
    · omega
    · have := e.anc (nn.n - 1) (by omega)
      have := (List.getElem?_eq_some_iff.1 this).1
      omega
  refine ⟨⟨h1, h2, fun j => ?_, ⟨fun i => ?_, fun i j b n m hij hi hj hbi hbj => ?_⟩, fun i b n hi hb => ?_, h6, fun k hk => ?_⟩, fun k hk => ?_, by have := e.n; have := hn.1; omega⟩
  · exact (VR_ren ρ B _ _).1 (leA_ok _ (e.t j) (h3 j))
  · rcases e.h i with h | ⟨j, hj, h⟩
    · rw [h]; trivial
    · have := leO_ok h (h4.obj j)
      rw [OR_ren] at this
      simpa [under, hj] using this
  · rcases e.h i with h | ⟨i', hi', h⟩
    · rw [h] at hi; cases hi
    · rcases e.h j with k | ⟨j', hj', k⟩
      · rw [k] at hj; cases hj
      · have hne := e.inj i j hij hi hj
        rw [hi', hj'] at hne
        simp only [under, hi', hj', Option.bind_some] at hbi hbj
        exact h4.apart i' j' b n m (fun q => hne (by rw [q])) (leO_own h (by simpa using hi)) (leO_live k (by simpa using hj)) hbi hbj
  · rcases e.h i with h | ⟨i', hi', h⟩
    · rw [h] at hi; cases hi
    · simp only [under, hi', Option.bind_some] at hb
      exact h5 i' b n (leO_own h (by simpa using hi)) hb
  · simp only [under, e.anc k (by have := hn.1; omega), Option.bind_some]
    exact h7 k hk
  · have := e.n
    simp [under, List.getElem?_eq_none (show ρ.length ≤ k by omega)]
theorem AWp.weaken {c : Code} {ρ : List Nat} {x0 : St} (e : Emb nn ρ x0 x) (h : AWp P N nn c Q x0) : AWp P N nn c Q x :=
  fun C B a w hn hs => h C _ a w hn (e.sms hn hs)

theorem AWp.loop {c : Code} (I : Nat → St → Prop) (h0 : ∃ m ρ x0, I m x0 ∧ Emb nn ρ x0 x)
    (round : ∀ m x, I m x → AWp P N nn c (AThen (fun x' => ∃ m', m' < m ∧ ∃ ρ x0, I m' x0 ∧ Emb nn ρ x0 x') Q) x) : AWp P N nn (.loop c) Q x := by
  intro C B a w hn hs
  let J : Nat → Act → World → Prop := fun m a w => ∃ B x, I m x ∧ Sms C N B x a w
  have hJ0 : ∃ m, J m a w := by
    obtain ⟨m, ρ, x0, h1, h2⟩ := h0
    exact ⟨m, _, x0, h1, h2.sms hn hs⟩
  let μ : Act → World → Nat := fun a w => sInf' (fun m => J m a w)
  refine wp_loop (fun a w => ∃ m, J m a w) μ hJ0 ?_
  rintro a w ⟨m0, hm0⟩
  obtain ⟨hm, hmin⟩ := sInf'_spec (p := fun m => J m a w) ⟨m0, hm0⟩
  obtain ⟨B, x, hI, hs⟩ := hm
  refine wp_mono (round _ x hI C B a w hn hs) ?_
  rintro e a' w' ⟨B', x', hq, hs'⟩
  cases e with
  | normal =>
    obtain ⟨m', hlt, ρ, x0, hI', he⟩ := hq
    have hJ' : J m' a' w' := ⟨_, x0, hI', he.sms hn hs'⟩
    exact ⟨⟨m', hJ'⟩, Nat.lt_of_le_of_lt ((sInf'_spec (p := fun m => J m a' w') ⟨m', hJ'⟩).2 m' hJ') hlt⟩
  | exit id => exact ⟨B', x', hq, hs'⟩
  | goto l => exact ⟨B', x', hq, hs'⟩
  | ret => exact ⟨B', x', hq, hs'⟩
  | panic c => exact ⟨B', x', hq, hs'⟩
  | outgrown => exact ⟨B', x', hq, hs'⟩

/-! ### Contracts -/
def resC (P : Program) : ResultVar → Option (Nat × Option (Bool × Nat))
  | .tmp t => some (t, none)
  | .cell a t => (lay P t).map fun l => (a, some l)
def resOne (s : S) (r : Nat × Option (Bool × Nat)) : Option (Prop × AV) :=
  match r.2 with
  | none => some (True, s.t r.1)
  | some l => match s.t r.1 with
    | .ptr i off => qLoad l.1 l.2 (s.h i) [.ptr i off]
    | _ => none
def resAll (s : S) : List (Nat × Option (Bool × Nat)) → Option (Prop × List AV)
  | [] => some (True, [])
  | r :: l => match resOne s r, resAll s l with
    | some a, some b => some (a.1 ∧ b.1, a.2 :: b.2)
    | _, _ => none
def tupOf : List AV → AV
  | [v] => v
  | l => .tup l
def roOk : List AObj → List AObj → Prop
  | _, [] => True
  | [], q :: qs => (q.live = true → q.own = true) ∧ roOk [] qs
  | p :: ps, q :: qs => (q.live = true → q.own = true ∨ q = p) ∧ roOk ps qs
theorem roOk_spec : ∀ {H H' : List AObj}, roOk H H' → ∀ i, (listH H' i).live = true → (listH H' i).own = false → listH H' i = listH H i
  | _, [], _, i, hl, _ => by simp [listH, AObj.live] at hl
  | [], q :: qs, h, 0, hl, ho => by
    simp only [roOk] at h
    simp [listH] at hl ho
    rw [h.1 hl] at ho; cases ho
  | [], q :: qs, h, i + 1, hl, ho => by
    simp only [roOk] at h
    have := roOk_spec h.2 i (by simpa [listH] using hl) (by simpa [listH] using ho)
    simpa [listH] using this
  | p :: ps, q :: qs, h, 0, hl, ho => by
    simp only [roOk] at h
    simp [listH] at hl ho ⊢
    rcases h.1 hl with h | h
    · rw [h] at ho; cases ho
    · exact h
  | p :: ps, q :: qs, h, i + 1, hl, ho => by
    simp only [roOk] at h
    have := roOk_spec h.2 i (by simpa [listH] using hl) (by simpa [listH] using ho)
    simpa [listH] using this

def Ret (nn : NN) (rs : List (Nat × Option (Bool × Nat))) (H : List AObj) (R : AV → List AObj → Prop) (x : St) : Prop :=
  ∃ ρ v H' c vs, R v H' ∧ resAll x.s rs = some (c, vs) ∧ c ∧ leA (tupOf vs) (ren ρ v) ∧ Emb nn ρ ⟨⟨fun _ => .any, listH H'⟩, H'.length⟩ x ∧ H.length ≤ H'.length ∧ roOk H H'
def RetPost (nn : NN) (rs : List (Nat × Option (Bool × Nat))) (H : List AObj) (R : AV → List AObj → Prop) : Exit → St → Prop
  | .normal, x => Ret nn rs H R x
  | .ret, x => Ret nn rs H R x
  | _, _ => False
def resS (tmps : Array Value) (r : ResultVar) : Sem Value :=
  match r with
  | .tmp t => pure (tmps.getD t undef)
  | .cell a t => do loadVar t (← asAddr (tmps.getD a undef))
theorem resAll_ok {B : BM} {s : S} {a : Act} {w : World} (ht : ∀ j, VR B (s.t j) (a.tmps.getD j undef)) (hr : HR B s.h w) : ∀ {rs : List ResultVar} {cs : List (Nat × Option (Bool × Nat))}, rs.mapM (resC P) = some cs → ∀ {c : Prop} {vs : List AV}, resAll s cs = some (c, vs) → c →
    ∃ vals : List Value, (rs.mapM (resS a.tmps)).run P w = .ok vals w ∧ VRs B vs vals := by
  intro rs
  induction rs with
  | nil => intro cs h c vs h' _; simp at h; subst h; simp only [resAll, Option.some.injEq, Prod.mk.injEq] at h'; obtain ⟨_, rfl⟩ := h'; exact ⟨[], by simp, by simp [VRs]⟩
  | cons r rs ih =>
    intro cs h c vs h' hc
    rw [List.mapM_cons] at h
    cases hr0 : resC P r with
    | none => rw [hr0] at h; simp at h
    | some q =>
      cases hm : rs.mapM (resC P) with
      | none => rw [hr0, hm] at h; simp at h
      | some cs' =>
        rw [hr0, hm] at h
        simp at h
        subst h
        simp only [resAll] at h'
        split at h'
        · rename_i y z h1 h2
          cases h'
          obtain ⟨vals, e1, e2⟩ := ih hm h2 hc.2
          have one : ∃ v, (resS a.tmps r).run P w = .ok v w ∧ VR B y.2 v := by
            cases r with
            | tmp t =>
              simp only [resC, Option.some.injEq] at hr0
              subst hr0
              simp only [resOne, Option.some.injEq] at h1
              subst h1
              exact ⟨_, rfl, ht t⟩
            | cell ad t =>
              simp only [resC] at hr0
              cases hl : lay P t with
              | none => rw [hl] at hr0; cases hr0
              | some l =>
                rw [hl] at hr0
                simp only [Option.map_some, Option.some.injEq] at hr0
                subst hr0
                simp only [resOne] at h1
                split at h1
                · rename_i i off he
                  have hv := ht ad
                  rw [he] at hv
                  obtain ⟨v, k1, k2⟩ := load_ok (P := P) hl (hr.obj i) hv h1 hc.1
                  simp only [VR] at hv
                  obtain ⟨b, n, hb, hv⟩ := hv
                  refine ⟨v, ?_, k2⟩
                  rw [hv] at k1
                  unfold resS
                  simp only [hv]
                  simpa [Instr.loadAt, Instr.sureAddr, asAddr] using k1
                · cases h1
          obtain ⟨v, k1, k2⟩ := one
          refine ⟨v :: vals, ?_, by simp only [VRs]; exact ⟨v, vals, rfl, k2, e2⟩⟩
          rw [List.mapM_cons]
          simp only [Sem.run_bind, k1, Result.andThen_ok, e1, Sem.run_pure]
        · cases h'

theorem ACall.intro {g : FuncId} {fn : Func} {c : Code} {args : List AV} {H : List AObj} {R : AV → List AObj → Prop} {rs : List (Nat × Option (Bool × Nat))} (hf : P.funcs[g]? = some fn) (hb : fn.body = some c) (hen : entersB P g = true)
    (hrs : fn.results.toList.mapM (resC P) = some rs) (hN : args.length ≤ fn.ntmps)
    (h : AWp P fn.ntmps (NN.plain H.length) c (RetPost (NN.plain H.length) rs H R) ⟨⟨fun i => args.getD i (.val undef), listH H⟩, H.length⟩) : ACall P g args H R := by
  refine ⟨hen, fun B w ra hargs hr hfr => ?_⟩
  refine calls_of_wp hf hb ?_
  let C : Ctx := { w0 := w, mine := Mine B (listH H) w, new := fun b hb => .inl hb, n := H.length, B0 := B }
  have hal := hargs.length
  have hsz : ra.size = args.length := by simpa using hal
  have start : Sms C fn.ntmps B ⟨⟨fun i => args.getD i (.val undef), listH H⟩, H.length⟩ { tmps := ra ++ Array.replicate (fn.ntmps - ra.size) undef, defers := [] } w := by
    refine ⟨⟨?_, rfl, fun j => ?_, hr, fun i b n hi hb => .inr ⟨i, n, hi, hb⟩, Kept.refl _ _, fun k _ => rfl⟩, hfr, Nat.le_refl _⟩
    · simp; omega
    · simp only [Array.getD_eq_getD_getElem?, List.getD_eq_getElem?_getD]
      rw [Array.getElem?_append]
      rcases Nat.lt_or_ge j args.length with hj | hj
      · obtain ⟨r, h1, h2⟩ := hargs.get j (List.getElem?_eq_getElem hj)
        rw [if_pos (by omega), List.getElem?_eq_getElem hj]
        have : ra[j]? = some r := by simpa using h1
        rw [this]
        exact h2
      · rw [if_neg (by omega), List.getElem?_eq_none hj]
        simp only [Option.getD_none]
        rw [Array.getElem?_replicate]
        split <;> simp [VR]
  refine wp_mono (h C B _ w ⟨rfl, trivial⟩ start) ?_
  rintro e a' w' ⟨B', x', hq, hs'⟩
  have fin : Ret (NN.plain H.length) rs H R x' → a'.defers = [] ∧ ∃ v, (results fn a'.tmps).run P w' = .ok v w' ∧
      (fun e w' => ∃ v H' rv B', e = Ending.returned rv ∧ R v H' ∧ H.length ≤ H'.length ∧ (∀ i, i < H.length → B' i = B i) ∧ VR B' v rv ∧ HR B' (listH H') w' ∧ (∀ i, H'.length ≤ i → B' i = none) ∧
      Kept (Mine B (listH H) w) w w' ∧ (∀ i b n, (listH H' i).own = true → B' i = some (b, n) → Mine B (listH H) w b) ∧
      (∀ i, (listH H' i).live = true → (listH H' i).own = false → listH H' i = listH H i)) (.returned v) w' := by
    rintro ⟨ρ, v, H', cc, vs, hR, hres, hcc, htup, hemb, hlen, hro⟩
    obtain ⟨vals, k1, k2⟩ := resAll_ok (P := P) hs'.sim.t hs'.sim.hr hrs hres hcc
    have hs2 := hemb.sms ⟨rfl, trivial⟩ hs'
    have hres2 : (results fn a'.tmps).run P w' = .ok (if h : vals.toArray.size = 1 then vals.toArray[0] else .tuple vals.toArray) w' := by
      have : (fn.results.mapM (resS a'.tmps)).run P w' = .ok vals.toArray w' := by
        rw [Array.mapM_eq_mapM_toList, Sem.run_map, k1]
        rfl
      unfold results
      rw [Sem.run_bind]
      show ((fn.results.mapM (resS a'.tmps)).run P w').andThen _ = _
      rw [this]
      rfl
    refine ⟨hs'.sim.dfr, _, hres2, v, H', _, under ρ B', rfl, hR, hlen, fun i hi => ?_, ?_, hs2.sim.hr, fun i hi => hs2.fr i hi, hs'.sim.kept, fun i b n hi hb => hs2.sim.mine i b n hi hb, fun i hl ho => roOk_spec hro i hl ho⟩
    · exact hs2.sim.anc i hi
    · refine (VR_ren ρ B' v _).1 (leA_ok _ htup ?_)
      have hl := k2.length
      cases vs with
      | nil =>
        simp only [VRs] at k2
        subst k2
        simp [tupOf, VR, VRs]
      | cons y vs =>
        cases vs with
        | nil =>
          simp only [VRs] at k2
          obtain ⟨r, rest, rfl, h1, rfl⟩ := k2
          simpa [tupOf] using h1
        | cons z vs =>
          simp only [List.length_cons] at hl
          simp only [tupOf]
          rw [dif_neg (by simp; omega)]
          simp only [VR]
          exact ⟨_, rfl, by simpa using k2⟩
  cases e with
  | normal => exact fin hq
  | ret => exact fin hq
  | _ => exact hq.elim
end
end Go.Am
