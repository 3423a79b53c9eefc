/- Own theory, no program in sight: the engine (Am17, Am18, Am19, Am20, AmG). -/
import Derived.Test.YtopidfkmligljaaGreatEg2
/- Own theory, no program in sight: code, loops, contracts. -/
namespace Go.Am
set_option linter.unusedSimpArgs false
set_option linter.unusedVariables false
set_option maxHeartbeats 4000000
open Go Go.RowKit
set_option linter.unusedVariables false
set_option linter.unusedSimpArgs false

section
variable {P : Program} {N : Nat} {nn : NN} {Q : Exit → St → Prop} {x : St}

theorem least {p : Nat → Prop} (h : ∃ m, p m) : ∃ m, p m ∧ ∀ k, p k → m ≤ k := by
  obtain ⟨m, hm⟩ := h
  induction m using Nat.strongRecOn with
  | _ m ih =>
    by_cases hk : ∃ k, k < m ∧ p k
    · obtain ⟨k, h1, h2⟩ := hk
      exact ih k h1 h2
    · exact ⟨m, hm, fun k hp => Nat.le_of_not_lt fun hlt => hk ⟨k, hlt, hp⟩⟩
open Classical in
noncomputable def sInf' (p : Nat → Prop) : Nat := if h : ∃ m, p m then (least h).choose else 0
theorem sInf'_spec {p : Nat → Prop} (h : ∃ m, p m) : p (sInf' p) ∧ ∀ m, p m → sInf' p ≤ m := by
  unfold sInf'
  rw [dif_pos h]
  exact (least h).choose_spec
def AThen (K : St → Prop) (Q : Exit → St → Prop) : Exit → St → Prop
  | .normal, s => K s
  | .exit id, s => Q (.exit id) s
  | .goto l, s => Q (.goto l) s
  | .ret, s => Q .ret s
  | .panic c, s => Q (.panic c) s
  | .outgrown, s => Q .outgrown s
def ABlock (id : Nat) (Q : Exit → St → Prop) : Exit → St → Prop
  | .normal, s => Q .normal s
  | .exit id', s => match Nat.beq id' id with | true => Q .normal s | false => Q (.exit id') s
  | .goto l, s => Q (.goto l) s
  | .ret, s => Q .ret s
  | .panic c, s => Q (.panic c) s
  | .outgrown, s => Q .outgrown s
theorem AWp.seq {c d : Code} (h : AWp P N nn c (AThen (fun x => AWp P N nn d Q x) Q) x) : AWp P N nn (.seq c d) Q x := by
  intro C B a w hn hs
  refine wp_seq (wp_mono (h C B a w hn hs) ?_)
  rintro e a' w' ⟨B', x', hq, hs'⟩
  cases e with
  | normal => exact hq C B' a' w' hn hs'
  | exit id => exact ⟨B', x', hq, hs'⟩
  | goto l => exact ⟨B', x', hq, hs'⟩
  | ret => exact ⟨B', x', hq, hs'⟩
  | panic c => exact ⟨B', x', hq, hs'⟩
  | outgrown => exact ⟨B', x', hq, hs'⟩
theorem AWp.block {id : Nat} {c : Code} (h : AWp P N nn c (ABlock id Q) x) : AWp P N nn (.block id c) Q x := by
  intro C B a w hn hs
  refine wp_block (wp_mono (h C B a w hn hs) ?_)
  rintro e a' w' ⟨B', x', hq, hs'⟩
  cases e with
  | exit id' =>
    simp only [ABlock] at hq
    simp only [Exit.inBlock]
    cases hb : Nat.beq id' id with
    | true => rw [hb] at hq; rw [if_pos (Nat.eq_of_beq_eq_true hb)]; exact ⟨B', x', hq, hs'⟩
    | false => rw [hb] at hq; rw [if_neg (Nat.ne_of_beq_eq_false hb)]; exact ⟨B', x', hq, hs'⟩
  | normal => exact ⟨B', x', hq, hs'⟩
  | goto l => exact ⟨B', x', hq, hs'⟩
  | ret => exact ⟨B', x', hq, hs'⟩
  | panic c => exact ⟨B', x', hq, hs'⟩
  | outgrown => exact ⟨B', x', hq, hs'⟩
theorem AWp.skip (h : Q .normal x) : AWp P N nn .skip Q x := fun C B a w hn hs => wp_skip ⟨B, x, h, hs⟩
theorem AWp.label {l : Nat} (h : Q .normal x) : AWp P N nn (.label l) Q x := fun C B a w hn hs => wp_label ⟨B, x, h, hs⟩
theorem AWp.exit {id : Nat} (h : Q (.exit id) x) : AWp P N nn (.exit id) Q x := fun C B a w hn hs => wp_exit ⟨B, x, h, hs⟩
theorem AWp.ret (h : Q .ret x) : AWp P N nn .ret Q x := fun C B a w hn hs => wp_ret ⟨B, x, h, hs⟩
theorem AWp.cond {c : Operand} {y z : Code} {t : Bool} (hc : evO x.s.t (opd c) = .val (.bool t)) (ht : t = true → AWp P N nn y Q x) (hf : t = false → AWp P N nn z Q x) : AWp P N nn (.cond c y z) Q x := by
  intro C B a w hn hs
  have hv := one_rel hs.sim.t hc
  rw [vr_val] at hv
  refine wp_cond_split hv (fun e => ht e C B a w hn hs) (fun e => hf e C B a w hn hs)
theorem AWp.cond_true {c : Operand} {y z : Code} (hc : evO x.s.t (opd c) = .val (.bool true)) (ht : AWp P N nn y Q x) : AWp P N nn (.cond c y z) Q x := AWp.cond hc (fun _ => ht) (fun e => by cases e)
theorem AWp.cond_false {c : Operand} {y z : Code} (hc : evO x.s.t (opd c) = .val (.bool false)) (hf : AWp P N nn z Q x) : AWp P N nn (.cond c y z) Q x := AWp.cond hc (fun e => by cases e) (fun _ => hf)

/-- A state that says less, under other ids. -/
structure Emb (nn : NN) (ρ : List Nat) (x0 x : St) : Prop where
  t : ∀ j, leA (x.s.t j) (ren ρ (x0.s.t j))
  h : ∀ i, x0.s.h i = .gone ∨ ∃ j, ρ[i]? = some j ∧ leO (x.s.h j) (renO ρ (x0.s.h i))
  inj : ∀ i j, i ≠ j → (x0.s.h i).own = true → (x0.s.h j).live = true → ρ[i]? ≠ ρ[j]?
  anc : ∀ k, k < nn.n → ρ[k]? = some k
  n : ρ.length ≤ x0.n
theorem Emb.sms {ρ : List Nat} {x0 : St} (e : Emb nn ρ x0 x) {C : Ctx} {B : BM} {a : Act} {w : World} (hn : nn.fits C) (hs : Sms C N B x a w) : Sms C N (under ρ B) x0 a w := by
  obtain ⟨⟨h1, h2, h3, h4, h5, h6, h7, hza, hzm⟩, h8, h9⟩ := hs
  have hnn : nn.n ≤ ρ.length := by
    rcases Nat.eq_zero_or_pos nn.n with h | h
    · omega
    · have := e.anc (nn.n - 1) (by omega)
      have := (List.getElem?_eq_some_iff.1 this).1
      omega
  refine ⟨⟨h1, h2, fun j => ?_, ⟨fun i => ?_, fun i j b n m hij hi hj hbi hbj => ?_, h4.zr.keep rfl (fun _ _ _ => rfl) fun i b n hi hb => ?_⟩, fun i b n hi hb => ?_, h6, fun k hk => ?_, hza, hzm⟩, fun k hk => ?_, by have := e.n; have := hn.1; omega⟩
  · exact (VR_ren ρ B _ _).1 (leA_ok _ (e.t j) (h3 j))
  · rcases e.h i with h | ⟨j, hj, h⟩
    · rw [h]; trivial
    · have := leO_ok h (h4.obj j)
      rw [OR_ren] at this
      simpa [under, hj] using this
  · rcases e.h i with h | ⟨i', hi', h⟩
    · rw [h] at hi; cases hi
    · rcases e.h j with k | ⟨j', hj', k⟩
      · rw [k] at hj; cases hj
      · have hne := e.inj i j hij hi hj
        rw [hi', hj'] at hne
        simp only [under, hi', hj', Option.bind_some] at hbi hbj
        exact h4.apart i' j' b n m (fun q => hne (by rw [q])) (leO_own h (by simpa using hi)) (leO_live k (by simpa using hj)) hbi hbj
  · rcases e.h i with h | ⟨i', hi', h⟩
    · rw [h] at hi; cases hi
    · simp only [under, hi', Option.bind_some] at hb
      exact h4.zr.free i' b n (leO_own h (by simpa using hi)) hb
  · rcases e.h i with h | ⟨i', hi', h⟩
    · rw [h] at hi; cases hi
    · simp only [under, hi', Option.bind_some] at hb
      exact h5 i' b n (leO_own h (by simpa using hi)) hb
  · simp only [under, e.anc k (by have := hn.1; omega), Option.bind_some]
    exact h7 k hk
  · have := e.n
    simp [under, List.getElem?_eq_none (show ρ.length ≤ k by omega)]
theorem AWp.weaken {c : Code} {ρ : List Nat} {x0 : St} (e : Emb nn ρ x0 x) (h : AWp P N nn c Q x0) : AWp P N nn c Q x :=
  fun C B a w hn hs => h C _ a w hn (e.sms hn hs)

theorem AWp.loop {c : Code} (I : Nat → St → Prop) (h0 : ∃ m ρ x0, I m x0 ∧ Emb nn ρ x0 x)
    (round : ∀ m x, I m x → AWp P N nn c (AThen (fun x' => ∃ m', m' < m ∧ ∃ ρ x0, I m' x0 ∧ Emb nn ρ x0 x') Q) x) : AWp P N nn (.loop c) Q x := by
  intro C B a w hn hs
  let J : Nat → Act → World → Prop := fun m a w => ∃ B x, I m x ∧ Sms C N B x a w
  have hJ0 : ∃ m, J m a w := by
    obtain ⟨m, ρ, x0, h1, h2⟩ := h0
    exact ⟨m, _, x0, h1, h2.sms hn hs⟩
  let μ : Act → World → Nat := fun a w => sInf' (fun m => J m a w)
  refine wp_loop (fun a w => ∃ m, J m a w) μ hJ0 ?_
  rintro a w ⟨m0, hm0⟩
  obtain ⟨hm, hmin⟩ := sInf'_spec (p := fun m => J m a w) ⟨m0, hm0⟩
  obtain ⟨B, x, hI, hs⟩ := hm
  refine wp_mono (round _ x hI C B a w hn hs) ?_
  rintro e a' w' ⟨B', x', hq, hs'⟩
  cases e with
  | normal =>
    obtain ⟨m', hlt, ρ, x0, hI', he⟩ := hq
    have hJ' : J m' a' w' := ⟨_, x0, hI', he.sms hn hs'⟩
    exact ⟨⟨m', hJ'⟩, Nat.lt_of_le_of_lt ((sInf'_spec (p := fun m => J m a' w') ⟨m', hJ'⟩).2 m' hJ') hlt⟩
  | exit id => exact ⟨B', x', hq, hs'⟩
  | goto l => exact ⟨B', x', hq, hs'⟩
  | ret => exact ⟨B', x', hq, hs'⟩
  | panic c => exact ⟨B', x', hq, hs'⟩
  | outgrown => exact ⟨B', x', hq, hs'⟩

/-! ### Contracts -/
def resC (P : Program) : ResultVar → Option (Nat × Option (Bool × Nat))
  | .tmp t => some (t, none)
  | .cell a t => (lay P t).map fun l => (a, some l)
def resOne (s : S) (r : Nat × Option (Bool × Nat)) : Option (Prop × AV) :=
  match r.2 with
  | none => some (True, s.t r.1)
  | some l => match s.t r.1 with
    | .ptr i off => qLoad l.1 l.2 (s.h i) [.ptr i off]
    | _ => none
def resAll (s : S) : List (Nat × Option (Bool × Nat)) → Option (Prop × List AV)
  | [] => some (True, [])
  | r :: l => match resOne s r, resAll s l with
    | some a, some b => some (a.1 ∧ b.1, a.2 :: b.2)
    | _, _ => none
def tupOf : List AV → AV
  | [v] => v
  | l => .tup l
def roOk : List AObj → List AObj → Prop
  | _, [] => True
  | [], q :: qs => (q.live = true → q.own = true) ∧ roOk [] qs
  | p :: ps, q :: qs => (q.live = true → q.own = true ∨ q = p) ∧ roOk ps qs
theorem roOk_spec : ∀ {H H' : List AObj}, roOk H H' → ∀ i, (listH H' i).live = true → (listH H' i).own = false → listH H' i = listH H i
  | _, [], _, i, hl, _ => by simp [listH, AObj.live] at hl
  | [], q :: qs, h, 0, hl, ho => by
    simp only [roOk] at h
    simp [listH] at hl ho
    rw [h.1 hl] at ho; cases ho
  | [], q :: qs, h, i + 1, hl, ho => by
    simp only [roOk] at h
    have := roOk_spec h.2 i (by simpa [listH] using hl) (by simpa [listH] using ho)
    simpa [listH] using this
  | p :: ps, q :: qs, h, 0, hl, ho => by
    simp only [roOk] at h
    simp [listH] at hl ho ⊢
    rcases h.1 hl with h | h
    · rw [h] at ho; cases ho
    · exact h
  | p :: ps, q :: qs, h, i + 1, hl, ho => by
    simp only [roOk] at h
    have := roOk_spec h.2 i (by simpa [listH] using hl) (by simpa [listH] using ho)
    simpa [listH] using this

def Ret (nn : NN) (rs : List (Nat × Option (Bool × Nat))) (H : List AObj) (R : AV → List AObj → Prop) (x : St) : Prop :=
  ∃ ρ v H' c vs, R v H' ∧ resAll x.s rs = some (c, vs) ∧ c ∧ leA (tupOf vs) (ren ρ v) ∧ Emb nn ρ ⟨⟨fun _ => .any, listH H'⟩, H'.length⟩ x ∧ H.length ≤ H'.length ∧ roOk H H'
def RetPost (nn : NN) (rs : List (Nat × Option (Bool × Nat))) (H : List AObj) (R : AV → List AObj → Prop) : Exit → St → Prop
  | .normal, x => Ret nn rs H R x
  | .ret, x => Ret nn rs H R x
  | _, _ => False
def resS (tmps : Array Value) (r : ResultVar) : Sem Value :=
  match r with
  | .tmp t => pure (tmps.getD t undef)
  | .cell a t => do loadVar t (← asAddr (tmps.getD a undef))
theorem resAll_ok {B : BM} {s : S} {a : Act} {w : World} (ht : ∀ j, VR B (s.t j) (a.tmps.getD j undef)) (hr : HR B s.h w) : ∀ {rs : List ResultVar} {cs : List (Nat × Option (Bool × Nat))}, rs.mapM (resC P) = some cs → ∀ {c : Prop} {vs : List AV}, resAll s cs = some (c, vs) → c →
    ∃ vals : List Value, (rs.mapM (resS a.tmps)).run P w = .ok vals w ∧ VRs B vs vals := by
  intro rs
  induction rs with
  | nil => intro cs h c vs h' _; simp at h; subst h; simp only [resAll, Option.some.injEq, Prod.mk.injEq] at h'; obtain ⟨_, rfl⟩ := h'; exact ⟨[], by simp, by simp [VRs]⟩
  | cons r rs ih =>
    intro cs h c vs h' hc
    rw [List.mapM_cons] at h
    cases hr0 : resC P r with
    | none => rw [hr0] at h; simp at h
    | some q =>
      cases hm : rs.mapM (resC P) with
      | none => rw [hr0, hm] at h; simp at h
      | some cs' =>
        rw [hr0, hm] at h
        simp at h
        subst h
        simp only [resAll] at h'
        split at h'
        · rename_i y z h1 h2
          cases h'
          obtain ⟨vals, e1, e2⟩ := ih hm h2 hc.2
          have one : ∃ v, (resS a.tmps r).run P w = .ok v w ∧ VR B y.2 v := by
            cases r with
            | tmp t =>
              simp only [resC, Option.some.injEq] at hr0
              subst hr0
              simp only [resOne, Option.some.injEq] at h1
              subst h1
              exact ⟨_, rfl, ht t⟩
            | cell ad t =>
              simp only [resC] at hr0
              cases hl : lay P t with
              | none => rw [hl] at hr0; cases hr0
              | some l =>
                rw [hl] at hr0
                simp only [Option.map_some, Option.some.injEq] at hr0
                subst hr0
                simp only [resOne] at h1
                split at h1
                · rename_i i off he
                  have hv := ht ad
                  rw [he] at hv
                  obtain ⟨v, k1, k2⟩ := load_ok (P := P) hl (hr.obj i) hv h1 hc.1
                  simp only [VR] at hv
                  obtain ⟨b, n, hb, hv⟩ := hv
                  refine ⟨v, ?_, k2⟩
                  rw [hv] at k1
                  unfold resS
                  simp only [hv]
                  simpa [Instr.loadAt, Instr.sureAddr, asAddr] using k1
                · cases h1
          obtain ⟨v, k1, k2⟩ := one
          refine ⟨v :: vals, ?_, by simp only [VRs]; exact ⟨v, vals, rfl, k2, e2⟩⟩
          rw [List.mapM_cons]
          simp only [Sem.run_bind, k1, Result.andThen_ok, e1, Sem.run_pure]
        · cases h'

theorem ACall.intro {g : FuncId} {fn : Func} {c : Code} {args : List AV} {H : List AObj} {R : AV → List AObj → Prop} {rs : List (Nat × Option (Bool × Nat))} (hf : P.funcs[g]? = some fn) (hb : fn.body = some c) (hen : entersB P g = true)
    (hrs : fn.results.toList.mapM (resC P) = some rs) (hN : args.length ≤ fn.ntmps)
    (h : AWp P fn.ntmps (NN.plain H.length) c (RetPost (NN.plain H.length) rs H R) ⟨⟨fun i => args.getD i (.val undef), listH H⟩, H.length⟩) : ACall P g args H R := by
  refine ⟨false, fun _ => hen, fun B w ra hargs hr hfr => ?_⟩
  refine calls_of_wp hf hb ?_
  let C : Ctx := { w0 := w, mine := Mine B (listH H) w, new := fun b hb => .inl hb, n := H.length, B0 := B }
  have hal := hargs.length
  have hsz : ra.size = args.length := by simpa using hal
  have start : Sms C fn.ntmps B ⟨⟨fun i => args.getD i (.val undef), listH H⟩, H.length⟩ { tmps := ra ++ Array.replicate (fn.ntmps - ra.size) undef, defers := [] } w := by
    refine ⟨⟨?_, rfl, fun j => ?_, hr, fun i b n hi hb => .inr ⟨i, n, hi, hb⟩, Kept.refl _ _, fun k _ => rfl, fun _ _ h => h, fun _ _ h => .inl h⟩, hfr, Nat.le_refl _⟩
    · simp; omega
    · simp only [Array.getD_eq_getD_getElem?, List.getD_eq_getElem?_getD]
      rw [Array.getElem?_append]
      rcases Nat.lt_or_ge j args.length with hj | hj
      · obtain ⟨r, h1, h2⟩ := hargs.get j (List.getElem?_eq_getElem hj)
        rw [if_pos (by omega), List.getElem?_eq_getElem hj]
        have : ra[j]? = some r := by simpa using h1
        rw [this]
        exact h2
      · rw [if_neg (by omega), List.getElem?_eq_none hj]
        simp only [Option.getD_none]
        rw [Array.getElem?_replicate]
        split <;> simp [VR]
  refine wp_mono (h C B _ w ⟨rfl, trivial⟩ start) ?_
  rintro e a' w' ⟨B', x', hq, hs'⟩
  have fin : Ret (NN.plain H.length) rs H R x' → a'.defers = [] ∧ ∃ v, (results fn a'.tmps).run P w' = .ok v w' ∧
      (fun e w' => ∃ v H' rv B', e = Ending.returned rv ∧ R v H' ∧ H.length ≤ H'.length ∧ (∀ i, i < H.length → B' i = B i) ∧ VR B' v rv ∧ HR B' (listH H') w' ∧ (∀ i, H'.length ≤ i → B' i = none) ∧
      Kept (Mine B (listH H) w) w w' ∧ (∀ i b n, (listH H' i).own = true → B' i = some (b, n) → Mine B (listH H) w b) ∧ ((∀ b a, B.z b = some a → B'.z b = some a) ∧ ∀ b a, B'.z b = some a → B.z b = some a ∨ Mine B (listH H) w b) ∧
      (∀ i, (listH H' i).live = true → (listH H' i).own = false → listH H' i = listH H i)) (.returned v) w' := by
    rintro ⟨ρ, v, H', cc, vs, hR, hres, hcc, htup, hemb, hlen, hro⟩
    obtain ⟨vals, k1, k2⟩ := resAll_ok (P := P) hs'.sim.t hs'.sim.hr hrs hres hcc
    have hs2 := hemb.sms ⟨rfl, trivial⟩ hs'
    have hres2 : (results fn a'.tmps).run P w' = .ok (if h : vals.toArray.size = 1 then vals.toArray[0] else .tuple vals.toArray) w' := by
      have : (fn.results.mapM (resS a'.tmps)).run P w' = .ok vals.toArray w' := by
        rw [Array.mapM_eq_mapM_toList, Sem.run_map, k1]
        rfl
      unfold results
      rw [Sem.run_bind]
      show ((fn.results.mapM (resS a'.tmps)).run P w').andThen _ = _
      rw [this]
      rfl
    refine ⟨hs'.sim.dfr, _, hres2, v, H', _, under ρ B', rfl, hR, hlen, fun i hi => ?_, ?_, hs2.sim.hr, fun i hi => hs2.fr i hi, hs'.sim.kept, fun i b n hi hb => hs2.sim.mine i b n hi hb, ⟨hs2.sim.ancz, hs2.sim.zmine⟩, fun i hl ho => roOk_spec hro i hl ho⟩
    · exact hs2.sim.anc i hi
    · refine (VR_ren ρ B' v _).1 (leA_ok _ htup ?_)
      have hl := k2.length
      cases vs with
      | nil =>
        simp only [VRs] at k2
        subst k2
        simp [tupOf, VR, VRs]
      | cons y vs =>
        cases vs with
        | nil =>
          simp only [VRs] at k2
          obtain ⟨r, rest, rfl, h1, rfl⟩ := k2
          simpa [tupOf] using h1
        | cons z vs =>
          simp only [List.length_cons] at hl
          simp only [tupOf]
          rw [dif_neg (by simp; omega)]
          simp only [VR]
          exact ⟨_, rfl, by simpa using k2⟩
  cases e with
  | normal => exact fin hq
  | ret => exact fin hq
  | _ => exact hq.elim
end
end Go.Am
/- Own theory, no program in sight: states as lists; running. -/
namespace Go.Am
open Go Go.RowKit
set_option linter.unusedVariables false
set_option linter.unusedSimpArgs false

/-- Slots: those of a list, the others by a base. -/
def fT : List (Nat × AV) → (Nat → AV) → Nat → AV
  | [], b, n => b n
  | (k, v) :: l, b, n => match Nat.beq k n with | true => v | false => fT l b n
def fH : List (Nat × AObj) → (Nat → AObj) → Nat → AObj
  | [], b, n => b n
  | (k, v) :: l, b, n => match Nat.beq k n with | true => v | false => fH l b n
def args0 (l : List AV) (i : Nat) : AV := l.getD i (.val undef)
def none0 (_ : Nat) : AV := .any
def gone0 (_ : Nat) : AObj := .gone
def mk (T : List (Nat × AV)) (b : Nat → AV) (H : List (Nat × AObj)) (hb : Nat → AObj) (n : Nat) : St := ⟨⟨fT T b, fH H hb⟩, n⟩
def dput (d : Option Nat) (v : AV) (T : List (Nat × AV)) : List (Nat × AV) :=
  match d with
  | some d => (d, v) :: T
  | none => T
theorem put_fT (T : List (Nat × AV)) (b : Nat → AV) (d : Option Nat) (v : AV) : put (fT T b) d v = fT (dput d v T) b := by
  cases d with
  | none => rfl
  | some d =>
    funext j
    simp only [put, dput, fT]
    cases h : Nat.beq d j with
    | true => have := Nat.eq_of_beq_eq_true h; simp [this]
    | false => have := Nat.ne_of_beq_eq_false h; simp [Ne.symm this]
theorem updH_fH (H : List (Nat × AObj)) (hb : Nat → AObj) : ∀ ups : List (Nat × AObj), updH (fH H hb) ups = fH (ups ++ H) hb
  | [] => rfl
  | p :: l => by
    funext j
    simp only [updH, updH_fH H hb l, upd, List.cons_append, fH]
    cases h : Nat.beq p.1 j with
    | true => have := Nat.eq_of_beq_eq_true h; simp [this]
    | false => have := Nat.ne_of_beq_eq_false h; simp [Ne.symm this]

def okU (R : List (Nat × AObj)) : List (Nat × AObj) → Prop
  | [] => True
  | p :: l => (match findH R p.1 with | .gone => True | o => o = p.2) ∧ okU R l
def notIn (u : Nat) : List Nat → Prop
  | [] => True
  | i :: l => match Nat.beq u i with | true => False | false => notIn u l
def noneIn : List Nat → List Nat → Prop
  | [], _ => True
  | u :: us, l => notIn u l ∧ noneIn us l
theorem notIn_iff {u : Nat} : ∀ {l : List Nat}, notIn u l → u ∉ l
  | [], _ => by simp
  | i :: l, h => by
    simp only [notIn] at h
    split at h
    · exact h.elim
    · rename_i e
      simp only [List.mem_cons, not_or]
      exact ⟨Nat.ne_of_beq_eq_false e, notIn_iff h⟩
theorem noneIn_iff : ∀ {us l : List Nat}, noneIn us l → ∀ u ∈ us, u ∉ l
  | [], _, _, u, hu => by simp at hu
  | u :: us, l, h, v, hv => by
    simp only [noneIn] at h
    rcases List.mem_cons.1 hv with rfl | hv
    · exact notIn_iff h.1
    · exact noneIn_iff h.2 v hv
theorem okU_ok {md : Md} {h : Nat → AObj} (hk : md.ok h) : ∀ {ups : List (Nat × AObj)}, okU md.R ups → md.ok (updH h ups)
  | [], _ => hk
  | p :: l, ho => by
    simp only [okU] at ho
    have ih := okU_ok hk ho.2
    intro hd j hl
    simp only [updH]
    by_cases e : j = p.1
    · subst e
      rw [upd_same]
      have := ho.1
      cases hf : findH md.R p.1 with
      | gone => rw [hf] at hl; cases hl
      | cells ro cs => rw [hf] at this; exact this.symm
      | map ro es => rw [hf] at this; exact this.symm
    · rw [upd_ne _ _ e]; exact ih hd j hl

/-- One step, if the operation is no call. -/
def stepL (md : Md) (b : Nat → AV) (hb : Nat → AObj) (i : Nat) (o : AOper) (T : List (Nat × AV)) (H : List (Nat × AObj)) : Option (Prop × AV × List (Nat × AObj)) :=
  match isEff o.op || hasB md.E i with
  | false => simple md i o.op (o.xs.map (evO (fT T b))) (fH H hb)
  | true => match effD o.op (md.id i) (o.xs.map (evO (fT T b))) ((eids o.op (o.xs.map (evO (fT T b)))).map (fH H hb)) with
    | none => none
    | some r => match md.draw with
      | false => some r
      | true => some (r.1 ∧ okU md.R r.2.2 ∧ noneIn (md.U i) (eids o.op (o.xs.map (evO (fT T b)))) ∧ noneIn (md.U i) (r.2.2.map (·.1)), r.2)

inductive Stop where
  | done
  | call (i : Nat) (dst : Option Nat) (g : FuncId) (xs : List AV) (rest : List (Nat × AOper))
  | at_ (l : List (Nat × AOper))

def stopAt (b : Nat → AV) (T : List (Nat × AV)) (i : Nat) (o : AOper) (l : List (Nat × AOper)) : Stop :=
  match o.op with
  | .call g => .call i o.dst g (o.xs.map (evO (fT T b))) l
  | .callv => match o.xs.map (evO (fT T b)) with
    | .fn g first cap :: args => .call i o.dst g (first ++ args ++ cap) l
    | _ => .at_ ((i, o) :: l)
  | _ => .at_ ((i, o) :: l)
def runL (md : Md) (b : Nat → AV) (hb : Nat → AObj) : List (Nat × AOper) → List (Nat × AV) → List (Nat × AObj) → Prop → Prop × List (Nat × AV) × List (Nat × AObj) × Stop
  | [], T, H, C => (C, T, H, .done)
  | (i, o) :: l, T, H, C => match wants o.guard (fT T b) with
    | none => (C, T, H, .at_ ((i, o) :: l))
    | some false => runL md b hb l (dput o.dst (.val undef) T) H C
    | some true => match stepL md b hb i o T H with
      | some r => runL md b hb l (dput o.dst r.2.1 T) (r.2.2 ++ H) (C ∧ r.1)
      | none => (C, T, H, stopAt b T i o l)

abbrev RunRes := Prop × List (Nat × AV) × List (Nat × AObj) × Stop
def contL (md : Md) (b : Nat → AV) (hb : Nat → AObj) (r : Option (Prop × AV × List (Nat × AObj))) (i : Nat) (o : AOper) (l : List (Nat × AOper)) (T : List (Nat × AV)) (H : List (Nat × AObj)) (C : Prop) : RunRes :=
  match r with
  | some r => runL md b hb l (dput o.dst r.2.1 T) (r.2.2 ++ H) (C ∧ r.1)
  | none => (C, T, H, stopAt b T i o l)
def gateL (md : Md) (b : Nat → AV) (hb : Nat → AObj) (g : Option Bool) (i : Nat) (o : AOper) (l : List (Nat × AOper)) (T : List (Nat × AV)) (H : List (Nat × AObj)) (C : Prop) : RunRes :=
  match g with
  | none => (C, T, H, .at_ ((i, o) :: l))
  | some false => runL md b hb l (dput o.dst (.val undef) T) H C
  | some true => contL md b hb (stepL md b hb i o T H) i o l T H C
theorem runL_nil (md : Md) (b : Nat → AV) (hb : Nat → AObj) (T : List (Nat × AV)) (H : List (Nat × AObj)) (C : Prop) : runL md b hb [] T H C = (C, T, H, .done) := rfl
theorem runL_cons (md : Md) (b : Nat → AV) (hb : Nat → AObj) (i : Nat) (o : AOper) (l : List (Nat × AOper)) (T : List (Nat × AV)) (H : List (Nat × AObj)) (C : Prop) : runL md b hb ((i, o) :: l) T H C = gateL md b hb (wants o.guard (fT T b)) i o l T H C := by
  simp only [runL, gateL, contL]
theorem gateL_none (md : Md) (b : Nat → AV) (hb : Nat → AObj) (i : Nat) (o : AOper) (l : List (Nat × AOper)) (T : List (Nat × AV)) (H : List (Nat × AObj)) (C : Prop) : gateL md b hb none i o l T H C = (C, T, H, .at_ ((i, o) :: l)) := rfl
theorem gateL_false (md : Md) (b : Nat → AV) (hb : Nat → AObj) (i : Nat) (o : AOper) (l : List (Nat × AOper)) (T : List (Nat × AV)) (H : List (Nat × AObj)) (C : Prop) : gateL md b hb (some false) i o l T H C = runL md b hb l (dput o.dst (.val undef) T) H C := rfl
theorem gateL_true (md : Md) (b : Nat → AV) (hb : Nat → AObj) (i : Nat) (o : AOper) (l : List (Nat × AOper)) (T : List (Nat × AV)) (H : List (Nat × AObj)) (C : Prop) : gateL md b hb (some true) i o l T H C = contL md b hb (stepL md b hb i o T H) i o l T H C := rfl
theorem contL_some (md : Md) (b : Nat → AV) (hb : Nat → AObj) (r : Prop × AV × List (Nat × AObj)) (i : Nat) (o : AOper) (l : List (Nat × AOper)) (T : List (Nat × AV)) (H : List (Nat × AObj)) (C : Prop) : contL md b hb (some r) i o l T H C = runL md b hb l (dput o.dst r.2.1 T) (r.2.2 ++ H) (C ∧ r.1) := rfl
theorem contL_none (md : Md) (b : Nat → AV) (hb : Nat → AObj) (i : Nat) (o : AOper) (l : List (Nat × AOper)) (T : List (Nat × AV)) (H : List (Nat × AObj)) (C : Prop) : contL md b hb none i o l T H C = (C, T, H, stopAt b T i o l) := rfl
theorem usOf_nil (base k : Nat) (L : List (Nat × Nat)) : usOf base L [] k = [] := rfl
theorem usOf_cons (base j i : Nat) (L : List (Nat × Nat)) (l : List (Nat × Nat)) (k : Nat) : usOf base L ((j, i) :: l) k = match Nat.beq j k with
    | false => usOf base L l k
    | true => match Nat.ble 100000 i with
      | false => (base + 16 * i) :: usOf base L l k
      | true => match lOf L (i - 100000) with
        | some u => u :: usOf base L l k
        | none => usOf base L l k := rfl
theorem beq_tt : (true == true) = true := rfl
theorem beq_tf : (true == false) = false := rfl
theorem beq_ft : (false == true) = false := rfl
theorem beq_ff : (false == false) = true := rfl

section
variable {P : Program} {N : Nat} {nn : NN} {Q : Exit → St → Prop}

/-- A call, its arguments at hand. -/
def CallG (P : Program) (md : Md) (b : Nat → AV) (hb : Nat → AObj) (K : St → Prop) (n' : Nat) (i : Nat) (dst : Option Nat) (g : FuncId) (xs : List AV) (rest : List (Nat × AOper)) (T : List (Nat × AV)) (H : List (Nat × AObj)) : Prop :=
  ∃ ids out, CallSpec P g xs (md.id i) ids (ids.map (fH H hb)) out ∧ (md.draw = true → noneIn (md.U i) ids) ∧ (md.draw = true → ∃ v ups, out v ups) ∧
    ∀ v ups, out v ups → (md.draw = true → noneIn (md.U i) (ups.map (·.1)) ∧ okU md.R ups) ∧ runP P md rest (fun s => K ⟨s, n'⟩) ⟨fT (dput dst v T) b, fH (ups ++ H) hb⟩
def RunAt (P : Program) (md : Md) (b : Nat → AV) (hb : Nat → AObj) (K : St → Prop) (n' : Nat) (l : List (Nat × AOper)) (T : List (Nat × AV)) (H : List (Nat × AObj)) : Prop :=
  runP P md l (fun s => K ⟨s, n'⟩) ⟨fT T b, fH H hb⟩
def After (P : Program) (md : Md) (b : Nat → AV) (hb : Nat → AObj) (K : St → Prop) (n' : Nat) (T : List (Nat × AV)) (H : List (Nat × AObj)) : Stop → Prop
  | .done => K (mk T b H hb n')
  | .call i dst g xs rest => CallG P md b hb K n' i dst g xs rest T H
  | .at_ l => RunAt P md b hb K n' l T H

/-- The conditions, and what comes behind the run. -/
def Runs (P : Program) (md : Md) (b : Nat → AV) (hb : Nat → AObj) (K : St → Prop) (n' : Nat) (r : RunRes) : Prop := r.1 ∧ After P md b hb K n' r.2.1 r.2.2.1 r.2.2.2
theorem Runs.out (P : Program) (md : Md) (b : Nat → AV) (hb : Nat → AObj) (K : St → Prop) (n' : Nat) (C : Prop) (T : List (Nat × AV)) (H : List (Nat × AObj)) (s : Stop) : Runs P md b hb K n' (C, T, H, s) = (C ∧ After P md b hb K n' T H s) := rfl
/-- A guard that nobody knows. -/
theorem Runs.part {md : Md} {b : Nat → AV} {hb : Nat → AObj} {K : St → Prop} {n' : Nat} {g w : Bool} {i : Nat} {o : AOper} {l : List (Nat × AOper)} {T : List (Nat × AV)} {H : List (Nat × AObj)} {C : Prop}
    (ht : g = true → Runs P md b hb K n' (gateL md b hb (some (true == w)) i o l T H C)) (hf : g = false → Runs P md b hb K n' (gateL md b hb (some (false == w)) i o l T H C)) : Runs P md b hb K n' (gateL md b hb (some (g == w)) i o l T H C) := by
  cases g with
  | true => exact ht rfl
  | false => exact hf rfl
theorem Runs.kt {md : Md} {b : Nat → AV} {hb : Nat → AObj} {K : St → Prop} {n' : Nat} {g w : Bool} {i : Nat} {o : AOper} {l : List (Nat × AOper)} {T : List (Nat × AV)} {H : List (Nat × AObj)} {C : Prop} (hg : g = true)
    (h : g = true → Runs P md b hb K n' (gateL md b hb (some (true == w)) i o l T H C)) : Runs P md b hb K n' (gateL md b hb (some (g == w)) i o l T H C) := by
  have e : g = true := by simp [hg]
  have h := h e
  rw [← e] at h
  exact h
theorem Runs.kf {md : Md} {b : Nat → AV} {hb : Nat → AObj} {K : St → Prop} {n' : Nat} {g w : Bool} {i : Nat} {o : AOper} {l : List (Nat × AOper)} {T : List (Nat × AV)} {H : List (Nat × AObj)} {C : Prop} (hg : g = false)
    (h : g = false → Runs P md b hb K n' (gateL md b hb (some (false == w)) i o l T H C)) : Runs P md b hb K n' (gateL md b hb (some (g == w)) i o l T H C) := by
  have e : g = false := by simp [hg]
  have h := h e
  rw [← e] at h
  exact h
theorem Runs.nt {md : Md} {b : Nat → AV} {hb : Nat → AObj} {K : St → Prop} {n' : Nat} {g w : Bool} {i : Nat} {o : AOper} {l : List (Nat × AOper)} {T : List (Nat × AV)} {H : List (Nat × AObj)} {C : Prop} (hg : g = false)
    (h : (!g) = true → Runs P md b hb K n' (gateL md b hb (some (true == w)) i o l T H C)) : Runs P md b hb K n' (gateL md b hb (some ((!g) == w)) i o l T H C) := by
  have e : (!g) = true := by simp [hg]
  have h := h e
  rw [← e] at h
  exact h
theorem Runs.nf {md : Md} {b : Nat → AV} {hb : Nat → AObj} {K : St → Prop} {n' : Nat} {g w : Bool} {i : Nat} {o : AOper} {l : List (Nat × AOper)} {T : List (Nat × AV)} {H : List (Nat × AObj)} {C : Prop} (hg : g = true)
    (h : (!g) = false → Runs P md b hb K n' (gateL md b hb (some (false == w)) i o l T H C)) : Runs P md b hb K n' (gateL md b hb (some ((!g) == w)) i o l T H C) := by
  have e : (!g) = false := by simp [hg]
  have h := h e
  rw [← e] at h
  exact h
theorem call_step {md : Md} (hF : md.draw = false → md.F = []) {b : Nat → AV} {hb : Nat → AObj} {K : St → Prop} {n' : Nat} {i : Nat} {o : AOper} {g : FuncId} {rest : List (Nat × AOper)} {T : List (Nat × AV)} {H : List (Nat × AObj)}
    (hok : md.ok (fH H hb)) (hw : wants o.guard (fT T b) = some true) (he : isEff o.op = true) {xs : List AV} (hs : ∀ ids out, CallSpec P g xs (md.id i) ids (ids.map (fH H hb)) out → Spec P o.op (md.id i) (o.xs.map (evO (fT T b))) ids (ids.map (fH H hb)) out)
    (h : CallG P md b hb K n' i o.dst g xs rest T H) : Step P md i o (runP P md rest (fun s => K ⟨s, n'⟩)) ⟨fT T b, fH H hb⟩ := by
  have hU : md.draw = false → md.U i = [] := fun hd => by unfold Md.U; rw [hF hd]; rfl
  rw [Step.eff hw (by rw [he]; rfl)]
  obtain ⟨ids, out, h1, h2, h3, h4⟩ := h
  refine ⟨ids, out, hs ids out h1, fun u hu => ?_, h3, fun v ups hv => ⟨fun u hu => ?_, ?_, ?_⟩⟩
  · cases hd : md.draw with
    | true => exact noneIn_iff (h2 hd) u hu
    | false => rw [hU hd] at hu; simp at hu
  · cases hd : md.draw with
    | true => exact noneIn_iff ((h4 v ups hv).1 hd).1 u hu
    | false => rw [hU hd] at hu; simp at hu
  · cases hd : md.draw with
    | true => exact okU_ok hok ((h4 v ups hv).1 hd).2
    | false => intro hd'; rw [hd] at hd'; cases hd'
  · have := (h4 v ups hv).2
    rw [put_fT, updH_fH]
    exact this

theorem run_ok {md : Md} (hF : md.draw = false → md.F = []) (hR : ∀ k, md.base ≤ k → (findH md.R k).live = false) {b : Nat → AV} {hb : Nat → AObj} {K : St → Prop} {n' : Nat} : ∀ (l : List (Nat × AOper)) (T : List (Nat × AV)) (H : List (Nat × AObj)) (C : Prop), md.ok (fH H hb) →
    ((runL md b hb l T H C).1 → C) ∧ ((runL md b hb l T H C).1 → After P md b hb K n' (runL md b hb l T H C).2.1 (runL md b hb l T H C).2.2.1 (runL md b hb l T H C).2.2.2 → runP P md l (fun s => K ⟨s, n'⟩) ⟨fT T b, fH H hb⟩)
  | [], T, H, C, hok => ⟨fun h => h, fun _ h => h⟩
  | (i, o) :: l, T, H, C, hok => by
    have hU : md.draw = false → md.U i = [] := fun hd => by unfold Md.U; rw [hF hd]; rfl
    simp only [runL]
    cases hw : wants o.guard (fT T b) with
    | none => exact ⟨fun h => h, fun _ h => h⟩
    | some w =>
      cases w with
      | false =>
        obtain ⟨h1, h2⟩ := run_ok hF hR l (dput o.dst (.val undef) T) H C hok
        refine ⟨h1, fun hc ha => ?_⟩
        simp only [runP]
        rw [Step.skip hw]
        simp only [put_fT]
        exact h2 hc ha
      | true =>
        simp only
        cases hs : stepL md b hb i o T H with
        | some r =>
          simp only
          obtain ⟨c, v, ups⟩ := r
          have hok' : c → md.ok (fH (ups ++ H) hb) ∧ (runP P md l (fun s => K ⟨s, n'⟩) ⟨fT (dput o.dst v T) b, fH (ups ++ H) hb⟩ → Step P md i o (runP P md l (fun s => K ⟨s, n'⟩)) ⟨fT T b, fH H hb⟩) := by
            intro hc
            unfold stepL at hs
            split at hs
            · rename_i he
              have hok2 : md.ok (fH (ups ++ H) hb) := by
                rw [← updH_fH]
                rcases simple_ups hs with ⟨_, rfl⟩ | ⟨_, o', rfl⟩
                · exact hok
                · exact (ok_upd hR o').2 hok
              refine ⟨hok2, fun hk => ?_⟩
              rw [Step.sim hw he]
              exact ⟨c, v, ups, hs, hc, by rw [put_fT, updH_fH]; exact hk⟩
            · rename_i he
              split at hs
              · cases hs
              · rename_i r hr
                have fin : r.1 → r.2 = (v, ups) → (md.draw = true → okU md.R ups ∧ noneIn (md.U i) (eids o.op (o.xs.map (evO (fT T b)))) ∧ noneIn (md.U i) (ups.map (·.1))) →
                    md.ok (fH (ups ++ H) hb) ∧ (runP P md l (fun s => K ⟨s, n'⟩) ⟨fT (dput o.dst v T) b, fH (ups ++ H) hb⟩ → Step P md i o (runP P md l (fun s => K ⟨s, n'⟩)) ⟨fT T b, fH H hb⟩) := by
                  intro g1 g2 g3
                  obtain ⟨rc, rv, ru⟩ := r
                  cases g2
                  have hok2 : md.ok (updH (fH H hb) ups) := by
                    cases hd : md.draw with
                    | true => exact okU_ok hok (g3 hd).1
                    | false => intro hd'; rw [hd] at hd'; cases hd'
                  refine ⟨by rw [← updH_fH]; exact hok2, fun hk => ?_⟩
                  rw [Step.eff hw he]
                  refine ⟨eids o.op (o.xs.map (evO (fT T b))), fun v' ups' => v' = v ∧ ups' = ups, ?_, fun u hu => ?_, fun _ => ⟨v, ups, rfl, rfl⟩, ?_⟩
                  · unfold Spec
                    split
                    · rename_i g hg; rw [hg] at hr; simp [effD] at hr
                    · rename_i hg; rw [hg] at hr; simp [effD] at hr
                    · exact ⟨rfl, rc, v, ups, hr, g1, rfl, rfl⟩
                  · cases hd : md.draw with
                    | true => exact noneIn_iff (g3 hd).2.1 u hu
                    | false => rw [hU hd] at hu; simp at hu
                  · rintro v' ups' ⟨rfl, rfl⟩
                    refine ⟨fun u hu => ?_, hok2, by rw [put_fT, updH_fH]; exact hk⟩
                    cases hd : md.draw with
                    | true => exact noneIn_iff (g3 hd).2.2 u hu
                    | false => rw [hU hd] at hu; simp at hu
                split at hs
                · rename_i hd
                  cases hs
                  exact fin hc rfl (fun h => by rw [hd] at h; cases h)
                · rename_i hd
                  simp only [Option.some.injEq, Prod.mk.injEq] at hs
                  obtain ⟨rfl, h2⟩ := hs
                  have hru : r.2.2 = ups := by rw [h2]
                  refine fin hc.1 h2 (fun _ => ?_)
                  rw [← hru]
                  exact hc.2
          refine ⟨fun h => ?_, fun h ha => ?_⟩
          · by_cases hc : c
            · exact ((run_ok (K := K) (n' := n') hF hR l (dput o.dst v T) (ups ++ H) (C ∧ c) (hok' hc).1).1 h).1
            · exfalso
              have : ∀ (l : List (Nat × AOper)) (T : List (Nat × AV)) (H : List (Nat × AObj)) (C : Prop), (runL md b hb l T H C).1 → C := by
                intro l
                induction l with
                | nil => intro T H C h; exact h
                | cons p l ih =>
                  intro T H C h
                  obtain ⟨i, o⟩ := p
                  simp only [runL] at h
                  split at h
                  · exact h
                  · exact ih _ _ _ h
                  · split at h
                    · exact (ih _ _ _ h).1
                    · exact h
              exact hc (this _ _ _ _ h).2
          · have hc : c := by
              have : ∀ (l : List (Nat × AOper)) (T : List (Nat × AV)) (H : List (Nat × AObj)) (C : Prop), (runL md b hb l T H C).1 → C := by
                intro l
                induction l with
                | nil => intro T H C h; exact h
                | cons p l ih =>
                  intro T H C h
                  obtain ⟨i, o⟩ := p
                  simp only [runL] at h
                  split at h
                  · exact h
                  · exact ih _ _ _ h
                  · split at h
                    · exact (ih _ _ _ h).1
                    · exact h
              exact (this _ _ _ _ h).2
            exact (hok' hc).2 ((run_ok hF hR l (dput o.dst v T) (ups ++ H) (C ∧ c) (hok' hc).1).2 h ha)
        | none =>
          simp only
          refine ⟨fun h => h, fun _ ha => ?_⟩
          unfold stopAt at ha
          split at ha
          · rename_i g hg
            exact call_step hF hok hw (by rw [hg]; rfl) (fun ids out hh => by unfold Spec; rw [hg]; exact hh) ha
          · rename_i hg
            split at ha
            · rename_i g first cap args hx
              exact call_step hF hok hw (by rw [hg]; rfl) (fun ids out hh => by unfold Spec; rw [hg]; simp only; rw [hx]; exact hh) ha
            · exact ha
          · exact ha

def keepT (b : Nat → AV) (T : List (Nat × AV)) : List Nat → List (Nat × AV)
  | [] => []
  | k :: ks => (k, fT T b k) :: keepT b T ks
theorem keepT_get (b : Nat → AV) (T : List (Nat × AV)) : ∀ (ks : List Nat) (j : Nat), fT (keepT b T ks) none0 j = .any ∨ fT (keepT b T ks) none0 j = fT T b j
  | [], j => .inl rfl
  | k :: ks, j => by
    simp only [keepT, fT]
    cases h : Nat.beq k j with
    | true => have := Nat.eq_of_beq_eq_true h; subst this; exact .inr rfl
    | false => exact keepT_get b T ks j
theorem Sms.forget {C : Ctx} {B : BM} {x x0 : St} {a : Act} {w : World} (hs : Sms C N B x a w) (ht : ∀ j, x0.s.t j = .any ∨ x0.s.t j = x.s.t j) (hh : ∀ i, x0.s.h i = .gone ∨ x0.s.h i = x.s.h i) (hn : x.n ≤ x0.n) : Sms C N B x0 a w := by
  obtain ⟨⟨h1, h2, h3, h4, h5, h6, h7, hza, hzm⟩, h8, h9⟩ := hs
  refine ⟨⟨h1, h2, fun j => ?_, ⟨fun i => ?_, fun i j b n m hij hi hj => ?_, h4.zr.keep rfl (fun _ _ _ => rfl) fun i b n hi hb => ?_⟩, fun i b n hi => ?_, h6, h7, hza, hzm⟩, fun k hk => h8 k (by omega), by omega⟩
  · rcases ht j with h | h
    · rw [h]; simp [VR]
    · rw [h]; exact h3 j
  · rcases hh i with h | h
    · rw [h]; trivial
    · rw [h]; exact h4.obj i
  · rcases hh i with h | h
    · rw [h] at hi; cases hi
    · rcases hh j with k | k
      · rw [k] at hj; cases hj
      · exact h4.apart i j b n m hij (by rw [← h]; exact hi) (by rw [← k]; exact hj)
  · rcases hh i with h | h
    · rw [h] at hi; cases hi
    · exact h4.zr.free i b n (by rw [← h]; exact hi) hb
  · rcases hh i with h | h
    · rw [h] at hi; cases hi
    · exact h5 i b n (by rw [← h]; exact hi)

theorem AWp.forgetPost {c : Code} {x : St} {f : St → St} (hf : ∀ (C : Ctx) B x a w, Sms C N B x a w → Sms C N B (f x) a w) (h : AWp P N nn c (fun e x => match e with | .normal => Q .normal (f x) | e => Q e x) x) : AWp P N nn c Q x := by
  intro C B a w hn hs
  refine wp_mono (h C B a w hn hs) ?_
  rintro e a' w' ⟨B', x', hq, hs'⟩
  cases e with
  | normal => exact ⟨B', f x', hq, hf C B' x' a' w' hs'⟩
  | _ => exact ⟨B', x', hq, hs'⟩
/-- Only some slots are kept. -/
theorem AWp.keep {c : Code} {T : List (Nat × AV)} {b : Nat → AV} {H : List (Nat × AObj)} {hb : Nat → AObj} {n : Nat} (ks : List Nat) (h : AWp P N nn c Q (mk (keepT b T ks) none0 H hb n)) : AWp P N nn c Q (mk T b H hb n) :=
  fun C B a w hn hs => h C B a w hn (hs.forget (keepT_get b T ks) (fun i => .inr rfl) (Nat.le_refl _))
theorem AWp.regionL {id : Nat} {ops : Array Oper} {aops : List AOper} {T : List (Nat × AV)} {b : Nat → AV} {H : List (Nat × AObj)} {hb : Nat → AObj} {n : Nat} {r : Prop × List (Nat × AV) × List (Nat × AObj) × Stop} (hc : compOps P N ops = some aops)
    (hr : runL ⟨false, n, [], [], [], []⟩ b hb (numberA 0 aops) T H True = r)
    (h : Runs P ⟨false, n, [], [], [], []⟩ b hb (Q .normal) (n + 16 * aops.length) r) : AWp P N nn (.region id ops false) Q (mk T b H hb n) := by
  subst hr
  exact AWp.region hc ((run_ok (fun _ => rfl) (fun _ _ => rfl) (numberA 0 aops) T H True (fun h => by cases h)).2 h.1 h.2)
def subR (H : List (Nat × AObj)) (hb : Nat → AObj) : List (Nat × AObj) → Prop
  | [] => True
  | p :: l => fH H hb p.1 = p.2 ∧ subR H hb l
def ltR (n : Nat) : List (Nat × AObj) → Prop
  | [] => True
  | p :: l => p.1 < n ∧ ltR n l
theorem subR_ok {H : List (Nat × AObj)} {hb : Nat → AObj} : ∀ {R : List (Nat × AObj)}, subR H hb R → ∀ j, (findH R j).live = true → fH H hb j = findH R j
  | [], _, j, hl => by simp [findH, AObj.live] at hl
  | p :: l, h, j, hl => by
    simp only [subR] at h
    simp only [findH] at hl ⊢
    cases e : Nat.beq p.1 j with
    | true => have := Nat.eq_of_beq_eq_true e; subst this; exact h.1
    | false => rw [e] at hl; exact subR_ok h.2 j hl
theorem ltR_ok {n : Nat} : ∀ {R : List (Nat × AObj)}, ltR n R → ∀ k, n ≤ k → (findH R k).live = false
  | [], _, k, _ => rfl
  | p :: l, h, k, hk => by
    simp only [ltR] at h
    simp only [findH]
    cases e : Nat.beq p.1 k with
    | true => have := Nat.eq_of_beq_eq_true e
              subst this
              have h1 : p.1 < n := h.1
              omega
    | false => exact ltR_ok h.2 k hk
/-- What a region that draws may read: all that it does not write. -/
def restr (X : List Nat) : List (Nat × AObj) → List (Nat × AObj)
  | [] => []
  | p :: l => match hasB X p.1 with
    | true => restr X l
    | false => p :: restr (p.1 :: X) l
theorem restr_gone : ∀ (l : List (Nat × AObj)) {X : List Nat} {j : Nat}, hasB X j = true → findH (restr X l) j = .gone
  | [], _, _, _ => rfl
  | q :: l, X, j, h => by
    simp only [restr]
    cases hq : hasB X q.1 with
    | true => exact restr_gone l h
    | false =>
      simp only [findH]
      cases e : Nat.beq q.1 j with
      | true => have := Nat.eq_of_beq_eq_true e; rw [this, h] at hq; cases hq
      | false => exact restr_gone l (by simp only [hasB, e, h, cond_false])
theorem restr_ok {hb : Nat → AObj} : ∀ {H : List (Nat × AObj)} {X : List Nat} (j : Nat) (hl : (findH (restr X H) j).live = true), fH H hb j = findH (restr X H) j
  | [], X, j, hl => by simp [restr, findH, AObj.live] at hl
  | p :: l, X, j, hl => by
    simp only [restr] at hl ⊢
    cases hx : hasB X p.1 with
    | true =>
      rw [hx] at hl
      simp only at hl ⊢
      simp only [fH]
      cases e : Nat.beq p.1 j with
      | true =>
        have := Nat.eq_of_beq_eq_true e
        subst this
        rw [restr_gone l hx] at hl
        cases hl
      | false => exact restr_ok j hl
    | false =>
      rw [hx] at hl
      simp only at hl ⊢
      simp only [fH, findH] at hl ⊢
      cases e : Nat.beq p.1 j with
      | true => rfl
      | false => rw [e] at hl; exact restr_ok j hl
/-- The rest of a region that drew: as its text goes. -/
def TailK (P : Program) (n k : Nat) (tl : List AOper) (K : St → Prop) (x : St) : Prop := runP P ⟨false, n, [], [], [], []⟩ (numberA k tl) (fun s => K ⟨s, x.n⟩) x.s
theorem TailK.nil {n k : Nat} {K : St → Prop} {x : St} : TailK P n k [] K x = K x := rfl
theorem TailK.go {n k : Nat} {tl : List AOper} {K : St → Prop} {T : List (Nat × AV)} {b : Nat → AV} {H : List (Nat × AObj)} {hb : Nat → AObj} {n' : Nat} {r : Prop × List (Nat × AV) × List (Nat × AObj) × Stop}
    (hr : runL ⟨false, n, [], [], [], []⟩ b hb (numberA k tl) T H True = r) (h : Runs P ⟨false, n, [], [], [], []⟩ b hb K n' r) : TailK P n k tl K (mk T b H hb n') := by
  subst hr
  exact (run_ok (fun _ => rfl) (fun _ _ => rfl) (numberA k tl) T H True (fun h => by cases h)).2 h.1 h.2
/-- The late reads are told as they may be. -/
def lOkB (base : Nat) (F : List (Nat × Nat)) (aops : List AOper) : List (Nat × Nat) → Bool
  | [] => true
  | (i, u) :: l => hasP F (100000 + i) 0 && (Nat.blt u base || !(isFresh (aops.getD ((u - base) / 16) ⟨none, .other, [], none⟩).op)) && lOkB base F aops l
theorem lOkB_get {base : Nat} {F : List (Nat × Nat)} {aops : List AOper} : ∀ {L : List (Nat × Nat)}, lOkB base F aops L = true → ∀ i u, lOf L i = some u → hasP F (100000 + i) 0 = true ∧ (u < base ∨ isFresh (aops.getD ((u - base) / 16) ⟨none, .other, [], none⟩).op = false)
  | [], _, i, u, h => by cases h
  | (j, v) :: l, h, i, u, hu => by
    simp only [lOkB, Bool.and_eq_true, Bool.or_eq_true, Bool.not_eq_true'] at h
    simp only [lOf] at hu
    cases e : Nat.beq j i with
    | true =>
      rw [e] at hu
      cases hu
      have := Nat.eq_of_beq_eq_true e
      subst this
      exact ⟨h.1.1, h.1.2.imp Nat.blt_eq.mp id⟩
    | false => rw [e] at hu; exact lOkB_get h.2 i u hu
theorem lOkB_ok {base : Nat} {R : List (Nat × AObj)} {E : List Nat} {F : List (Nat × Nat)} {aops : List AOper} {L : List (Nat × Nat)} (h : lOkB base F aops L = true) : LOk ⟨true, base, R, E, F, L⟩ (numberA 0 aops) := by
  refine ⟨fun i u hu => (lOkB_get h i u hu).1, fun i u hu p hp hf he => ?_⟩
  obtain ⟨_, h2⟩ := numberA_get _ _ p hp
  rw [Nat.sub_zero] at h2
  simp only [Md.id] at he
  rcases (lOkB_get h i u hu).2 with h3 | h3
  · omega
  · rw [show (u - base) / 16 = p.1 by omega, List.getD_eq_getElem?_getD, h2] at h3
    simp only [Option.getD_some] at h3
    rw [hf] at h3
    cases h3
theorem AWp.drawX {id : Nat} {ops : Array Oper} {aops tl : List AOper} {T : List (Nat × AV)} {b : Nat → AV} {H : List (Nat × AObj)} {hb : Nat → AObj} {n : Nat} {R : List (Nat × AObj)} {r : Prop × List (Nat × AV) × List (Nat × AObj) × Stop} (X : List Nat) (L : List (Nat × Nat)) (E : List Nat) (F : List (Nat × Nat))
    (hm : P.follows .mixedOrders = true) (hLo : lOkB n F (aops ++ tl) L = true) (hc : compOps P N ops = some (aops ++ tl)) (hB : orderB ops (aops ++ tl) aops.length E F = true) (hRe : restr X H = R) (hl : ltR n R)
    (hr : runL ⟨true, n, R, E, F, L⟩ b hb (numberA 0 aops) T H True = r)
    (h : Runs P ⟨true, n, R, E, F, L⟩ b hb (TailK P n aops.length tl (Q .normal)) (n + 16 * (aops.length + tl.length)) r) : AWp P N nn (.region id ops true) Q (mk T b H hb n) := by
  subst hRe
  subst hr
  exact AWp.draw hm hc _ E F hB restr_ok (ltR_ok hl) (lOkB_ok hLo) ((run_ok (md := ⟨true, n, restr X H, E, F, L⟩) (K := TailK P n aops.length tl (Q .normal)) (fun h => by cases h) (ltR_ok hl) (numberA 0 aops) T H True (fun _ j hj => restr_ok j hj)).2 h.1 h.2)
/-- Behind a call, the run goes on. -/
theorem run_on {md : Md} {b : Nat → AV} {hb : Nat → AObj} {K : St → Prop} {n' : Nat} {l : List (Nat × AOper)} {T : List (Nat × AV)} {H : List (Nat × AObj)} {r : Prop × List (Nat × AV) × List (Nat × AObj) × Stop}
    (hr : runL md b hb l T H True = r) (hF : md.draw = false → md.F = []) (hR : ∀ k, md.base ≤ k → (findH md.R k).live = false) (hok : md.ok (fH H hb)) (h : r.1 ∧ After P md b hb K n' r.2.1 r.2.2.1 r.2.2.2) : runP P md l (fun s => K ⟨s, n'⟩) ⟨fT T b, fH H hb⟩ := by
  subst hr
  exact (run_ok hF hR l T H True hok).2 h.1 h.2

/-- One outcome alone. -/
def Det (v : AV) (H : List AObj) : AV → List AObj → Prop := fun v' H' => v' = v ∧ H' = H
def ltAll : List Nat → Nat → Bool
  | [], _ => true
  | i :: l, n => decide (i < n) && ltAll l n
theorem ltAll_ok : ∀ {l : List Nat} {n : Nat}, ltAll l n = true → ∀ k ∈ l, k < n
  | [], _, _, k, hk => by simp at hk
  | i :: l, n, h, k, hk => by
    simp only [ltAll, Bool.and_eq_true] at h
    rcases List.mem_cons.1 hk with rfl | hk
    · simpa using h.1
    · exact ltAll_ok h.2 k hk
theorem CallG.plain {n : Nat} {b : Nat → AV} {hb : Nat → AObj} {K : St → Prop} {n' : Nat} {i : Nat} {dst : Option Nat} {g : FuncId} {xs : List AV} {rest : List (Nat × AOper)} {T : List (Nat × AV)} {H : List (Nat × AObj)}
    {args : List AV} {Hc H1 : List AObj} {v : AV} {r : Prop × List (Nat × AV) × List (Nat × AObj) × Stop} (ids : List Nat) (hc : ACall P g args Hc (Det v H1)) (hx : leAs xs (renL ids args)) (hm : leOL (asForL Hc (ids.map (fH H hb))) (renOL ids Hc)) (hl : ids.length = Hc.length) (ha : aloneB ids Hc = true)
    (hn : H1.length ≤ Hc.length + 16 ∧ ltAll ids (n + 16 * i) = true)
    (hr : runL ⟨false, n, [], [], [], []⟩ b hb rest (dput dst (ren (ids ++ newIds (n + 16 * i) (H1.length - Hc.length)) v) T) (upsOf ids (n + 16 * i) Hc H1 ++ H) True = r)
    (h : Runs P ⟨false, n, [], [], [], []⟩ b hb K n' r) : CallG P ⟨false, n, [], [], [], []⟩ b hb K n' i dst g xs rest T H := by
  refine ⟨ids, fun v' ups' => v' = ren (ids ++ newIds (n + 16 * i) (H1.length - Hc.length)) v ∧ ups' = upsOf ids (n + 16 * i) Hc H1, ⟨args, Hc, Det v H1, hc, hx, hl, hm, ha, ltAll_ok hn.2, fun v' H' hd => by rw [hd.2]; exact hn.1, fun v' H' hd _ => by rw [hd.1, hd.2]; exact ⟨rfl, rfl⟩⟩, fun h => (by cases h), fun h => (by cases h), ?_⟩
  rintro v' ups' ⟨rfl, rfl⟩
  refine ⟨fun h => (by cases h), ?_⟩
  exact run_on hr (fun _ => rfl) (fun _ _ => rfl) (fun h => by cases h) h
theorem CallG.draw {n : Nat} {R : List (Nat × AObj)} {E : List Nat} {F : List (Nat × Nat)} {L : List (Nat × Nat)} {b : Nat → AV} {hb : Nat → AObj} {K : St → Prop} {n' : Nat} {i : Nat} {dst : Option Nat} {g : FuncId} {xs : List AV} {rest : List (Nat × AOper)} {T : List (Nat × AV)} {H : List (Nat × AObj)}
    {args : List AV} {Hc H1 : List AObj} {v : AV} {r : Prop × List (Nat × AV) × List (Nat × AObj) × Stop} (ids : List Nat) (hc : ACall P g args Hc (Det v H1)) (hx : leAs xs (renL ids args)) (hm : leOL (asForL Hc (ids.map (fH H hb))) (renOL ids Hc)) (hl : ids.length = Hc.length) (ha : aloneB ids Hc = true)
    (hn : H1.length ≤ Hc.length + 16 ∧ ltAll ids (n + 16 * i) = true) (hU : noneIn (usOf n L F i) ids ∧ noneIn (usOf n L F i) ((upsOf ids (n + 16 * i) Hc H1).map (·.1)) ∧ okU R (upsOf ids (n + 16 * i) Hc H1)) (hlt : ltR n R) (hsub : subR (upsOf ids (n + 16 * i) Hc H1 ++ H) hb R)
    (hr : runL ⟨true, n, R, E, F, L⟩ b hb rest (dput dst (ren (ids ++ newIds (n + 16 * i) (H1.length - Hc.length)) v) T) (upsOf ids (n + 16 * i) Hc H1 ++ H) True = r)
    (h : Runs P ⟨true, n, R, E, F, L⟩ b hb K n' r) : CallG P ⟨true, n, R, E, F, L⟩ b hb K n' i dst g xs rest T H := by
  refine ⟨ids, fun v' ups' => v' = ren (ids ++ newIds (n + 16 * i) (H1.length - Hc.length)) v ∧ ups' = upsOf ids (n + 16 * i) Hc H1, ⟨args, Hc, Det v H1, hc, hx, hl, hm, ha, ltAll_ok hn.2, fun v' H' hd => by rw [hd.2]; exact hn.1, fun v' H' hd _ => by rw [hd.1, hd.2]; exact ⟨rfl, rfl⟩⟩, fun _ => hU.1, fun _ => ⟨_, _, rfl, rfl⟩, ?_⟩
  rintro v' ups' ⟨rfl, rfl⟩
  refine ⟨fun _ => hU.2, ?_⟩
  exact run_on hr (fun h => by cases h) (ltR_ok hlt) (fun _ j hj => subR_ok hsub j hj) h

/-- All side conditions in one. -/
theorem CallG.plain1 {n : Nat} {b : Nat → AV} {hb : Nat → AObj} {K : St → Prop} {n' : Nat} {i : Nat} {dst : Option Nat} {g : FuncId} {xs : List AV} {rest : List (Nat × AOper)} {T : List (Nat × AV)} {H : List (Nat × AObj)}
    {args : List AV} {Hc H1 : List AObj} {v : AV} {r : Prop × List (Nat × AV) × List (Nat × AObj) × Stop} (ids : List Nat) (hc : ACall P g args Hc (Det v H1))
    (hs : leAs xs (renL ids args) ∧ leOL (asForL Hc (ids.map (fH H hb))) (renOL ids Hc) ∧ ids.length = Hc.length ∧ aloneB ids Hc = true ∧ H1.length ≤ Hc.length + 16 ∧ ltAll ids (n + 16 * i) = true)
    (hr : runL ⟨false, n, [], [], [], []⟩ b hb rest (dput dst (ren (ids ++ newIds (n + 16 * i) (H1.length - Hc.length)) v) T) (upsOf ids (n + 16 * i) Hc H1 ++ H) True = r)
    (h : Runs P ⟨false, n, [], [], [], []⟩ b hb K n' r) : CallG P ⟨false, n, [], [], [], []⟩ b hb K n' i dst g xs rest T H :=
  CallG.plain ids hc hs.1 hs.2.1 hs.2.2.1 hs.2.2.2.1 hs.2.2.2.2 hr h
theorem CallG.draw1 {n : Nat} {R : List (Nat × AObj)} {E : List Nat} {F : List (Nat × Nat)} {L : List (Nat × Nat)} {b : Nat → AV} {hb : Nat → AObj} {K : St → Prop} {n' : Nat} {i : Nat} {dst : Option Nat} {g : FuncId} {xs : List AV} {rest : List (Nat × AOper)} {T : List (Nat × AV)} {H : List (Nat × AObj)}
    {args : List AV} {Hc H1 : List AObj} {v : AV} {r : Prop × List (Nat × AV) × List (Nat × AObj) × Stop} (ids : List Nat) (hc : ACall P g args Hc (Det v H1))
    (hs : leAs xs (renL ids args) ∧ leOL (asForL Hc (ids.map (fH H hb))) (renOL ids Hc) ∧ ids.length = Hc.length ∧ aloneB ids Hc = true ∧ H1.length ≤ Hc.length + 16 ∧ ltAll ids (n + 16 * i) = true ∧
      noneIn (usOf n L F i) ids ∧ noneIn (usOf n L F i) ((upsOf ids (n + 16 * i) Hc H1).map (·.1)) ∧ okU R (upsOf ids (n + 16 * i) Hc H1) ∧ ltR n R ∧ subR (upsOf ids (n + 16 * i) Hc H1 ++ H) hb R)
    (hr : runL ⟨true, n, R, E, F, L⟩ b hb rest (dput dst (ren (ids ++ newIds (n + 16 * i) (H1.length - Hc.length)) v) T) (upsOf ids (n + 16 * i) Hc H1 ++ H) True = r)
    (h : Runs P ⟨true, n, R, E, F, L⟩ b hb K n' r) : CallG P ⟨true, n, R, E, F, L⟩ b hb K n' i dst g xs rest T H := by
  obtain ⟨h1, h2, h3, h4, h5, h6, h7, h8, h9, h10, h11⟩ := hs
  exact CallG.draw ids hc h1 h2 h3 h4 ⟨h5, h6⟩ ⟨h7, h8, h9⟩ h10 h11 hr h
/-- The end, one outcome. -/
def zipI : Nat → List AObj → List (Nat × AObj)
  | _, [] => []
  | i, o :: l => (i, o) :: zipI (i + 1) l
def sameR (ρ : List Nat) (H : List (Nat × AObj)) (hb : Nat → AObj) : List Nat → List AObj → Prop
  | _, [] => True
  | [], _ :: _ => False
  | j :: js, q :: qs => (q = .gone ∨ leO (fH H hb j) (renO ρ q)) ∧ sameR ρ H hb js qs
theorem sameR_spec {ρ : List Nat} {H : List (Nat × AObj)} {hb : Nat → AObj} : ∀ {js : List Nat} {qs : List AObj}, sameR ρ H hb js qs → ∀ i, listH qs i = .gone ∨ ∃ j, js[i]? = some j ∧ leO (fH H hb j) (renO ρ (listH qs i))
  | _, [], _, i => .inl (by simp [listH])
  | [], _ :: _, h, _ => h.elim
  | j :: js, q :: qs, h, 0 => by
    simp only [sameR] at h
    rcases h.1 with h | h
    · exact .inl (by simp [listH, h])
    · exact .inr ⟨j, rfl, by simpa [listH] using h⟩
  | j :: js, q :: qs, h, i + 1 => by
    simp only [sameR] at h
    rcases sameR_spec h.2 i with h | ⟨k, h1, h2⟩
    · exact .inl (by simpa [listH] using h)
    · exact .inr ⟨k, by simpa using h1, by simpa [listH] using h2⟩
def ancB (ρ : List Nat) : Nat → Bool
  | 0 => true
  | n + 1 => (match ρ[n]? with | some k => Nat.beq k n | none => false) && ancB ρ n
theorem ancB_spec {ρ : List Nat} : ∀ {n : Nat}, ancB ρ n = true → ∀ k, k < n → ρ[k]? = some k
  | 0, _, k, hk => by omega
  | n + 1, h, k, hk => by
    simp only [ancB, Bool.and_eq_true] at h
    rcases Nat.lt_or_eq_of_le (Nat.lt_succ_iff.1 hk) with h' | h'
    · exact ancB_spec h.2 k h'
    · subst h'
      cases e : ρ[k]? with
      | none => rw [e] at h; cases h.1
      | some j => rw [e] at h; have := Nat.eq_of_beq_eq_true h.1; rw [this]
theorem alone_inj {ρ : List Nat} {qs : List AObj} (h : aloneB ρ qs = true) (hl : qs.length ≤ ρ.length) : ∀ i j, i ≠ j → (listH qs i).own = true → (listH qs j).live = true → ρ[i]? ≠ ρ[j]? := by
  intro i j hij hi hj e
  have get : ∀ k, (listH qs k).live = true → ∃ q, qs[k]? = some q ∧ listH qs k = q := fun k hk => by
    cases hq : qs[k]? with
    | none => rw [listH_none _ _ (by rw [List.getElem?_eq_none_iff] at hq; exact hq)] at hk; cases hk
    | some q => exact ⟨q, rfl, listH_get _ _ hq⟩
  obtain ⟨p, hp, ep⟩ := get i (AObj.own_live hi)
  obtain ⟨q, hq, eq⟩ := get j hj
  have h1 : i < ρ.length := Nat.lt_of_lt_of_le (List.getElem?_eq_some_iff.1 hp).1 hl
  have h2 : j < ρ.length := Nat.lt_of_lt_of_le (List.getElem?_eq_some_iff.1 hq).1 hl
  rw [List.getElem?_eq_getElem h1, List.getElem?_eq_getElem h2] at e
  exact alone_spec h hij (List.getElem?_eq_getElem h1) (List.getElem?_eq_getElem h2) hp hq (by rw [← ep]; exact hi) (by rw [← eq]; exact hj) (Option.some.inj e)
theorem Ret.mk {rs : List (Nat × Option (Bool × Nat))} {H0 : List AObj} {R : AV → List AObj → Prop} {T : List (Nat × AV)} {b : Nat → AV} {H : List (Nat × AObj)} {hb : Nat → AObj} {n : Nat} (ρ : List Nat) {v : AV} {H' : List AObj} {c : Prop} {vs : List AV} (hv : resAll ⟨fT T b, fH H hb⟩ rs = some (c, vs)) (hc : c)
    (ht : leA (tupOf vs) (ren ρ v)) (hs : sameR ρ H hb ρ H') (hal : aloneB ρ H' = true) (hl : H'.length = ρ.length) (han : ancB ρ nn.n = true) (hle : H0.length ≤ H'.length) (hro : roOk H0 H') (hR : R v H') : Ret nn rs H0 R (Am.mk T b H hb n) :=
  ⟨ρ, v, H', c, vs, hR, hv, hc, ht, ⟨fun j => by simp [ren, leA], sameR_spec hs, alone_inj hal (by omega), ancB_spec han, by simp only; omega⟩, hle, hro⟩

theorem zipI_fH : ∀ (l : List AObj) (k j : Nat), fH (zipI k l) gone0 (k + j) = l.getD j .gone
  | [], k, j => by simp [zipI, fH, gone0]
  | o :: l, k, 0 => by simp [zipI, fH]
  | o :: l, k, j + 1 => by
    have h : Nat.beq k (k + (j + 1)) = false := by
      cases e : Nat.beq k (k + (j + 1)) with
      | false => rfl
      | true => have := Nat.eq_of_beq_eq_true e; omega
    simp only [zipI, fH, h]
    have := zipI_fH l (k + 1) j
    rw [show k + 1 + j = k + (j + 1) by omega] at this
    simpa using this
theorem ACall.start {g : FuncId} {fn : Func} {c : Code} {args : List AV} {H : List AObj} {R : AV → List AObj → Prop} {rs : List (Nat × Option (Bool × Nat))} {N nn : Nat} {H1 : List (Nat × AObj)} (hf : P.funcs[g]? = some fn) (hb : fn.body = some c) (hN0 : fn.ntmps = N) (hen : entersB P g = true)
    (hrs : fn.results.toList.mapM (resC P) = some rs) (hN : Nat.ble args.length N = true) (hnn : H.length = nn) (hz : zipI 0 H = H1)
    (h : AWp P N (NN.plain nn) c (RetPost (NN.plain nn) rs H R) (mk [] (args0 args) H1 gone0 nn)) : ACall P g args H R := by
  subst hN0
  subst hnn
  subst hz
  have e : fH (zipI 0 H) gone0 = listH H := by
    funext j
    have := zipI_fH H 0 j
    rw [Nat.zero_add] at this
    rw [this]
    rfl
  refine ACall.intro hf hb hen hrs (Nat.le_of_ble_eq_true hN) ?_
  have h' : AWp P fn.ntmps (NN.plain H.length) c (RetPost (NN.plain H.length) rs H R) ⟨⟨fT [] (args0 args), fH (zipI 0 H) gone0⟩, H.length⟩ := h
  rw [e] at h'
  exact h'
/-- The end, with one outcome. -/
theorem Ret.of {rs : List (Nat × Option (Bool × Nat))} {H0 : List AObj} {R : AV → List AObj → Prop} {T : List (Nat × AV)} {b : Nat → AV} {H : List (Nat × AObj)} {hb : Nat → AObj} {n : Nat} (ρ : List Nat) (v : AV) (H' : List AObj) {c : Prop} {vs : List AV} {e : Exit} (he : e = .ret ∨ e = .normal)
    (hv : resAll ⟨fT T b, fH H hb⟩ rs = some (c, vs)) (hR : R v H') (h : c ∧ leA (tupOf vs) (ren ρ v) ∧ sameR ρ H hb ρ H' ∧ aloneB ρ H' = true ∧ H'.length = ρ.length ∧ ancB ρ nn.n = true ∧ Nat.ble H0.length H'.length = true ∧ roOk H0 H') : RetPost nn rs H0 R e (Am.mk T b H hb n) := by
  obtain ⟨h1, h2, h3, h4, h5, h6, h7, h8⟩ := h
  have := Ret.mk (nn := nn) (n := n) ρ hv h1 h2 h3 h4 h5 h6 (Nat.le_of_ble_eq_true h7) h8 hR
  rcases he with rfl | rfl <;> exact this
theorem Ret.det {rs : List (Nat × Option (Bool × Nat))} {H0 : List AObj} {T : List (Nat × AV)} {b : Nat → AV} {H : List (Nat × AObj)} {hb : Nat → AObj} {n : Nat} (ρ : List Nat) {v : AV} {H' : List AObj} {c : Prop} {vs : List AV} {e : Exit} (he : e = .ret ∨ e = .normal)
    (hv : resAll ⟨fT T b, fH H hb⟩ rs = some (c, vs)) (h : c ∧ leA (tupOf vs) (ren ρ v) ∧ sameR ρ H hb ρ H' ∧ aloneB ρ H' = true ∧ H'.length = ρ.length ∧ ancB ρ nn.n = true ∧ Nat.ble H0.length H'.length = true ∧ roOk H0 H') : RetPost nn rs H0 (Det v H') e (Am.mk T b H hb n) :=
  Ret.of ρ v H' he hv ⟨rfl, rfl⟩ h

/-- A guard that nobody knows. -/
theorem RunAt.part {md : Md} {b : Nat → AV} {hb : Nat → AObj} {K : St → Prop} {n' : Nat} {l : List (Nat × AOper)} {T : List (Nat × AV)} {H : List (Nat × AObj)} {g : Bool} {d : Nat} (hg : fT T b d = .val (.bool g)) (ht : g = true → RunAt P md b hb K n' l T H) (hf : g = false → RunAt P md b hb K n' l T H) : RunAt P md b hb K n' l T H := by
  cases g with
  | true => exact ht rfl
  | false => exact hf rfl
theorem RunAt.plain {n : Nat} {b : Nat → AV} {hb : Nat → AObj} {K : St → Prop} {n' : Nat} {l : List (Nat × AOper)} {T : List (Nat × AV)} {H : List (Nat × AObj)} {r : Prop × List (Nat × AV) × List (Nat × AObj) × Stop} (hr : runL ⟨false, n, [], [], [], []⟩ b hb l T H True = r)
    (h : Runs P ⟨false, n, [], [], [], []⟩ b hb K n' r) : RunAt P ⟨false, n, [], [], [], []⟩ b hb K n' l T H :=
  run_on hr (fun _ => rfl) (fun _ _ => rfl) (fun h => by cases h) h
theorem RunAt.drawn {n : Nat} {R : List (Nat × AObj)} {E : List Nat} {F : List (Nat × Nat)} {L : List (Nat × Nat)} {b : Nat → AV} {hb : Nat → AObj} {K : St → Prop} {n' : Nat} {l : List (Nat × AOper)} {T : List (Nat × AV)} {H : List (Nat × AObj)} {r : Prop × List (Nat × AV) × List (Nat × AObj) × Stop} (hlt : ltR n R) (hsub : subR H hb R) (hr : runL ⟨true, n, R, E, F, L⟩ b hb l T H True = r)
    (h : Runs P ⟨true, n, R, E, F, L⟩ b hb K n' r) : RunAt P ⟨true, n, R, E, F, L⟩ b hb K n' l T H :=
  run_on hr (fun h => by cases h) (ltR_ok hlt) (fun _ j hj => subR_ok hsub j hj) h
end

section
variable {P : Program} {N : Nat} {nn : NN} {Q : Exit → St → Prop} {x : St} {c : Code}
theorem AWp.once (h : AWp P N nn c (AThen (fun _ => False) Q) x) : AWp P N nn (.loop c) Q x := by
  intro C B a w hn hs
  refine wp_loop_once (wp_mono (h C B a w hn hs) ?_)
  rintro e a' w' ⟨B', x', hq, hs'⟩
  cases e with
  | normal => exact hq.elim
  | exit id => exact ⟨B', x', hq, hs'⟩
  | goto l => exact ⟨B', x', hq, hs'⟩
  | ret => exact ⟨B', x', hq, hs'⟩
  | panic c => exact ⟨B', x', hq, hs'⟩
  | outgrown => exact ⟨B', x', hq, hs'⟩
/-- At most so many rounds, one by one. -/
def ARounds (P : Program) (N : Nat) (nn : NN) (c : Code) (Q : Exit → St → Prop) : Nat → St → Prop
  | 0, _ => False
  | n + 1, x => AWp P N nn c (AThen (ARounds P N nn c Q n) Q) x
theorem ARounds.succ {n : Nat} (h : AWp P N nn c (AThen (ARounds P N nn c Q n) Q) x) : ARounds P N nn c Q (n + 1) x := h
theorem AWp.rounds (n : Nat) (h : ARounds P N nn c Q n x) : AWp P N nn (.loop c) Q x := by
  intro C B a w hn hs
  refine wp_loop_rounds n ?_
  induction n generalizing x B a w with
  | zero => exact h.elim
  | succ n ih =>
    rw [rounds_succ]
    refine wp_mono (h C B a w hn hs) ?_
    rintro e a' w' ⟨B', x', hq, hs'⟩
    cases e with
    | normal => exact ih hq B' a' w' hs'
    | exit id => exact ⟨B', x', hq, hs'⟩
    | goto l => exact ⟨B', x', hq, hs'⟩
    | ret => exact ⟨B', x', hq, hs'⟩
    | panic c => exact ⟨B', x', hq, hs'⟩
    | outgrown => exact ⟨B', x', hq, hs'⟩
end
/-! ### What evaluates -/
/-- Parts that lie one behind the other are laid at once. -/
def layA : Nat → List (Nat × Nat) → List AV → Option (List AV)
  | _, [], [] => some []
  | k, (off, n) :: ps, x :: xs => match Nat.beq off k with
    | true => match cellsA x with
      | some l => match Nat.beq l.length n with
        | true => (layA (k + n) ps xs).map (l ++ ·)
        | false => none
      | none => none
    | false => none
  | _, _, _ => none
theorem layA_ok : ∀ (ps : List (Nat × Nat)) (xs : List AV) (k : Nat) (l a b : List AV), layA k ps xs = some l → a.length = k → b.length = l.length → fillA (a ++ b) ps xs = some (a ++ l)
  | [], [], k, l, a, b, h, ha, hb => by
    simp only [layA, Option.some.injEq] at h
    subst h
    obtain rfl := List.length_eq_zero_iff.1 hb
    rfl
  | [], _ :: _, k, l, a, b, h, ha, hb => by simp [layA] at h
  | _ :: _, [], k, l, a, b, h, ha, hb => by simp [layA] at h
  | (off, n) :: ps, x :: xs, k, l, a, b, h, ha, hb => by
    simp only [layA] at h
    split at h
    · rename_i h1
      split at h
      · rename_i c hc
        split at h
        · rename_i h2
          obtain rfl := Nat.eq_of_beq_eq_true h1
          obtain rfl := Nat.eq_of_beq_eq_true h2
          rw [Option.map_eq_some_iff] at h
          obtain ⟨m, hm, rfl⟩ := h
          rw [List.length_append] at hb
          have e1 : (a ++ b).take off = a := by rw [← ha, List.take_left]
          have e2 : (a ++ b).drop (off + c.length) = b.drop c.length := by rw [← ha, List.drop_append]; simp
          simp only [fillA, hc, e1, e2]
          rw [if_pos ⟨trivial, by rw [List.length_append]; omega⟩]
          have := layA_ok ps xs (off + c.length) m (a ++ c) (b.drop c.length) hm (by rw [List.length_append, ha]) (by rw [List.length_drop]; omega)
          rw [this, List.append_assoc]
        · cases h
      · cases h
    · cases h
def fillS (cells : List AV) (ps : List (Nat × Nat)) (xs : List AV) : Option (List AV) := fillA cells ps xs
theorem fillS_nil (cells : List AV) : fillS cells [] [] = some cells := rfl
theorem fillS_cons (cells : List AV) (off n : Nat) (ps : List (Nat × Nat)) (x : AV) (xs : List AV) : fillS cells ((off, n) :: ps) (x :: xs) = (match cellsA x with
    | none => none
    | some l => if l.length = n ∧ off + n ≤ cells.length then fillS (cells.take off ++ l ++ cells.drop (off + n)) ps xs else none) := rfl
theorem fillA_eq (cells : List AV) (ps : List (Nat × Nat)) (xs : List AV) : fillA cells ps xs = (match layA 0 ps xs with
    | some l => match Nat.beq l.length cells.length with
      | true => some l
      | false => fillS cells ps xs
    | none => fillS cells ps xs) := by
  cases h : layA 0 ps xs with
  | none => rfl
  | some l =>
    simp only
    cases h2 : Nat.beq l.length cells.length with
    | false => rfl
    | true =>
      have := layA_ok ps xs 0 l [] cells h rfl (Nat.eq_of_beq_eq_true h2).symm
      simpa using this
attribute [go_sem] layA fillA_eq fillS_nil fillS_cons
theorem hasB_nil (i : Nat) : hasB [] i = false := rfl
theorem hasB_cons (k : Nat) (l : List Nat) (i : Nat) : hasB (k :: l) i = (match Nat.beq k i with | true => true | false => hasB l i) := by
  cases h : Nat.beq k i <;> simp [hasB, h]
theorem leA_self (v : AV) : leA v v = True := eq_true (leA_rfl v)
theorem leAs_self (l : List AV) : leAs l l = True := eq_true (leAs_rfl l)
theorem leO_self (o : AObj) : leO o o = True := eq_true (leO_rfl o)
theorem mk_t (T : List (Nat × AV)) (b : Nat → AV) (H : List (Nat × AObj)) (hb : Nat → AObj) (n d : Nat) : (mk T b H hb n).s.t d = fT T b d := rfl
theorem imp_ff (P : Prop) : (false = true → P) = True := by simp
theorem imp_tt (P : Prop) : (true = true → P) = P := by simp
attribute [go_sem] Int.cast_ofNat_Int eq_self ge_iff_le gt_iff_lt bne_self_eq_false List.zip_nil_left List.zip_nil_right List.zip_cons_cons Int.natCast_add
theorem ba_self (s : ByteArray) : (s == s) = true := by
  show (s.data == s.data) = true
  simp
attribute [go_sem] Int.zero_add Int.add_zero Int.sub_zero
attribute [go_sem] undef ba_self
attribute [go_sem] imp_ff imp_tt noAny_nil noAny_cons noAny_vals noAny_vals0
attribute [go_sem] NN.plain_n mk_t leA leAs leO leOL leA_self leAs_self leO_self ltAll
attribute [go_sem] restr
attribute [go_sem] opd absV resC
attribute [go_sem] false_implies lOf one1 Md.lookI eqKey findA updA delA packA packO qLookup qLenM effMapUpd effDelete effClear effGrow rangeB
attribute [go_sem] TailK.nil numberA runL_nil runL_cons gateL_none gateL_false gateL_true contL_some contL_none Runs.out beq_tt beq_tf beq_ft beq_ff wants stepL simple isFresh isEff hasB_nil hasB_cons lookO Md.look Md.id quiet qMove qPick qUn qBin qEqB qEqP qEqS qEqM qEqF qEqA eqCells eqLeaf qConv qStr qAddr qFld qIxS qIxA qIxV qIxStr qBuild qExt qSlS qSlStr qSlA qLen qLenS qCap qMin qMax qNil qLoad qToStr ints8 int8?
attribute [go_sem] fT fH args0 none0 gone0 listH dput evO rid eids effD effStore effAppend effCopy srcCells idOf fresh cellsA zeros binV intBin strBin unV isShift sepB bounds takeI cutAt minA maxA stopAt Md.U usOf_nil usOf_cons okU noneIn notIn findH
attribute [go_sem] After AThen ABlock keepT subR ltR sameR ancB aloneB roOk resAll resOne tupOf ren renL renO renOL renE asFor asForL setRo newIds newUps oldUps upsOf AObj.own AObj.live zipI appRoom
attribute [go_sem] Value.oneCell' List.map_cons List.map_nil Option.map_some Option.map_none Option.toList Option.isSome Option.isNone List.append_nil List.nil_append List.cons_append List.all_cons List.all_nil Bool.and_true Bool.true_and Bool.and_false Bool.false_and
attribute [go_sem] Bool.or_false Bool.or_true Bool.false_or Bool.true_or cond_true cond_false Bool.false_eq_true Bool.not_true Bool.not_false Option.getD_some Option.getD_none Bool.true_eq_false beq_self_eq_true ite_true ite_false dite_true dite_false if_true if_false
attribute [go_sem] List.getElem?_toArray List.getElem?_cons_zero List.getElem?_cons_succ List.getElem?_nil Option.bind_some Option.bind_none List.size_toArray List.length_cons List.length_nil
attribute [go_sem] List.getD_cons_zero List.getD_cons_succ List.getD_nil List.take_succ_cons List.take_zero List.drop_succ_cons List.drop_zero List.take_nil List.drop_nil List.replicate_succ List.replicate_zero List.flatten_cons List.flatten_nil List.headD_cons List.headD_nil
attribute [go_sem] Nat.add_zero Nat.zero_add and_true true_and and_self decide_true decide_false Int.toNat_natCast Int.toNat_zero Nat.mul_one Nat.one_mul Nat.mul_zero Nat.zero_mul List.mapM_cons List.mapM_nil Nat.sub_zero Nat.sub_self or_true true_or or_false false_or imp_self not_true_eq_false not_false_eq_true
end Go.Am
/- Own theory, no program in sight: loops over list states. -/
namespace Go.Am
open Go Go.RowKit

/-- Slots of a named state, met in this one. -/
def sameT (ρ : List Nat) (T : List (Nat × AV)) (b : Nat → AV) : List (Nat × AV) → Prop
  | [] => True
  | p :: l => leA (fT T b p.1) (ren ρ p.2) ∧ sameT ρ T b l
theorem sameT_spec {ρ : List Nat} {T : List (Nat × AV)} {b : Nat → AV} : ∀ {l : List (Nat × AV)}, sameT ρ T b l → ∀ j, leA (fT T b j) (ren ρ (fT l none0 j))
  | [], _, j => by simp [fT, none0, ren, leA]
  | (k, v) :: l, h, j => by
    simp only [fT]
    cases e : Nat.beq k j with
    | true => have := Nat.eq_of_beq_eq_true e; subst this; exact h.1
    | false => exact sameT_spec h.2 j
/-- The canonical state at a loop's head. -/
def head (T : List (Nat × AV)) (H : List AObj) : St := mk T none0 (zipI 0 H) gone0 H.length
theorem Emb.list {nn : NN} {ρ : List Nat} {T0 T : List (Nat × AV)} {H' : List AObj} {b : Nat → AV} {H : List (Nat × AObj)} {hb : Nat → AObj} {n : Nat} (ht : sameT ρ T b T0) (hs : sameR ρ H hb ρ H') (ha : aloneB ρ H' = true) (hl : H'.length = ρ.length) (hanc : ancB ρ nn.n = true) :
    Emb nn ρ (head T0 H') (Am.mk T b H hb n) := by
  have e : fH (zipI 0 H') gone0 = listH H' := by
    funext j
    have := zipI_fH H' 0 j
    rw [Nat.zero_add] at this
    rw [this]
    rfl
  refine ⟨sameT_spec ht, fun i => ?_, ?_, ancB_spec hanc, by simp only [head, Am.mk]; omega⟩
  · have := sameR_spec hs i
    simpa only [head, Am.mk, e] using this
  · have := alone_inj ha (by omega)
    simpa only [head, Am.mk, e] using this
def Back {α : Type} (nn : NN) (T0 : α → List (Nat × AV)) (H0 : α → List AObj) (μ : α → Nat) (P0 : α → Prop) (a : α) (x : St) : Prop :=
  ∃ a', μ a' < μ a ∧ P0 a' ∧ ∃ ρ, Emb nn ρ (head (T0 a') (H0 a')) x
section
variable {α : Type} {P : Program} {N : Nat} {nn : NN} {Q : Exit → St → Prop} {T0 : α → List (Nat × AV)} {H0 : α → List AObj} {μ : α → Nat} {P0 : α → Prop} {a : α}
theorem Back.to {T : List (Nat × AV)} {b : Nat → AV} {H : List (Nat × AObj)} {hb : Nat → AObj} {n : Nat} (a' : α) (ρ : List Nat) (hm : μ a' < μ a) (hP : P0 a') (h : sameT ρ T b (T0 a') ∧ sameR ρ H hb ρ (H0 a') ∧ aloneB ρ (H0 a') = true ∧ (H0 a').length = ρ.length ∧ ancB ρ nn.n = true) : Back nn T0 H0 μ P0 a (Am.mk T b H hb n) :=
  ⟨a', hm, hP, ρ, Emb.list h.1 h.2.1 h.2.2.1 h.2.2.2.1 h.2.2.2.2⟩
theorem AWp.loopL {c : Code} {T : List (Nat × AV)} {b : Nat → AV} {H : List (Nat × AObj)} {hb : Nat → AObj} {n : Nat} (T0 : α → List (Nat × AV)) (H0 : α → List AObj) (μ : α → Nat) (P0 : α → Prop) (a0 : α) (ρ : List Nat) (h0 : P0 a0) (h : sameT ρ T b (T0 a0) ∧ sameR ρ H hb ρ (H0 a0) ∧ aloneB ρ (H0 a0) = true ∧ (H0 a0).length = ρ.length ∧ ancB ρ nn.n = true)
    (round : ∀ a, P0 a → AWp P N nn c (AThen (Back nn T0 H0 μ P0 a) Q) (mk (T0 a) none0 (zipI 0 (H0 a)) gone0 (H0 a).length)) : AWp P N nn (.loop c) Q (mk T b H hb n) := by
  refine AWp.loop (fun m x => ∃ a, P0 a ∧ μ a = m ∧ x = head (T0 a) (H0 a)) ⟨_, ρ, _, ⟨a0, h0, rfl, rfl⟩, Emb.list h.1 h.2.1 h.2.2.1 h.2.2.2.1 h.2.2.2.2⟩ ?_
  rintro m x ⟨a, hP, rfl, rfl⟩ C B ac w hn hs
  refine wp_mono (round a hP C B ac w hn hs) ?_
  rintro e a' w' ⟨B', x', hq, hs'⟩
  refine ⟨B', x', ?_, hs'⟩
  cases e with
  | normal =>
    obtain ⟨a1, h1, h2, ρ1, h3⟩ := hq
    exact ⟨μ a1, h1, ρ1, _, ⟨a1, h2, rfl, rfl⟩, h3⟩
  | _ => exact hq
/-- A list of values bears no ids. -/
theorem renL_map {β : Type} (ρ : List Nat) (f : β → AV) (hf : ∀ x, ren ρ (f x) = f x) : ∀ l : List β, renL ρ (l.map f) = l.map f
  | [] => by simp [renL]
  | x :: l => by simp [renL, hf, renL_map ρ f hf l]
theorem renL_flatMap {β : Type} (ρ : List Nat) (f : β → List AV) (hf : ∀ x, renL ρ (f x) = f x) : ∀ l : List β, renL ρ (l.flatMap f) = l.flatMap f
  | [] => by simp [renL]
  | x :: l => by simp [List.flatMap_cons, renL_append, hf, renL_flatMap ρ f hf l]
/-- Rows of cells, each of the same length. -/
theorem rows_len {β : Type} (f : β → List AV) (k : Nat) (hf : ∀ x, (f x).length = k) : ∀ l : List β, (l.flatMap f).length = l.length * k
  | [] => by simp
  | x :: l => by simp [List.flatMap_cons, hf, rows_len f k hf l, Nat.add_mul, Nat.add_comm]
theorem rows_at {β : Type} (f : β → List AV) (k : Nat) (hf : ∀ x, (f x).length = k) : ∀ (l : List β) (i : Nat) (h : i < l.length), ((l.flatMap f).drop (i * k)).take k = f l[i]
  | x :: l, 0, _ => by
    simp only [Nat.zero_mul, List.drop_zero, List.flatMap_cons, List.getElem_cons_zero]
    rw [List.take_append_of_le_length (by rw [hf]; exact Nat.le_refl _), ← hf x, List.take_length]
  | x :: l, i + 1, h => by
    simp only [List.flatMap_cons, List.getElem_cons_succ]
    rw [show (i + 1) * k = (f x).length + i * k by rw [hf]; rw [Nat.add_mul]; omega, List.drop_length_add_append]
    exact rows_at f k hf l i (by simpa using h)
/-- A slice's cells, that came in: what is ahead of it is nobody's matter. -/
def rowsC {β : Type} (off : Nat) (f : β → List AV) (l : List β) : List AV := List.replicate off .any ++ l.flatMap f
theorem renL_any (ρ : List Nat) : ∀ n : Nat, renL ρ (List.replicate n .any) = List.replicate n .any
  | 0 => rfl
  | n + 1 => by simp [List.replicate_succ, renL, ren, renL_any ρ n]
theorem rowsC_ren {β : Type} {off : Nat} {f : β → List AV} (hf : ∀ ρ x, renL ρ (f x) = f x) (ρ : List Nat) (l : List β) : renL ρ (rowsC off f l) = rowsC off f l := by
  unfold rowsC
  rw [renL_append, renL_any, renL_flatMap ρ f (hf ρ)]
theorem rowsC_len {β : Type} {off k : Nat} {f : β → List AV} (hf : ∀ x, (f x).length = k) (l : List β) : (rowsC off f l).length = off + l.length * k := by
  unfold rowsC
  rw [List.length_append, List.length_replicate, rows_len f k hf]
theorem rowsC_at {β : Type} {off k : Nat} {f : β → List AV} (hf : ∀ x, (f x).length = k) (l : List β) (i : Nat) (h : i < l.length) : ((rowsC off f l).drop (off + i * k)).take k = f l[i] := by
  unfold rowsC
  rw [show off + i * k = (List.replicate off AV.any).length + i * k by simp, List.drop_length_add_append]
  exact rows_at f k hf l i h
end
attribute [go_sem] sameT
end Go.Am
/- Own theory, no program in sight: code compiled once, piece by piece. -/
namespace Go.Am
open Go Go.RowKit
set_option linter.unusedVariables false
set_option linter.unusedSimpArgs false

/-- Compiled code. 'live': the slots that are kept behind a region (what stands there is nobody's promise: less is told, never more); 'dd': are objects written; 'wr': slots whose blocks are written beside reads; 'tl': what goes as the text does behind all that draws. -/
inductive ACode where
  | skip
  | region (draw : Bool) (ops : List AOper) (E : List Nat) (F : List (Nat × Nat)) (live : List Nat) (dd : Bool) (wr : List Nat) (tl : List AOper)
  | seq (a b : ACode)
  | cond (c : Opd) (a b : ACode)
  | block (id : Nat) (c : ACode)
  | loop (c : ACode)
  | exit (id : Nat)
  | ret
  deriving Inhabited
def strip : ACode → ACode
  | .skip => .skip
  | .region d ops E F _ _ _ tl => .region d ops E F [] false [] tl
  | .seq a b => .seq (strip a) (strip b)
  | .cond c a b => .cond c (strip a) (strip b)
  | .block id c => .block id (strip c)
  | .loop c => .loop (strip c)
  | .exit id => .exit id
  | .ret => .ret
/-- The operation of the region that fills a slot; where an address comes from. -/
def defOf : List AOper → Nat → Option AOper
  | [], _ => none
  | o :: l, k => match o.dst with
    | some d => cond (Nat.beq d k) (some o) (defOf l k)
    | none => defOf l k
def isVia : AOp → Bool
  | .addr _ => true
  | .nilChk => true
  | .move => true
  | .ixS _ => true
  | .ixA _ _ => true
  | .slS .. => true
  | .slA .. => true
  | _ => false
def baseOf (aops : List AOper) : Nat → Nat → Option Nat
  | 0, _ => none
  | n + 1, k => match defOf aops k with
    | none => some k
    | some o => match isVia o.op, o.xs with
      | true, .t j :: _ => baseOf aops n j
      | _, _ => none
def firstBase (aops : List AOper) (o : AOper) : Option Nat :=
  match o.xs with
  | .t j :: _ => baseOf aops 64 j
  | _ => none
def isWr : AOp → Bool
  | .store _ => true
  | .append .. => true
  | .copy _ => true
  | .mapUpd _ => true
  | .delete _ => true
  | .clearS .. => true
  | .growN .. => true
  | _ => false
def isLd : AOp → Bool
  | .load .. => true
  | .toStr => true
  | .lookup .. => true
  | .lenM => true
  | _ => false
/-- As baseOf, through pointers that are loaded. -/
def baseOf2 (aops : List AOper) : Nat → Nat → Option Nat
  | 0, _ => none
  | n + 1, k => match defOf aops k with
    | none => some k
    | some o => match isVia o.op, o.op, o.xs with
      | true, _, .t j :: _ => baseOf2 aops n j
      | false, .load _ _, .t j :: _ => (baseOf2 aops n j).map (· + 1000)
      | false, .call _, _ => some (100000 + k)
      | _, _, _ => none
def firstBase2 (aops : List AOper) (o : AOper) : Option Nat :=
  match o.xs with
  | .t j :: _ => baseOf2 aops 64 j
  | _ => none
def freeF (ops : Array Oper) (aops : List AOper) (E : List Nat) (ms : List Nat) : List (Nat × Nat) :=
  let l := numberA 0 aops
  l.flatMap fun p => match isEff p.2.op || hasB E p.1 with
    | false => []
    | true => l.filterMap fun q => match isFresh q.2.op && !((ms.getD q.1 0).testBit p.1) && !((ms.getD p.1 0).testBit q.1) with
      | true => some (p.1, q.1)
      | false => none
def lateOf (ms : List Nat) (l : List (Nat × AOper)) : Nat → Nat → Nat
  | 0, k => k
  | n + 1, k => cond (lateB (k - 1) ms l) (lateOf ms l n (k - 1)) k
open Go.Proofs.YtopidfkmligljaaGreat in
def tryR (ops : Array Oper) (aops : List AOper) (k : Nat) (E : List Nat) (F : List (Nat × Nat)) : Option ACode :=
  match orderB ops aops k E F with
  | true => some (.region true (aops.take k) E F [] false [] (aops.drop k))
  | false => none
def orElseA : Option ACode → Option ACode → Option ACode
  | some x, _ => some x
  | none, y => y
/-- Where the addresses come from that a call is handed. -/
def argBases (aops : List AOper) : List Opd → List Nat
  | .t j :: l => (baseOf2 aops 64 j).toList ++ argBases aops l
  | _ :: l => argBases aops l
  | [] => []
/-- Reads of blocks that the region writes: taken as effects. -/
def needE (base : List AOper → AOper → Option Nat) (calls : Option Bool) (aops : List AOper) : List Nat :=
  let wr := aops.flatMap fun o => match isWr o.op with
    | true => (base aops o).toList
    | false => match calls, o.op with
      | some true, .call _ => argBases aops o.xs ++ (o.dst.map (100000 + ·)).toList
      | some false, .call _ => (o.dst.map (100000 + ·)).toList
      | _, _ => []
  (numberA 0 aops).filterMap fun p => match isLd p.2.op, base aops p.2 with
    | true, some k => cond (hasB wr k) (some p.1) none
    | _, _ => none
def tryS (ops : Array Oper) (aops : List AOper) (ms : List Nat) (k : Nat) (ne : List AOper → List Nat) : Option ACode :=
  orElseA (tryR ops aops aops.length (ne aops) (freeF ops aops (ne aops) ms)) (tryR ops aops k (ne (aops.take k)) (freeF ops (aops.take k) (ne (aops.take k)) ms))
/-- Reads that stand beside an effect, or beside one another: late reads, the block of which is told in the proof. -/
def unordB (ms : List Nat) (p q : Nat) : Bool := !((ms.getD q 0).testBit p) && !((ms.getD p 0).testBit q)
def lateL (aops : List AOper) (ms : List Nat) (ne : List Nat) : List Nat :=
  ne.filter fun i => (numberA 0 aops).any fun q => !(Nat.beq q.1 i) && (isEff q.2.op || hasB ne q.1) && unordB ms i q.1
def tryL1 (ops : Array Oper) (aops : List AOper) (ms : List Nat) (k : Nat) (ne ls : List Nat) (E : List Nat) : Option ACode :=
  tryR ops aops k E (freeF ops (aops.take k) E ms ++ ls.map (fun i => (100000 + i, 0)) ++ ls.flatMap fun i => (numberA 0 (aops.take k)).filterMap fun q => match (isEff q.2.op || hasB E q.1) && unordB ms i q.1 with
    | true => some (q.1, 100000 + i)
    | false => none)
def tryL (ops : Array Oper) (aops : List AOper) (ms : List Nat) (k : Nat) (ne : List Nat) : Option ACode :=
  tryL1 ops aops ms k ne (lateL (aops.take k) ms ne) (ne.filter fun i => !(hasB (lateL (aops.take k) ms ne) i))
def tryLS (ops : Array Oper) (aops : List AOper) (ms : List Nat) (k : Nat) (ne : List AOper → List Nat) : Option ACode :=
  orElseA (tryL ops aops ms aops.length (ne aops)) (tryL ops aops ms k (ne (aops.take k)))
theorem tryR_any {ops : Array Oper} {aops : List AOper} {k0 : Nat} {E : List Nat} {F : List (Nat × Nat)} {c : ACode} (hk : k0 ≤ aops.length) (h : tryR ops aops k0 E F = some c) : ∃ k E F, k ≤ aops.length ∧ c = .region true (aops.take k) E F [] false [] (aops.drop k) ∧ orderB ops aops k E F = true := by
  unfold tryR at h
  split at h
  · rename_i h1; cases h; exact ⟨_, _, _, hk, rfl, h1⟩
  · cases h
theorem tryLS_any {ops : Array Oper} {aops : List AOper} {ms : List Nat} {k0 : Nat} {ne : List AOper → List Nat} {c : ACode} (hk : k0 ≤ aops.length) (h : tryLS ops aops ms k0 ne = some c) : ∃ k E F, k ≤ aops.length ∧ c = .region true (aops.take k) E F [] false [] (aops.drop k) ∧ orderB ops aops k E F = true := by
  unfold tryLS orElseA at h
  split at h
  · rename_i h1; cases h; exact tryR_any (Nat.le_refl _) h1
  · exact tryR_any hk h
open Go.Proofs.YtopidfkmligljaaGreat in
def compR (ops : Array Oper) (aops : List AOper) (d : Bool) : Option ACode :=
  match d with
  | false => some (.region false aops [] [] [] false [] [])
  | true => let ms := Seq.masks .any ops.toList []
    let k := lateOf ms (numberA 0 aops) aops.length aops.length
    orElseA (orElseA (orElseA (tryS ops aops ms k (needE firstBase2 (some true))) (tryS ops aops ms k (needE firstBase2 (some false)))) (orElseA (tryLS ops aops ms k (needE firstBase2 (some true))) (tryS ops aops ms k (needE firstBase2 none)))) (tryS ops aops ms k (needE firstBase none))
def compC (P : Program) (N : Nat) : Code → Option ACode
  | .skip => some .skip
  | .label _ => some .skip
  | .region _ ops d => match compOps P N ops with
    | some aops => compR ops aops d
    | none => none
  | .seq a b => match compC P N a, compC P N b with
    | some x, some y => some (.seq x y)
    | _, _ => none
  | .cond c a b => match compC P N a, compC P N b with
    | some x, some y => some (.cond (opd c) x y)
    | _, _ => none
  | .block id c => match compC P N c with
    | some x => some (.block id x)
    | none => none
  | .loop c => match compC P N c with
    | some x => some (.loop x)
    | none => none
  | .exit id => some (.exit id)
  | .ret => some .ret
  | _ => none
theorem tryR_inv {ops : Array Oper} {aops : List AOper} {k : Nat} {E : List Nat} {F : List (Nat × Nat)} {c : ACode} (h : tryR ops aops k E F = some c) : c = .region true (aops.take k) E F [] false [] (aops.drop k) ∧ orderB ops aops k E F = true := by
  unfold tryR at h
  split at h
  · rename_i h1; cases h; exact ⟨rfl, h1⟩
  · cases h
theorem orElseA_inv {a b : Option ACode} {c : ACode} (h : orElseA a b = some c) : a = some c ∨ b = some c := by
  unfold orElseA at h
  split at h
  · exact .inl h
  · exact .inr h
theorem lateOf_le (ms : List Nat) (l : List (Nat × AOper)) : ∀ (n k : Nat), lateOf ms l n k ≤ k
  | 0, k => Nat.le_refl _
  | n + 1, k => by
    simp only [lateOf]
    cases lateB (k - 1) ms l with
    | true => exact Nat.le_trans (lateOf_le ms l n (k - 1)) (Nat.sub_le _ _)
    | false => exact Nat.le_refl _
theorem tryS_any {ops : Array Oper} {aops : List AOper} {ms : List Nat} {k0 : Nat} {ne : List AOper → List Nat} {c : ACode} (hk : k0 ≤ aops.length) (h : tryS ops aops ms k0 ne = some c) : ∃ k E F, k ≤ aops.length ∧ c = .region true (aops.take k) E F [] false [] (aops.drop k) ∧ orderB ops aops k E F = true := by
  rcases orElseA_inv h with h | h
  · exact ⟨_, _, _, Nat.le_refl _, (tryR_inv h).1, (tryR_inv h).2⟩
  · exact ⟨_, _, _, hk, (tryR_inv h).1, (tryR_inv h).2⟩
theorem compR_any {ops : Array Oper} {aops : List AOper} {c : ACode} (h : compR ops aops true = some c) : ∃ k E F, k ≤ aops.length ∧ c = .region true (aops.take k) E F [] false [] (aops.drop k) ∧ orderB ops aops k E F = true := by
  simp only [compR] at h
  rcases orElseA_inv h with h | h
  · rcases orElseA_inv h with h | h
    · rcases orElseA_inv h with h | h
      · exact tryS_any (lateOf_le _ _ _ _) h
      · exact tryS_any (lateOf_le _ _ _ _) h
    · rcases orElseA_inv h with h | h
      · exact tryLS_any (lateOf_le _ _ _ _) h
      · exact tryS_any (lateOf_le _ _ _ _) h
  · exact tryS_any (lateOf_le _ _ _ _) h
theorem compR_inv {ops : Array Oper} {aops : List AOper} {d d' : Bool} {l tl : List AOper} {E : List Nat} {F : List (Nat × Nat)} {lv : List Nat} {dd : Bool} {wr : List Nat} (h : compR ops aops d = some (.region d' l E F lv dd wr tl)) : aops = l ++ tl ∧ d' = d ∧ (d = false → tl = []) ∧ (d = true → orderB ops (l ++ tl) l.length E F = true) := by
  cases d with
  | false => simp [compR] at h; obtain ⟨rfl, rfl, _, _, _, _, _, rfl⟩ := h; exact ⟨by simp, rfl, fun _ => rfl, fun h => Bool.noConfusion h⟩
  | true =>
    obtain ⟨k, E', F', hk, h1, h2⟩ := compR_any h
    simp only [ACode.region.injEq] at h1
    obtain ⟨rfl, rfl, rfl, rfl, _, _, _, rfl⟩ := h1
    refine ⟨by simp, rfl, fun h => Bool.noConfusion h, fun _ => ?_⟩
    rw [List.take_append_drop, List.length_take, Nat.min_eq_left hk]
    exact h2
theorem compR_region {ops : Array Oper} {aops : List AOper} {d : Bool} {c : ACode} (h : compR ops aops d = some c) : ∃ l E F tl, c = .region d l E F [] false [] tl := by
  cases d with
  | false => simp [compR] at h; exact ⟨_, _, _, _, h.symm⟩
  | true =>
    obtain ⟨k, E', F', hk, h1, h2⟩ := compR_any h
    exact ⟨_, _, _, _, h1⟩

section
variable {P : Program} {N : Nat} {nn : NN} {Q : Exit → St → Prop} {x : St}
/-- Compiled code, run in an abstract state, comes to an end that is Q. -/
def AWpA (P : Program) (N : Nat) (nn : NN) (ac : ACode) (Q : Exit → St → Prop) (x : St) : Prop :=
  ∀ c, compC P N c = some (strip ac) → AWp P N nn c Q x
theorem comp_seq {c : Code} {a b : ACode} (h : compC P N c = some (.seq a b)) : ∃ c1 c2, c = .seq c1 c2 ∧ compC P N c1 = some a ∧ compC P N c2 = some b := by
  cases c <;> simp only [compC] at h
  case seq c1 c2 =>
    split at h
    · rename_i x y h1 h2; simp at h; obtain ⟨rfl, rfl⟩ := h; exact ⟨c1, c2, rfl, h1, h2⟩
    · cases h
  case region id ops d =>
    split at h
    · obtain ⟨_, _, _, _, e⟩ := compR_region h; cases e
    · cases h
  all_goals (first | (split at h <;> simp at h) | simp at h)
theorem comp_cond {c : Code} {o : Opd} {a b : ACode} (h : compC P N c = some (.cond o a b)) : ∃ co c1 c2, c = .cond co c1 c2 ∧ opd co = o ∧ compC P N c1 = some a ∧ compC P N c2 = some b := by
  cases c <;> simp only [compC] at h
  case cond co c1 c2 =>
    split at h
    · rename_i x y h1 h2; simp at h; obtain ⟨rfl, rfl, rfl⟩ := h; exact ⟨co, c1, c2, rfl, rfl, h1, h2⟩
    · cases h
  case region id ops d =>
    split at h
    · obtain ⟨_, _, _, _, e⟩ := compR_region h; cases e
    · cases h
  all_goals (first | (split at h <;> simp at h) | simp at h)
theorem comp_block {c : Code} {id : Nat} {a : ACode} (h : compC P N c = some (.block id a)) : ∃ c1, c = .block id c1 ∧ compC P N c1 = some a := by
  cases c <;> simp only [compC] at h
  case block id' c1 =>
    split at h
    · rename_i x h1; simp at h; obtain ⟨rfl, rfl⟩ := h; exact ⟨c1, rfl, h1⟩
    · cases h
  case region id ops d =>
    split at h
    · obtain ⟨_, _, _, _, e⟩ := compR_region h; cases e
    · cases h
  all_goals (first | (split at h <;> simp at h) | simp at h)
theorem comp_loop {c : Code} {a : ACode} (h : compC P N c = some (.loop a)) : ∃ c1, c = .loop c1 ∧ compC P N c1 = some a := by
  cases c <;> simp only [compC] at h
  case loop c1 =>
    split at h
    · rename_i x h1; simp at h; obtain rfl := h; exact ⟨c1, rfl, h1⟩
    · cases h
  case region id ops d =>
    split at h
    · obtain ⟨_, _, _, _, e⟩ := compR_region h; cases e
    · cases h
  all_goals (first | (split at h <;> simp at h) | simp at h)
theorem comp_exit {c : Code} {id : Nat} (h : compC P N c = some (.exit id)) : c = .exit id := by
  cases c <;> simp only [compC] at h
  case exit id' => simp at h; rw [h]
  case region id ops d =>
    split at h
    · obtain ⟨_, _, _, _, e⟩ := compR_region h; cases e
    · cases h
  all_goals (first | (split at h <;> simp at h) | simp at h)
theorem comp_ret {c : Code} (h : compC P N c = some .ret) : c = .ret := by
  cases c <;> simp only [compC] at h
  case ret => rfl
  case region id ops d =>
    split at h
    · obtain ⟨_, _, _, _, e⟩ := compR_region h; cases e
    · cases h
  all_goals (first | (split at h <;> simp at h) | simp at h)
theorem comp_skip {c : Code} (h : compC P N c = some .skip) : c = .skip ∨ ∃ l, c = .label l := by
  cases c <;> simp only [compC] at h
  case skip => exact .inl rfl
  case label l => exact .inr ⟨l, rfl⟩
  case region id ops d =>
    split at h
    · obtain ⟨_, _, _, _, e⟩ := compR_region h; cases e
    · cases h
  all_goals (first | (split at h <;> simp at h) | simp at h)
theorem comp_region {c : Code} {d : Bool} {l tl : List AOper} {E : List Nat} {F : List (Nat × Nat)} {lv : List Nat} {dd : Bool} {wr : List Nat} (h : compC P N c = some (.region d l E F lv dd wr tl)) : ∃ id ops, c = .region id ops d ∧ compOps P N ops = some (l ++ tl) ∧ (d = false → tl = []) ∧ (d = true → orderB ops (l ++ tl) l.length E F = true) := by
  cases c <;> simp only [compC] at h
  case region id ops d' =>
    split at h
    · rename_i aops h1
      obtain ⟨rfl, rfl, h2, h3⟩ := compR_inv h
      exact ⟨id, ops, rfl, h1, h2, h3⟩
    · cases h
  all_goals (first | (split at h <;> simp at h) | simp at h)

theorem AWpA.seq {a b : ACode} (h : AWpA P N nn a (AThen (fun x => AWpA P N nn b Q x) Q) x) : AWpA P N nn (.seq a b) Q x := by
  intro c hc
  obtain ⟨c1, c2, rfl, h1, h2⟩ := comp_seq hc
  refine AWp.seq (AWp.mono (h c1 h1) ?_)
  intro e y hq
  cases e with
  | normal => exact hq c2 h2
  | _ => exact hq
theorem AWpA.block {id : Nat} {a : ACode} (h : AWpA P N nn a (ABlock id Q) x) : AWpA P N nn (.block id a) Q x := by
  intro c hc
  obtain ⟨c1, rfl, h1⟩ := comp_block hc
  exact AWp.block (h c1 h1)
theorem AWpA.skip (h : Q .normal x) : AWpA P N nn .skip Q x := by
  intro c hc
  rcases comp_skip hc with rfl | ⟨l, rfl⟩
  · exact AWp.skip h
  · exact AWp.label h
theorem AWpA.exit {id : Nat} (h : Q (.exit id) x) : AWpA P N nn (.exit id) Q x := by
  intro c hc
  rw [comp_exit hc]
  exact AWp.exit h
theorem AWpA.ret (h : Q .ret x) : AWpA P N nn .ret Q x := by
  intro c hc
  rw [comp_ret hc]
  exact AWp.ret h
theorem AWpA.cond {o : Opd} {y z : ACode} {t : Bool} (hc : evO x.s.t o = .val (.bool t)) (ht : t = true → AWpA P N nn y Q x) (hf : t = false → AWpA P N nn z Q x) : AWpA P N nn (.cond o y z) Q x := by
  intro c hk
  obtain ⟨co, c1, c2, rfl, rfl, h1, h2⟩ := comp_cond hk
  exact AWp.cond hc (fun e => ht e c1 h1) (fun e => hf e c2 h2)
/-- A condition, its value found first. -/
def CondP (t : Bool) (A B : Prop) : Prop := match t with
  | true => A
  | false => B
theorem CondP.tt {A B : Prop} (h : A) : CondP true A B := h
theorem CondP.ff {A B : Prop} (h : B) : CondP false A B := h
theorem CondP.ht {t : Bool} {A B : Prop} (h : t = true) (k : t = true → A) : CondP t A B := by
  have := k h
  rw [h]; exact this
theorem CondP.hf {t : Bool} {A B : Prop} (h : t = false) (k : t = false → B) : CondP t A B := by
  have := k h
  rw [h]; exact this
theorem CondP.nt {t : Bool} {A B : Prop} (h : t = false) (k : (!t) = true → A) : CondP (!t) A B := CondP.ht (by simp [h]) k
theorem CondP.nf {t : Bool} {A B : Prop} (h : t = true) (k : (!t) = false → B) : CondP (!t) A B := CondP.hf (by simp [h]) k
theorem CondP.split {t : Bool} {A B : Prop} (ht : t = true → A) (hf : t = false → B) : CondP t A B := by
  cases t with
  | true => exact ht rfl
  | false => exact hf rfl
theorem AWpA.condv {o : Opd} {y z : ACode} {t : Bool} (hc : evO x.s.t o = .val (.bool t)) (h : CondP t (AWpA P N nn y Q x) (AWpA P N nn z Q x)) : AWpA P N nn (.cond o y z) Q x := by
  refine AWpA.cond hc (fun e => ?_) (fun e => ?_)
  · rw [e] at h; exact h
  · rw [e] at h; exact h
theorem AWpA.mono {ac : ACode} {Q' : Exit → St → Prop} (h : AWpA P N nn ac Q x) (hq : ∀ e x, Q e x → Q' e x) : AWpA P N nn ac Q' x :=
  fun c hc => AWp.mono (h c hc) hq
def keepS (live : List Nat) (dd : Bool) (x : St) : St := ⟨⟨fT (live.map fun k => (k, x.s.t k)) none0, x.s.h⟩, x.n⟩
theorem keepS_t (live : List Nat) (f : Nat → AV) : ∀ j, fT (live.map fun k => (k, f k)) none0 j = .any ∨ fT (live.map fun k => (k, f k)) none0 j = f j := by
  induction live with
  | nil => exact fun j => .inl rfl
  | cons k ks ih =>
    intro j
    simp only [List.map_cons, fT]
    cases h : Nat.beq k j with
    | true => have := Nat.eq_of_beq_eq_true h; subst this; exact .inr rfl
    | false => exact ih j
theorem keepS_ok (live : List Nat) (dd : Bool) {C : Ctx} {B : BM} {a : Act} {w : World} (hs : Sms C N B x a w) : Sms C N B (keepS live dd x) a w :=
  hs.forget (keepS_t live x.s.t) (fun i => .inr rfl) (Nat.le_refl _)
theorem restr_fH {hb : Nat → AObj} : ∀ {H : List (Nat × AObj)} {X : List Nat} (j : Nat), hasB X j = false → fH (restr X H) hb j = fH H hb j
  | [], X, j, _ => rfl
  | p :: l, X, j, hx => by
    simp only [restr]
    cases hp : hasB X p.1 with
    | true =>
      simp only [fH]
      cases e : Nat.beq p.1 j with
      | true => have := Nat.eq_of_beq_eq_true e; rw [this, hx] at hp; cases hp
      | false => exact restr_fH j hx
    | false =>
      simp only [fH]
      cases e : Nat.beq p.1 j with
      | true => rfl
      | false => exact restr_fH j (by simp only [hasB, e, hx, cond_false])
theorem keepS_mk0 (live : List Nat) (T : List (Nat × AV)) (b : Nat → AV) (H : List (Nat × AObj)) (hb : Nat → AObj) (n : Nat) : keepS live false (mk T b H hb n) = mk (keepT b T live) none0 H hb n := by
  have : ∀ l : List Nat, (l.map fun k => (k, fT T b k)) = keepT b T l := fun l => by
    induction l with
    | nil => rfl
    | cons k ks ih => simp only [List.map_cons, keepT, ih]
  unfold keepS Am.mk
  simp only [this]
theorem keepS_mk1 (live : List Nat) (T : List (Nat × AV)) (b : Nat → AV) (H : List (Nat × AObj)) (hb : Nat → AObj) (n : Nat) : keepS live true (mk T b H hb n) = mk (keepT b T live) none0 (restr [] H) hb n := by
  have h1 : keepS live true (mk T b H hb n) = keepS live false (mk T b H hb n) := rfl
  rw [h1, keepS_mk0]
  have : fH (restr [] H) hb = fH H hb := by funext j; exact restr_fH j rfl
  unfold Am.mk
  rw [this]
theorem AWpA.region {ops : List AOper} {E : List Nat} {F : List (Nat × Nat)} {live : List Nat} {dd : Bool} {wr : List Nat} {T : List (Nat × AV)} {b : Nat → AV} {H : List (Nat × AObj)} {hb : Nat → AObj} {n : Nat} {r : Prop × List (Nat × AV) × List (Nat × AObj) × Stop}
    (hr : runL ⟨false, n, [], [], [], []⟩ b hb (numberA 0 ops) T H True = r)
    (h : Runs P ⟨false, n, [], [], [], []⟩ b hb (fun x => Q .normal (keepS live dd x)) (n + 16 * ops.length) r) : AWpA P N nn (.region false ops E F live dd wr []) Q (mk T b H hb n) := by
  intro c hc
  obtain ⟨id, ops', rfl, h1, _⟩ := comp_region hc
  rw [List.append_nil] at h1
  refine AWp.forgetPost (f := keepS live dd) (fun C B x a w => keepS_ok live dd) ?_
  exact AWp.regionL h1 hr h
def wrX (T : List (Nat × AV)) (b : Nat → AV) : List Nat → List Nat
  | [] => []
  | k :: l => idOf (fT T b k) ++ wrX T b l
theorem AWpA.draw {ops tl : List AOper} {E : List Nat} {F : List (Nat × Nat)} {live : List Nat} {dd : Bool} {wr : List Nat} {T : List (Nat × AV)} {b : Nat → AV} {H : List (Nat × AObj)} {hb : Nat → AObj} {n : Nat} {R : List (Nat × AObj)} {r : Prop × List (Nat × AV) × List (Nat × AObj) × Stop} (X : List Nat) (L : List (Nat × Nat))
    (hm : P.follows .mixedOrders = true) (hLo : lOkB n F (ops ++ tl) L = true) (hRe : restr (X ++ wrX T b wr) H = R) (hl : ltR n R)
    (hr : runL ⟨true, n, R, E, F, L⟩ b hb (numberA 0 ops) T H True = r)
    (h : Runs P ⟨true, n, R, E, F, L⟩ b hb (TailK P n ops.length tl fun x => Q .normal (keepS live dd x)) (n + 16 * (ops.length + tl.length)) r) : AWpA P N nn (.region true ops E F live dd wr tl) Q (mk T b H hb n) := by
  intro c hc
  obtain ⟨id, ops', rfl, h1, _, h2⟩ := comp_region hc
  refine AWp.forgetPost (f := keepS live dd) (fun C B x a w => keepS_ok live dd) ?_
  exact AWp.drawX (X ++ wrX T b wr) L E F hm hLo h1 (h2 rfl) hRe hl hr h
theorem AWpA.loopL {α : Type} {ac : ACode} {T : List (Nat × AV)} {b : Nat → AV} {H : List (Nat × AObj)} {hb : Nat → AObj} {n : Nat} (T0 : α → List (Nat × AV)) (H0 : α → List AObj) (μ : α → Nat) (P0 : α → Prop) (a0 : α) (ρ : List Nat) (h0 : P0 a0) (h : sameT ρ T b (T0 a0) ∧ sameR ρ H hb ρ (H0 a0) ∧ aloneB ρ (H0 a0) = true ∧ (H0 a0).length = ρ.length ∧ ancB ρ nn.n = true)
    (round : ∀ a, P0 a → AWpA P N nn ac (AThen (Back nn T0 H0 μ P0 a) Q) (mk (T0 a) none0 (zipI 0 (H0 a)) gone0 (H0 a).length)) : AWpA P N nn (.loop ac) Q (mk T b H hb n) := by
  intro c hc
  obtain ⟨c1, rfl, h1⟩ := comp_loop hc
  exact AWp.loopL T0 H0 μ P0 a0 ρ h0 h fun a ha => round a ha c1 h1
theorem AWpA.once {ac : ACode} (h : AWpA P N nn ac (AThen (fun _ => False) Q) x) : AWpA P N nn (.loop ac) Q x := by
  intro c hc
  obtain ⟨c1, rfl, h1⟩ := comp_loop hc
  exact AWp.once (h c1 h1)
/-- At most so many rounds, one by one. -/
def ARoundsA (P : Program) (N : Nat) (nn : NN) (ac : ACode) (Q : Exit → St → Prop) : Nat → St → Prop
  | 0, _ => False
  | n + 1, x => AWpA P N nn ac (AThen (ARoundsA P N nn ac Q n) Q) x
theorem ARoundsA.succ {ac : ACode} {n : Nat} (h : AWpA P N nn ac (AThen (ARoundsA P N nn ac Q n) Q) x) : ARoundsA P N nn ac Q (n + 1) x := h
theorem AWpA.rounds {ac : ACode} (n : Nat) (h : ARoundsA P N nn ac Q n x) : AWpA P N nn (.loop ac) Q x := by
  intro c hc
  obtain ⟨c1, rfl, h1⟩ := comp_loop hc
  refine AWp.rounds n ?_
  have : ∀ n x, ARoundsA P N nn ac Q n x → ARounds P N nn c1 Q n x := by
    intro n
    induction n with
    | zero => exact fun _ h => h
    | succ n ih =>
      intro x h
      refine AWp.mono (h c1 h1) ?_
      intro e y hq
      cases e with
      | normal => exact ih y hq
      | _ => exact hq
  exact this n x h
/-- Where ways meet again: what holds there. -/
def Into {α : Type} (nn : NN) (T0 : α → List (Nat × AV)) (H0 : α → List AObj) (P0 : α → Prop) (x : St) : Prop :=
  ∃ a, P0 a ∧ ∃ ρ, Emb nn ρ (head (T0 a) (H0 a)) x
theorem Into.to {α : Type} {T0 : α → List (Nat × AV)} {H0 : α → List AObj} {P0 : α → Prop} {T : List (Nat × AV)} {b : Nat → AV} {H : List (Nat × AObj)} {hb : Nat → AObj} {n : Nat} (a : α) (ρ : List Nat) (hP : P0 a) (h : sameT ρ T b (T0 a) ∧ sameR ρ H hb ρ (H0 a) ∧ aloneB ρ (H0 a) = true ∧ (H0 a).length = ρ.length ∧ ancB ρ nn.n = true) : Into nn T0 H0 P0 (Am.mk T b H hb n) :=
  ⟨a, hP, ρ, Emb.list h.1 h.2.1 h.2.2.1 h.2.2.2.1 h.2.2.2.2⟩
theorem AWpA.cut {α : Type} {a b : ACode} (T0 : α → List (Nat × AV)) (H0 : α → List AObj) (P0 : α → Prop) (h : AWpA P N nn a (AThen (Into nn T0 H0 P0) Q) x)
    (k : ∀ a, P0 a → AWpA P N nn b Q (mk (T0 a) none0 (zipI 0 (H0 a)) gone0 (H0 a).length)) : AWpA P N nn (.seq a b) Q x := by
  refine AWpA.seq (h.mono ?_)
  intro e y hq
  cases e with
  | normal =>
    obtain ⟨a, hP, ρ, he⟩ := hq
    exact fun c hc => AWp.weaken he (k a hP c hc)
  | _ => exact hq
theorem ACall.startA {g : FuncId} {fn : Func} {c : Code} {ac : ACode} {args : List AV} {H : List AObj} {R : AV → List AObj → Prop} {rs : List (Nat × Option (Bool × Nat))} {N nn : Nat} {H1 : List (Nat × AObj)} (hc : compC P N c = some (strip ac)) (hf : P.funcs[g]? = some fn) (hb : fn.body = some c) (hN0 : fn.ntmps = N) (hen : entersB P g = true)
    (hrs : fn.results.toList.mapM (resC P) = some rs) (hN : Nat.ble args.length N = true) (hnn : H.length = nn) (hz : zipI 0 H = H1)
    (h : AWpA P N (NN.plain nn) ac (RetPost (NN.plain nn) rs H R) (mk [] (args0 args) H1 gone0 nn)) : ACall P g args H R :=
  ACall.start hf hb hN0 hen hrs hN hnn hz (h c hc)
end
theorem AWpA.weakenE {P : Program} {N : Nat} {nn : NN} {Q : Exit → St → Prop} {x : St} {ac : ACode} {ρ : List Nat} {x0 : St} (e : Emb nn ρ x0 x) (h : AWpA P N nn ac Q x0) : AWpA P N nn ac Q x :=
  fun c hc => AWp.weaken e (h c hc)
theorem keepT_nil (b : Nat → AV) (T : List (Nat × AV)) : keepT b T [] = [] := rfl
theorem keepT_cons (b : Nat → AV) (T : List (Nat × AV)) (k : Nat) (ks : List Nat) : keepT b T (k :: ks) = (k, fT T b k) :: keepT b T ks := rfl
/-- An empty object that nobody has. -/
theorem AWp.dummy {P : Program} {N : Nat} {nn : NN} {Q : Exit → St → Prop} {c : Code} {T : List (Nat × AV)} {b : Nat → AV} {H : List (Nat × AObj)} {hb : Nat → AObj} {n : Nat} (h : AWp P N nn c Q (mk T b ((n, .cells false []) :: H) hb (n + 1))) : AWp P N nn c Q (mk T b H hb n) := by
  intro C B a w hn hs
  obtain ⟨⟨h1, h2, h3, h4, h5, h6, h7, hza, hzm⟩, h8, h9⟩ := hs
  have hbn : B n = none := h8 n (Nat.le_refl _)
  have hne : ∀ i, i ≠ n → fH ((n, .cells false []) :: H) hb i = fH H hb i := fun i hi => by
    have e : Nat.beq n i = false := by
      cases e : Nat.beq n i with
      | false => rfl
      | true => exact absurd (Nat.eq_of_beq_eq_true e).symm hi
    simp only [fH, e]
  have hob : ∀ i, OR B (fH ((n, .cells false []) :: H) hb i) (B i) w := fun i => by
    by_cases hi : i = n
    · subst hi; rw [hbn]; simp only [fH, Nat.beq_refl]; exact .inl ⟨rfl, rfl⟩
    · rw [hne i hi]; exact h4.obj i
  refine h C B a w hn ⟨⟨h1, h2, h3, ⟨hob, fun i j b1 n1 m hij ho hl hbi => ?_, h4.zr.keep rfl (fun _ _ _ => rfl) fun i b1 n1 ho hbi => ?_⟩, fun i b1 n1 ho hbi => ?_, h6, h7, hza, hzm⟩, fun k hk => h8 k (by simp only [Am.mk] at hk ⊢; omega), by simp only [Am.mk] at h9 ⊢; omega⟩
  · have hi : i ≠ n := fun e => by subst e; rw [hbn] at hbi; cases hbi
    by_cases hj : j = n
    · subst hj; rw [hbn]; simp
    · simp only [Am.mk] at ho hl
      rw [hne i hi] at ho
      rw [hne j hj] at hl
      exact h4.apart i j b1 n1 m hij ho hl hbi
  · have hi : i ≠ n := fun e => by subst e; rw [hbn] at hbi; cases hbi
    simp only [Am.mk] at ho
    rw [hne i hi] at ho
    exact h4.zr.free i b1 n1 ho hbi
  · have hi : i ≠ n := fun e => by subst e; rw [hbn] at hbi; cases hbi
    simp only [Am.mk] at ho
    rw [hne i hi] at ho
    exact h5 i b1 n1 ho hbi
/-- An empty slice: nil, or of no block that is known, or one of a block. -/
theorem AWp.nilcase {P : Program} {N : Nat} {nn : NN} {Q : Exit → St → Prop} {c : Code} {T : List (Nat × AV)} {b : Nat → AV} {H : List (Nat × AObj)} {hb : Nat → AObj} {n : Nat} (j : Nat) {i off k : Nat} (hj : fT T b j = .sl i off 0 k none)
    (h : AWp P N nn c Q (mk ((j, .val (.slice none 0 0)) :: T) b H hb n)) (h' : ∀ q, AWp P N nn c Q (mk ((j, .val (.slice (some q) 0 0)) :: T) b H hb n)) (h'' : ∀ cp, AWp P N nn c Q (mk ((j, .sl i off 0 k (some cp)) :: T) b H hb n)) : AWp P N nn c Q (mk T b H hb n) := by
  intro C B a w hn hs
  have hv := hs.sim.t j
  simp only [Am.mk] at hv
  rw [hj] at hv
  have go : ∀ x : AV, VR B x (a.tmps.getD j undef) → Sms C N B (mk ((j, x) :: T) b H hb n) a w := fun x hx => by
    obtain ⟨⟨h1, h2, h3, h4, h5, h6, h7, hza, hzm⟩, h8, h9⟩ := hs
    refine ⟨⟨h1, h2, fun q => ?_, h4, h5, h6, h7, hza, hzm⟩, h8, h9⟩
    simp only [Am.mk, fT]
    cases e : Nat.beq j q with
    | true => have := Nat.eq_of_beq_eq_true e; subst this; exact hx
    | false => exact h3 q
  have hv0 := hv
  simp only [VR] at hv
  rcases hv with ⟨_, _, q, hq⟩ | ⟨b1, n1, c1, o, h1, h2, h3, h4, h5, h6⟩
  · cases q with
    | none => exact h C B a w hn (go _ (by rw [vr_val]; exact hq))
    | some q => exact h' q C B a w hn (go _ (by rw [vr_val]; exact hq))
  · exact h'' c1 C B a w hn (go _ (by simp only [VR]; exact .inr ⟨b1, n1, c1, o, h1, h2, h3, h4, h5, fun m e => by cases e; rfl⟩))
theorem AWpA.dummy {P : Program} {N : Nat} {nn : NN} {Q : Exit → St → Prop} {ac : ACode} {T : List (Nat × AV)} {b : Nat → AV} {H : List (Nat × AObj)} {hb : Nat → AObj} {n : Nat} (h : AWpA P N nn ac Q (mk T b ((n, .cells false []) :: H) hb (n + 1))) : AWpA P N nn ac Q (mk T b H hb n) :=
  fun c hc => AWp.dummy (h c hc)
theorem AWpA.nilcase {P : Program} {N : Nat} {nn : NN} {Q : Exit → St → Prop} {ac : ACode} {T : List (Nat × AV)} {b : Nat → AV} {H : List (Nat × AObj)} {hb : Nat → AObj} {n : Nat} (j : Nat) {i off k : Nat} (hj : fT T b j = .sl i off 0 k none)
    (h : AWpA P N nn ac Q (mk ((j, .val (.slice none 0 0)) :: T) b H hb n)) (h' : ∀ q, AWpA P N nn ac Q (mk ((j, .val (.slice (some q) 0 0)) :: T) b H hb n)) (h'' : ∀ cp, AWpA P N nn ac Q (mk ((j, .sl i off 0 k (some cp)) :: T) b H hb n)) : AWpA P N nn ac Q (mk T b H hb n) :=
  fun c hc => AWp.nilcase j hj (h c hc) (fun q => h' q c hc) (fun cp => h'' cp c hc)
attribute [go_sem] Nat.reduceAdd Nat.reduceMul Nat.reduceSub Nat.reduceLT Nat.reduceLeDiff Nat.reduceEqDiff Int.reduceLT Int.reduceLE Int.reduceAdd Int.reduceSub Int.reduceNeg Int.reduceToNat Int.reduceEq Int.reduceBEq Int.reduceBNe Int.reduceMul reduceCtorEq
attribute [go_sem] keepS_mk0 keepS_mk1 keepT_nil keepT_cons numberA wrX
attribute [irreducible] AWpA
end Go.Am
/- Own theory, no program in sight: the walk's steps, their side conditions closed where they stand. -/
namespace Go.Am
open Go Go.RowKit
set_option linter.unusedVariables false
attribute [go_sem] List.length_nil List.length_cons List.drop_zero List.take_zero List.flatten_nil List.take_length List.length_append
theorem k0 (n : Nat) : n + 0 = n := rfl
/-- What bools say. -/
theorem BL : (∀ (p : Prop) [Decidable p], (decide p = true) = p) ∧ (∀ (p : Prop) [Decidable p], (decide p = false) = ¬p) ∧ (∀ b : Bool, (¬b = true) = (b = false)) ∧ (∀ b : Bool, (¬b = false) = (b = true)) ∧ (∀ b : Bool, ((!b) = true) = (b = false)) ∧ (∀ b : Bool, ((!b) = false) = (b = true)) ∧
    (∀ {α : Type} [BEq α] [LawfulBEq α] {a b : α}, (a == b) = true ↔ a = b) ∧ (∀ {α : Type} [BEq α] [LawfulBEq α] {a b : α}, (a != b) = true ↔ a ≠ b) ∧ (∀ {α : Type} [BEq α] [LawfulBEq α] {a b : α}, (a != b) = false ↔ a = b) ∧ (∀ {α : Type} [BEq α] [LawfulBEq α] {a b : α}, (a == b) = false ↔ a ≠ b) ∧
    (∀ {α : Type} (a b : α), (a ≠ b) = ¬(a = b)) ∧ (∀ a b : Bool, ((a && b) = true) = (a = true ∧ b = true)) ∧ (∀ a b : Bool, ((a || b) = true) = (a = true ∨ b = true)) ∧ (∀ {a b : Bool}, (a || b) = false ↔ a = false ∧ b = false) :=
  ⟨fun _ _ => decide_eq_true_eq, fun _ _ => propext decide_eq_false_iff_not, fun b => by cases b <;> simp, fun b => by cases b <;> simp, fun b => by cases b <;> simp, fun b => by cases b <;> simp,
   beq_iff_eq, bne_iff_ne, bne_eq_false_iff_eq, beq_eq_false_iff_ne, fun _ _ => rfl, fun a b => by simp, fun a b => by simp, Bool.or_eq_false_iff⟩
theorem cnd {C D : Prop} (k : D) (h : C := by first | omega | (simp only [go_sem]; done) | (simp; done) | (simp; omega) | assumption) : C ∧ D := ⟨h, k⟩
section
variable {P : Program} {N : Nat} {nn : NN} {Q : Exit → St → Prop}
theorem AWpA.cg {o : Opd} {y z : ACode} {t : Bool} {x : St} (h : CondP t (AWpA P N nn y Q x) (AWpA P N nn z Q x)) (hc : evO x.s.t o = .val (.bool t) := by simp (maxSteps := 9999999) (disch := omega) only [go_sem, k9]; rfl) : AWpA P N nn (.cond o y z) Q x := AWpA.condv hc h
theorem AWpA.rg {ops : List AOper} {E : List Nat} {F : List (Nat × Nat)} {live : List Nat} {dd : Bool} {wr : List Nat} {T : List (Nat × AV)} {b : Nat → AV} {H : List (Nat × AObj)} {hb : Nat → AObj} {n : Nat} {r : Prop × List (Nat × AV) × List (Nat × AObj) × Stop}
    (h : Runs P ⟨false, n, [], [], [], []⟩ b hb (fun x => Q .normal (keepS live dd x)) (n + 16 * ops.length) r)
    (hr : runL ⟨false, n, [], [], [], []⟩ b hb (numberA 0 ops) T H True = r := by simp (maxSteps := 9999999) (disch := omega) only [go_sem, k9]; rfl) : AWpA P N nn (.region false ops E F live dd wr []) Q (mk T b H hb n) := AWpA.region hr h
theorem AWpA.dg {ops tl : List AOper} {E : List Nat} {F : List (Nat × Nat)} {live : List Nat} {dd : Bool} {wr : List Nat} {T : List (Nat × AV)} {b : Nat → AV} {H : List (Nat × AObj)} {hb : Nat → AObj} {n : Nat} {R : List (Nat × AObj)} {r : Prop × List (Nat × AV) × List (Nat × AObj) × Stop} (X : List Nat) (L : List (Nat × Nat)) (hm : P.follows .mixedOrders = true)
    (h : Runs P ⟨true, n, R, E, F, L⟩ b hb (TailK P n ops.length tl fun x => Q .normal (keepS live dd x)) (n + 16 * (ops.length + tl.length)) r)
    (hLo : lOkB n F (ops ++ tl) L = true := by first | rfl | decide) (hRe : restr (X ++ wrX T b wr) H = R := by simp (maxSteps := 9999999) (disch := omega) only [go_sem, k9]; rfl)
    (hl : ltR n R := by simp (maxSteps := 9999999) (disch := omega) only [go_sem, k9]; first | done | trivial | fail)
    (hr : runL ⟨true, n, R, E, F, L⟩ b hb (numberA 0 ops) T H True = r := by simp (maxSteps := 9999999) (disch := omega) only [go_sem, k9]; rfl) : AWpA P N nn (.region true ops E F live dd wr tl) Q (mk T b H hb n) := AWpA.draw X L hm hLo hRe hl hr h
theorem TailK.tg {n k : Nat} {tl : List AOper} {K : St → Prop} {T : List (Nat × AV)} {b : Nat → AV} {H : List (Nat × AObj)} {hb : Nat → AObj} {n' : Nat} {r : Prop × List (Nat × AV) × List (Nat × AObj) × Stop}
    (h : Runs P ⟨false, n, [], [], [], []⟩ b hb K n' r) (hr : runL ⟨false, n, [], [], [], []⟩ b hb (numberA k tl) T H True = r := by simp (maxSteps := 9999999) (disch := omega) only [go_sem, k9]; rfl) : TailK P n k tl K (mk T b H hb n') := TailK.go hr h
theorem CallG.pg {n : Nat} {b : Nat → AV} {hb : Nat → AObj} {K : St → Prop} {n' : Nat} {i : Nat} {dst : Option Nat} {g : FuncId} {xs : List AV} {rest : List (Nat × AOper)} {T : List (Nat × AV)} {H : List (Nat × AObj)}
    {args : List AV} {Hc H1 : List AObj} {v : AV} {r : Prop × List (Nat × AV) × List (Nat × AObj) × Stop} (ids : List Nat) (hc : ACall P g args Hc (Det v H1))
    (h : Runs P ⟨false, n, [], [], [], []⟩ b hb K n' r)
    (hs : leAs xs (renL ids args) ∧ leOL (asForL Hc (ids.map (fH H hb))) (renOL ids Hc) ∧ ids.length = Hc.length ∧ aloneB ids Hc = true ∧ H1.length ≤ Hc.length + 16 ∧ ltAll ids (n + 16 * i) = true := by (try refine And.intro (leAs_of_eq rfl) ?_); (try refine And.intro (leOL_of_eq rfl) ?_); simp (maxSteps := 9999999) (disch := omega) only [go_sem, k9]; first | done | ((repeat' (first | rfl | (refine And.intro ?_ ?_))); first | done | fail))
    (hr : runL ⟨false, n, [], [], [], []⟩ b hb rest (dput dst (ren (ids ++ newIds (n + 16 * i) (H1.length - Hc.length)) v) T) (upsOf ids (n + 16 * i) Hc H1 ++ H) True = r := by simp (maxSteps := 9999999) (disch := omega) only [go_sem, k9]; rfl) : CallG P ⟨false, n, [], [], [], []⟩ b hb K n' i dst g xs rest T H := CallG.plain1 ids hc hs hr h
theorem CallG.dg {n : Nat} {R : List (Nat × AObj)} {E : List Nat} {F : List (Nat × Nat)} {L : List (Nat × Nat)} {b : Nat → AV} {hb : Nat → AObj} {K : St → Prop} {n' : Nat} {i : Nat} {dst : Option Nat} {g : FuncId} {xs : List AV} {rest : List (Nat × AOper)} {T : List (Nat × AV)} {H : List (Nat × AObj)}
    {args : List AV} {Hc H1 : List AObj} {v : AV} {r : Prop × List (Nat × AV) × List (Nat × AObj) × Stop} (ids : List Nat) (hc : ACall P g args Hc (Det v H1))
    (h : Runs P ⟨true, n, R, E, F, L⟩ b hb K n' r)
    (hs : leAs xs (renL ids args) ∧ leOL (asForL Hc (ids.map (fH H hb))) (renOL ids Hc) ∧ ids.length = Hc.length ∧ aloneB ids Hc = true ∧ H1.length ≤ Hc.length + 16 ∧ ltAll ids (n + 16 * i) = true ∧
      noneIn (usOf n L F i) ids ∧ noneIn (usOf n L F i) ((upsOf ids (n + 16 * i) Hc H1).map (·.1)) ∧ okU R (upsOf ids (n + 16 * i) Hc H1) ∧ ltR n R ∧ subR (upsOf ids (n + 16 * i) Hc H1 ++ H) hb R := by (try refine And.intro (leAs_of_eq rfl) ?_); (try refine And.intro (leOL_of_eq rfl) ?_); simp (maxSteps := 9999999) (disch := omega) only [go_sem, k9]; first | done | ((repeat' (first | rfl | (refine And.intro ?_ ?_))); first | done | fail))
    (hr : runL ⟨true, n, R, E, F, L⟩ b hb rest (dput dst (ren (ids ++ newIds (n + 16 * i) (H1.length - Hc.length)) v) T) (upsOf ids (n + 16 * i) Hc H1 ++ H) True = r := by simp (maxSteps := 9999999) (disch := omega) only [go_sem, k9]; rfl) : CallG P ⟨true, n, R, E, F, L⟩ b hb K n' i dst g xs rest T H := CallG.draw1 ids hc hs hr h
theorem Runs.gkt {md : Md} {b : Nat → AV} {hb : Nat → AObj} {K : St → Prop} {n' : Nat} {g w : Bool} {i : Nat} {o : AOper} {l : List (Nat × AOper)} {T : List (Nat × AV)} {H : List (Nat × AObj)} {C : Prop}
    (h : g = true → Runs P md b hb K n' (gateL md b hb (some (true == w)) i o l T H C)) (hg : g = true := by assumption) : Runs P md b hb K n' (gateL md b hb (some (g == w)) i o l T H C) := Runs.kt hg h
theorem Runs.gkf {md : Md} {b : Nat → AV} {hb : Nat → AObj} {K : St → Prop} {n' : Nat} {g w : Bool} {i : Nat} {o : AOper} {l : List (Nat × AOper)} {T : List (Nat × AV)} {H : List (Nat × AObj)} {C : Prop}
    (h : g = false → Runs P md b hb K n' (gateL md b hb (some (false == w)) i o l T H C)) (hg : g = false := by assumption) : Runs P md b hb K n' (gateL md b hb (some (g == w)) i o l T H C) := Runs.kf hg h
theorem Runs.gnt {md : Md} {b : Nat → AV} {hb : Nat → AObj} {K : St → Prop} {n' : Nat} {g w : Bool} {i : Nat} {o : AOper} {l : List (Nat × AOper)} {T : List (Nat × AV)} {H : List (Nat × AObj)} {C : Prop}
    (h : (!g) = true → Runs P md b hb K n' (gateL md b hb (some (true == w)) i o l T H C)) (hg : g = false := by assumption) : Runs P md b hb K n' (gateL md b hb (some ((!g) == w)) i o l T H C) := Runs.nt hg h
theorem Runs.gnf {md : Md} {b : Nat → AV} {hb : Nat → AObj} {K : St → Prop} {n' : Nat} {g w : Bool} {i : Nat} {o : AOper} {l : List (Nat × AOper)} {T : List (Nat × AV)} {H : List (Nat × AObj)} {C : Prop}
    (h : (!g) = false → Runs P md b hb K n' (gateL md b hb (some (false == w)) i o l T H C)) (hg : g = true := by assumption) : Runs P md b hb K n' (gateL md b hb (some ((!g) == w)) i o l T H C) := Runs.nf hg h
theorem CondP.gt {t : Bool} {A B : Prop} (k : t = true → A) (h : t = true := by assumption) : CondP t A B := CondP.ht h k
theorem CondP.gf {t : Bool} {A B : Prop} (k : t = false → B) (h : t = false := by assumption) : CondP t A B := CondP.hf h k
theorem CondP.gnt {t : Bool} {A B : Prop} (k : (!t) = true → A) (h : t = false := by assumption) : CondP (!t) A B := CondP.nt h k
theorem CondP.gnf {t : Bool} {A B : Prop} (k : (!t) = false → B) (h : t = true := by assumption) : CondP (!t) A B := CondP.nf h k
/-- A contract, and which ids its footprint has; which ids a drawn region writes. -/
def Arm (_ : List Nat) (p : Prop) : Prop := p
theorem Arm.mk (ids : List Nat) {p : Prop} (h : p) : Arm ids p := h
def Xs (_ : List Nat) (_ : List (Nat × Nat)) : Prop := True
theorem Xs.mk (X : List Nat) (L : List (Nat × Nat)) : Xs X L := trivial
def Ends (_ : List Nat) : Prop := True
theorem Ends.mk (ρ : List Nat) : Ends ρ := trivial
theorem AWpA.dx {ops tl : List AOper} {E : List Nat} {F : List (Nat × Nat)} {live : List Nat} {dd : Bool} {wr : List Nat} {T : List (Nat × AV)} {b : Nat → AV} {H : List (Nat × AObj)} {hb : Nat → AObj} {n : Nat} {R : List (Nat × AObj)} {r : Prop × List (Nat × AV) × List (Nat × AObj) × Stop} {X : List Nat} {L : List (Nat × Nat)} (_ : Xs X L) (hm : P.follows .mixedOrders = true)
    (h : Runs P ⟨true, n, R, E, F, L⟩ b hb (TailK P n ops.length tl fun x => Q .normal (keepS live dd x)) (n + 16 * (ops.length + tl.length)) r)
    (hLo : lOkB n F (ops ++ tl) L = true := by first | rfl | decide) (hRe : restr (X ++ wrX T b wr) H = R := by simp (maxSteps := 9999999) (disch := omega) only [go_sem, k9]; rfl)
    (hl : ltR n R := by simp (maxSteps := 9999999) (disch := omega) only [go_sem, k9]; first | done | trivial | fail)
    (hr : runL ⟨true, n, R, E, F, L⟩ b hb (numberA 0 ops) T H True = r := by simp (maxSteps := 9999999) (disch := omega) only [go_sem, k9]; rfl) : AWpA P N nn (.region true ops E F live dd wr tl) Q (mk T b H hb n) := AWpA.draw X L hm hLo hRe hl hr h
theorem CallG.pa {n : Nat} {b : Nat → AV} {hb : Nat → AObj} {K : St → Prop} {n' : Nat} {i : Nat} {dst : Option Nat} {g : FuncId} {xs : List AV} {rest : List (Nat × AOper)} {T : List (Nat × AV)} {H : List (Nat × AObj)}
    {args : List AV} {Hc H1 : List AObj} {v : AV} {r : Prop × List (Nat × AV) × List (Nat × AObj) × Stop} {ids : List Nat} (hc : Arm ids (ACall P g args Hc (Det v H1)))
    (h : Runs P ⟨false, n, [], [], [], []⟩ b hb K n' r)
    (hs : leAs xs (renL ids args) ∧ leOL (asForL Hc (ids.map (fH H hb))) (renOL ids Hc) ∧ ids.length = Hc.length ∧ aloneB ids Hc = true ∧ H1.length ≤ Hc.length + 16 ∧ ltAll ids (n + 16 * i) = true := by (try refine And.intro (leAs_of_eq rfl) ?_); (try refine And.intro (leOL_of_eq rfl) ?_); simp (maxSteps := 9999999) (disch := omega) only [go_sem, k9]; first | done | ((repeat' (first | rfl | (refine And.intro ?_ ?_))); first | done | fail))
    (hr : runL ⟨false, n, [], [], [], []⟩ b hb rest (dput dst (ren (ids ++ newIds (n + 16 * i) (H1.length - Hc.length)) v) T) (upsOf ids (n + 16 * i) Hc H1 ++ H) True = r := by simp (maxSteps := 9999999) (disch := omega) only [go_sem, k9]; rfl) : CallG P ⟨false, n, [], [], [], []⟩ b hb K n' i dst g xs rest T H := CallG.plain1 ids hc hs hr h
theorem CallG.da {n : Nat} {R : List (Nat × AObj)} {E : List Nat} {F : List (Nat × Nat)} {L : List (Nat × Nat)} {b : Nat → AV} {hb : Nat → AObj} {K : St → Prop} {n' : Nat} {i : Nat} {dst : Option Nat} {g : FuncId} {xs : List AV} {rest : List (Nat × AOper)} {T : List (Nat × AV)} {H : List (Nat × AObj)}
    {args : List AV} {Hc H1 : List AObj} {v : AV} {r : Prop × List (Nat × AV) × List (Nat × AObj) × Stop} {ids : List Nat} (hc : Arm ids (ACall P g args Hc (Det v H1)))
    (h : Runs P ⟨true, n, R, E, F, L⟩ b hb K n' r)
    (hs : leAs xs (renL ids args) ∧ leOL (asForL Hc (ids.map (fH H hb))) (renOL ids Hc) ∧ ids.length = Hc.length ∧ aloneB ids Hc = true ∧ H1.length ≤ Hc.length + 16 ∧ ltAll ids (n + 16 * i) = true ∧
      noneIn (usOf n L F i) ids ∧ noneIn (usOf n L F i) ((upsOf ids (n + 16 * i) Hc H1).map (·.1)) ∧ okU R (upsOf ids (n + 16 * i) Hc H1) ∧ ltR n R ∧ subR (upsOf ids (n + 16 * i) Hc H1 ++ H) hb R := by (try refine And.intro (leAs_of_eq rfl) ?_); (try refine And.intro (leOL_of_eq rfl) ?_); simp (maxSteps := 9999999) (disch := omega) only [go_sem, k9]; first | done | ((repeat' (first | rfl | (refine And.intro ?_ ?_))); first | done | fail))
    (hr : runL ⟨true, n, R, E, F, L⟩ b hb rest (dput dst (ren (ids ++ newIds (n + 16 * i) (H1.length - Hc.length)) v) T) (upsOf ids (n + 16 * i) Hc H1 ++ H) True = r := by simp (maxSteps := 9999999) (disch := omega) only [go_sem, k9]; rfl) : CallG P ⟨true, n, R, E, F, L⟩ b hb K n' i dst g xs rest T H := CallG.draw1 ids hc hs hr h
theorem Ret.dk {rs : List (Nat × Option (Bool × Nat))} {H0 : List AObj} {T : List (Nat × AV)} {b : Nat → AV} {H : List (Nat × AObj)} {hb : Nat → AObj} {n : Nat} (ρ : List Nat) {v : AV} {H' : List AObj} {c : Prop} {vs : List AV} {e : Exit} (he : e = .ret ∨ e = .normal := by first | exact .inl rfl | exact .inr rfl)
    (hv : resAll ⟨fT T b, fH H hb⟩ rs = some (c, vs) := by simp (maxSteps := 9999999) (disch := omega) only [go_sem, k9]; rfl) (h : c ∧ leA (tupOf vs) (ren ρ v) ∧ sameR ρ H hb ρ H' ∧ aloneB ρ H' = true ∧ H'.length = ρ.length ∧ ancB ρ nn.n = true ∧ Nat.ble H0.length H'.length = true ∧ roOk H0 H' := by simp (maxSteps := 9999999) (disch := omega) only [go_sem, k9]; (try (repeat' (first | done | trivial | rfl | exact leAs_rfl _ | decide | (refine And.intro ?_ ?_) | (simp; done) | omega | (simp; decide))))) : RetPost nn rs H0 (Det v H') e (Am.mk T b H hb n) := Ret.det ρ he hv h
theorem Back.tk {α : Type} {T0 : α → List (Nat × AV)} {H0 : α → List AObj} {μ : α → Nat} {P0 : α → Prop} {a : α} {T : List (Nat × AV)} {b : Nat → AV} {H : List (Nat × AObj)} {hb : Nat → AObj} {n : Nat} (a' : α) (ρ : List Nat) (hP : P0 a') (hm : μ a' < μ a := by (try simp (maxSteps := 9999999) (disch := omega) only [go_sem, k9]); first | done | omega)
    (h : sameT ρ T b (T0 a') ∧ sameR ρ H hb ρ (H0 a') ∧ aloneB ρ (H0 a') = true ∧ (H0 a').length = ρ.length ∧ ancB ρ nn.n = true := by simp (maxSteps := 9999999) (disch := omega) only [go_sem, k9]; (try (repeat' (first | done | trivial | rfl | exact leAs_rfl _ | decide | (refine And.intro ?_ ?_) | (simp; done) | omega | (simp; decide))))) : Back nn T0 H0 μ P0 a (mk T b H hb n) := Back.to a' ρ hm hP h
theorem Ret.ek {rs : List (Nat × Option (Bool × Nat))} {H0 : List AObj} {T : List (Nat × AV)} {b : Nat → AV} {H : List (Nat × AObj)} {hb : Nat → AObj} {n : Nat} {ρ : List Nat} (_ : Ends ρ) {v : AV} {H' : List AObj} {c : Prop} {vs : List AV} {e : Exit} (he : e = .ret ∨ e = .normal := by first | exact .inl rfl | exact .inr rfl)
    (hv : resAll ⟨fT T b, fH H hb⟩ rs = some (c, vs) := by simp (maxSteps := 9999999) (disch := omega) only [go_sem, k9]; rfl) (h : c ∧ leA (tupOf vs) (ren ρ v) ∧ sameR ρ H hb ρ H' ∧ aloneB ρ H' = true ∧ H'.length = ρ.length ∧ ancB ρ nn.n = true ∧ Nat.ble H0.length H'.length = true ∧ roOk H0 H' := by simp (maxSteps := 9999999) (disch := omega) only [go_sem, k9]; (try (repeat' (first | done | trivial | rfl | exact leAs_rfl _ | decide | (refine And.intro ?_ ?_) | (simp; done) | omega | (simp; decide))))) : RetPost nn rs H0 (Det v H') e (Am.mk T b H hb n) := Ret.det ρ he hv h
end
/-- What is left, hidden from the walk's own steps. -/
structure Hold (q : Prop) : Prop where
  k : q
/-- All steps, till one goal is left, or none. -/
theorem goK {p q : Prop} (k : q) (h : Hold q → p := by intro kk; (repeat' (first | refine AWpA.seq ?_ | refine AWpA.block ?_ | (with_reducible refine CondP.tt ?_) | (with_reducible refine CondP.ff ?_) | refine AWpA.cg ?_ | ((first | refine AWpA.rg ?_ | refine AWpA.dx x9 follows ?_ | refine AWpA.dg [] [] follows ?_ | refine TailK.tg ?_ | refine AWpA.skip ?_ | refine AWpA.exit ?_ | refine AWpA.ret ?_ | (with_reducible refine ARoundsA.succ ?_) | ((first | refine Runs.gkt (fun h9 => ?_) | refine Runs.gkf (fun h9 => ?_) | refine Runs.gnt (fun h9 => ?_) | refine Runs.gnf (fun h9 => ?_) | refine CondP.gt (fun h9 => ?_) | refine CondP.gf (fun h9 => ?_) | refine CondP.gnt (fun h9 => ?_) | refine CondP.gnf (fun h9 => ?_)); (try simp only [h9]); clear h9) | refine CallG.pa a1 ?_ | refine CallG.pa a2 ?_ | refine CallG.pa a3 ?_ | refine CallG.pa a4 ?_ | refine CallG.pa a5 ?_ | refine CallG.pa a6 ?_ | refine CallG.pa a7 ?_ | refine CallG.pa a8 ?_ | refine CallG.pa a9 ?_ | refine CallG.da a1 ?_ | refine CallG.da a2 ?_ | refine CallG.da a3 ?_ | refine CallG.da a4 ?_ | refine CallG.da a5 ?_ | refine CallG.da a6 ?_ | refine CallG.da a7 ?_ | refine CallG.da a8 ?_ | refine CallG.da a9 ?_); (try simp (maxSteps := 9999999) (disch := omega) only [go_sem, k9]); (try refine cnd ?_)) | ((first | refine CondP.split (fun hif => ?_) (fun hif => ?_) | refine Runs.part (fun hif => ?_) (fun hif => ?_)) <;> ((try simp only [hif]); (try simp only [BL] at hif); (try (have h9 : _ = true := hif; simp only [h9])); (try (have h9 : _ = false := hif; simp only [h9])); (try simp (maxSteps := 9999999) (disch := omega) only [go_sem, k9]); (try refine cnd ?_); (try (exfalso; omega; done)))))); first | done | exact kk.k) : p := h ⟨k⟩
/-- All steps, each way to its end. -/
theorem goE {p : Prop} (h : p := by (repeat' (first | refine AWpA.seq ?_ | refine AWpA.block ?_ | (with_reducible refine CondP.tt ?_) | (with_reducible refine CondP.ff ?_) | refine AWpA.cg ?_ | ((first | refine AWpA.rg ?_ | refine AWpA.dx x9 follows ?_ | refine AWpA.dg [] [] follows ?_ | refine TailK.tg ?_ | refine AWpA.skip ?_ | refine AWpA.exit ?_ | refine AWpA.ret ?_ | (with_reducible refine ARoundsA.succ ?_) | ((first | refine Runs.gkt (fun h9 => ?_) | refine Runs.gkf (fun h9 => ?_) | refine Runs.gnt (fun h9 => ?_) | refine Runs.gnf (fun h9 => ?_) | refine CondP.gt (fun h9 => ?_) | refine CondP.gf (fun h9 => ?_) | refine CondP.gnt (fun h9 => ?_) | refine CondP.gnf (fun h9 => ?_)); (try simp only [h9]); clear h9) | refine CallG.pa a1 ?_ | refine CallG.pa a2 ?_ | refine CallG.pa a3 ?_ | refine CallG.pa a4 ?_ | refine CallG.pa a5 ?_ | refine CallG.pa a6 ?_ | refine CallG.pa a7 ?_ | refine CallG.pa a8 ?_ | refine CallG.pa a9 ?_ | refine CallG.da a1 ?_ | refine CallG.da a2 ?_ | refine CallG.da a3 ?_ | refine CallG.da a4 ?_ | refine CallG.da a5 ?_ | refine CallG.da a6 ?_ | refine CallG.da a7 ?_ | refine CallG.da a8 ?_ | refine CallG.da a9 ?_); (try simp (maxSteps := 9999999) (disch := omega) only [go_sem, k9]); (try refine cnd ?_)) | ((first | refine CondP.split (fun hif => ?_) (fun hif => ?_) | refine Runs.part (fun hif => ?_) (fun hif => ?_)) <;> ((try simp only [hif]); (try simp only [BL] at hif); (try (have h9 : _ = true := hif; simp only [h9])); (try (have h9 : _ = false := hif; simp only [h9])); (try simp (maxSteps := 9999999) (disch := omega) only [go_sem, k9]); (try refine cnd ?_); (try (exfalso; omega; done)))))); (all_goals first | exact Ret.ek e9 | (exfalso; omega) | (exfalso; simp_all; done))) : p := h
end Go.Am
