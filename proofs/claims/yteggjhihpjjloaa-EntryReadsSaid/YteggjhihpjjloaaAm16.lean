/- Own theory, no program in sight: regions of code, and code. -/
import Derived.Test.YteggjhihpjjloaaAm15
namespace Go.Am
set_option linter.unusedSimpArgs false
set_option linter.unusedVariables false
set_option maxHeartbeats 4000000
open Go Go.RowKit
set_option linter.unusedVariables false
set_option linter.unusedSimpArgs false

def compOp (P : Program) (o : Oper) : AOp × List Opd :=
  match compileOp P o with
  | some x => x
  | none => (.other, [])
def compO (P : Program) (N : Nat) (ops : Array Oper) (o : Oper) : Option AOper :=
  if (match o.dst with | some d => Nat.blt d N | none => true) then some ⟨o.dst, (compOp P o).1, (compOp P o).2, o.guard.map fun g => ((ops[g.1]?).bind (·.dst), g.2)⟩ else none
def compL (P : Program) (N : Nat) (ops : Array Oper) : List Oper → Option (List AOper)
  | [] => some []
  | o :: l => match compO P N ops o, compL P N ops l with
    | some x, some r => some (x :: r)
    | _, _ => none
def compOps (P : Program) (N : Nat) (ops : Array Oper) : Option (List AOper) := compL P N ops ops.toList

section
variable {P : Program} {N : Nat}

theorem compL_get {ops : Array Oper} : ∀ {l : List Oper} {r : List AOper}, compL P N ops l = some r → l.length = r.length ∧ ∀ (i : Nat) (o : Oper), l[i]? = some o → ∃ x, r[i]? = some x ∧ compO P N ops o = some x
  | [], r, h => by simp only [compL, Option.some.injEq] at h; subst h; exact ⟨rfl, fun i o e => by simp at e⟩
  | o :: l, r, h => by
    simp only [compL] at h
    split at h
    · rename_i x r' h1 h2
      cases h
      obtain ⟨e1, e2⟩ := compL_get h2
      refine ⟨by simp [e1], fun i o' e => ?_⟩
      cases i with
      | zero => simp at e; subst e; exact ⟨x, rfl, h1⟩
      | succ i => simpa using e2 i o' (by simpa using e)
    · cases h

structure Inv (md : Md) (D : Nat → Prop) (C : Ctx) (N : Nat) (B : BM) (s : S) (a : Act) (w : World) : Prop where
  sim : Sim C N B s a w
  ok : md.ok s.h
  fr : ∀ k, md.base ≤ k → ¬ D ((k - md.base) / 16) → B k = none
  base : C.n ≤ md.base
  rl : ∀ k, md.base ≤ k → (findH md.R k).live = false

theorem wants_ok {ops : Array Oper} {o : Oper} {B : BM} {t : Nat → AV} {a : Act} (ht : ∀ j, VR B (t j) (a.tmps.getD j undef)) {b : Bool} (h : wants (o.guard.map fun g => ((ops[g.1]?).bind (·.dst), g.2)) t = some b) :
    Region.wanted o (yielded ops a.tmps) = b := by
  unfold Region.wanted
  cases hg : o.guard with
  | none => rw [hg] at h; simp [wants] at h; simp [h]
  | some g =>
    obtain ⟨j, want⟩ := g
    rw [hg] at h
    simp only [Option.map_some] at h
    unfold yielded
    cases hd : (ops[j]?).bind (·.dst) with
    | none => rw [hd] at h; simp [wants] at h
    | some d =>
      rw [hd] at h
      simp only [wants] at h
      have hj := ht d
      have hcell : a.tmps.getD d undef = (a.tmps[d]?).getD undef := by simp [Array.getD_eq_getD_getElem?]
      rw [hcell] at hj
      simp only [hd, Option.bind_some]
      split at h
      · rename_i x e
        rw [e, vr_val] at hj
        simp only [Option.some.injEq] at h
        subst h
        cases hc : a.tmps[d]? with
        | none => rw [hc] at hj; simp [undef] at hj
        | some v => rw [hc] at hj; simp at hj; subst hj; cases x <;> cases want <;> simp only [hc] <;> rfl
      · rename_i x e
        rw [e, vr_val] at hj
        simp only [Option.some.injEq] at h
        subst h
        cases hc : a.tmps[d]? with
        | none => simp only [hc]; rfl
        | some v => rw [hc] at hj; simp at hj; subst hj; simp only [hc]; rfl
      · cases h

theorem Mine.up {C : Ctx} {B : BM} {s : S} {a : Act} {w : World} (hs : Sim C N B s a w) {b : Nat} (h : Mine B s.h w b) : C.mine b := by
  rcases h with h | ⟨i, n, h1, h2⟩
  · exact C.new b (Nat.le_trans hs.kept.size h)
  · exact hs.mine i b n h1 h2

theorem inv_step {md : Md} {D : Nat → Prop} {C : Ctx} {B : BM} {s : S} {a : Act} {w : World} {i : Nat} (hi : Inv md D C N B s a w) (hD : ¬ D i) {dst : Option Nat} (hd : ∀ d, dst = some d → d < N)
    {v : AV} {ups : List (Nat × AObj)} {r : Value} {w' : World} (hres : EffRes B s.h w (md.id i) v ups r w') (hok : md.ok (updH s.h ups)) :
    ∃ B', Inv md (fun j => D j ∨ j = i) C N B' ⟨put s.t dst v, updH s.h ups⟩ (a.put dst r) w' := by
  obtain ⟨B', h1, h2, h3, h4, h5, h6⟩ := hres
  have hs := hi.sim
  refine ⟨B', ⟨by cases dst <;> simp [Act.put, hs.size], by cases dst <;> exact hs.dfr, put_rel hs.size hd (fun j => (hs.t j).mono h1) h2, h3, fun k b n hk hb => Mine.up hs (h5 k b n hk hb),
    hs.kept.trans (h4.mono' fun b hb => Mine.up hs hb) (fun _ _ h => h), fun k hk => ?_⟩, hok, fun k hk hn => ?_, hi.base, hi.rl⟩
  · rw [← hs.anc k hk]
    cases hb : B k with
    | some p => exact h1 k p hb
    | none =>
      cases hb' : B' k with
      | none => rfl
      | some p =>
        exfalso
        rcases h6 k (by rw [hb']; simp) with h | ⟨h, _⟩
        · exact h hb
        · have := hi.base; unfold Md.id at h; omega
  · have hn1 : ¬ D ((k - md.base) / 16) := fun h => hn (.inl h)
    have hn2 : (k - md.base) / 16 ≠ i := fun h => hn (.inr h)
    have := hi.fr k hk hn1
    cases hb' : B' k with
    | none => rfl
    | some p =>
      exfalso
      rcases h6 k (by rw [hb']; simp) with h | ⟨h, h'⟩
      · exact h this
      · unfold Md.id at h h'
        apply hn2
        omega

theorem step_ok {md : Md} {D : Nat → Prop} {C : Ctx} {B : BM} {s : S} {a : Act} {w : World} {ops : Array Oper} {i : Nat} {o : Oper} {ao : AOper} {K : S → Prop} {Q : Exit → Act → World → Prop}
    (ho : ops[i]? = some o) (hc : compO P N ops o = some ao) (hi : Inv md D C N B s a w) (hD : ¬ D i) (h : Step P md i ao K s) :
    wpOp P ops Q i (fun a' w' => ∃ B' s', K s' ∧ Inv md (fun j => D j ∨ j = i) C N B' s' a' w') a w := by
  have hs := hi.sim
  unfold compO at hc
  have hco : compileOp P o = some (compOp P o) ∨ (compOp P o).1 = .other := by
    unfold compOp
    cases h : compileOp P o with
    | some x => exact .inl rfl
    | none => exact .inr rfl
  generalize compOp P o = ox at hc hco
  obtain ⟨op, xs⟩ := ox
  · by_cases hdst : (match o.dst with | some d => Nat.blt d N | none => true) = true
    · rw [if_pos hdst] at hc
      cases hc
      have hd : ∀ d, o.dst = some d → d < N := fun d e => by rw [e] at hdst; simpa using hdst
      have hfr : ∀ k, md.id i ≤ k → k < md.id i + 16 → B k = none := fun k h1 h2 => by
        unfold Md.id at h1 h2
        refine hi.fr k (by omega) ?_
        rw [show (k - md.base) / 16 = i by omega]
        exact hD
      unfold wpOp
      simp only [ho]
      unfold Step at h
      simp only at h
      split at h
      · exact h.elim
      · rename_i hw
        rw [wants_ok hs.t hw]
        simp only [Bool.false_eq_true, if_false]
        obtain ⟨B', hinv⟩ := inv_step hi hD hd (v := .val undef) (ups := []) (r := undef) (res_same hs.hr (by rw [vr_val])) hi.ok
        exact ⟨B', _, h, hinv⟩
      · rename_i hw
        rw [wants_ok hs.t hw]
        simp only [if_true]
        refine .inl ?_
        have hcomp : compileOp P o = some (op, xs) := by
          rcases hco with h' | h'
          · exact h'
          · exfalso
            simp only at h'
            subst h'
            split at h
            · obtain ⟨ids, out, hspec, _⟩ := h
              simp [Spec, effD, quiet] at hspec
            · obtain ⟨c, v, ups, hq, _⟩ := h
              simp [simple, isFresh, quiet] at hq
        split at h
        · -- an effect
          obtain ⟨ids, out, hspec, hu, hne, hk⟩ := h
          refine Oper.wp_mono (fun a' w' hleft => ?_) (eff_wp (w := w) (Q := Q) hs.hr hfr hcomp hs.t hspec)
          obtain ⟨v, ups, r, hout, rfl, hres⟩ := hleft
          obtain ⟨_, hok, hK⟩ := hk v ups hout
          obtain ⟨B', hinv⟩ := inv_step hi hD hd hres hok
          exact ⟨B', _, hK, hinv⟩
        · obtain ⟨c, v, ups, hq, hcc, hK⟩ := h
          unfold simple at hq
          split at hq
          · rename_i hfresh
            cases hfx : fresh op (xs.map (evO s.t)) (md.id i) with
            | none => rw [hfx] at hq; cases hq
            | some q =>
              rw [hfx] at hq
              cases hq
              obtain ⟨r, w', h1, h2⟩ := fresh_ok hs.hr hcomp hs.t (hfr _ (Nat.le_refl _) (by omega)) hfx hcc
              unfold Oper.wp
              rw [h1]
              have hok : md.ok (updH s.h [(md.id i, q.2.2)]) := by
                intro hdr k hl
                have e := hi.ok hdr k hl
                have : k ≠ md.id i := fun e' => by
                  rw [hi.rl k (by rw [e']; unfold Md.id; omega)] at hl
                  cases hl
                simp only [updH]
                rw [upd_ne _ _ this]
                exact e
              obtain ⟨B', hinv⟩ := inv_step hi hD hd h2 hok
              exact ⟨B', _, hK, hinv⟩
          · generalize hob : lookO (md.look s.h) (rid op (xs.map (evO s.t))) = ob at hq
            cases hqx : quiet op (xs.map (evO s.t)) ob with
            | none => rw [hqx] at hq; cases hq
            | some q =>
              rw [hqx] at hq
              cases hq
              obtain ⟨r, h1, h2⟩ := quiet_ok (w := w) hcomp hs.t (ob := ob) (fun j hj => by
                rw [hj] at hob
                subst hob
                unfold lookO Md.look
                simp only
                cases hdr : md.draw with
                | false => exact hs.hr.obj j
                | true =>
                  simp only [cond_true]
                  cases hl : (findH md.R j).live with
                  | true => rw [← hi.ok hdr j hl]; exact hs.hr.obj j
                  | false => cases hg : findH md.R j <;> rw [hg] at hl <;> first | trivial | cases hl) hqx hcc
              unfold Oper.wp
              rw [h1]
              obtain ⟨B', hinv⟩ := inv_step hi hD hd (res_same hs.hr h2) hi.ok
              exact ⟨B', _, hK, hinv⟩
    · rw [if_neg hdst] at hc; cases hc

theorem Inv.mono {md : Md} {D D' : Nat → Prop} {C : Ctx} {B : BM} {s : S} {a : Act} {w : World} (h : Inv md D C N B s a w) (hd : ∀ j, D j → D' j) : Inv md D' C N B s a w :=
  ⟨h.sim, h.ok, fun k hk hn => h.fr k hk fun e => hn (hd _ e), h.base, h.rl⟩

theorem wpOps_of {md : Md} {C : Ctx} {ops : Array Oper} {aops : List AOper} {K : S → Prop} {Q : Exit → Act → World → Prop} (hc : compOps P N ops = some aops)
    (hQ : ∀ B s a w, K s → Inv md (fun j => j < ops.size) C N B s a w → Q .normal a w) :
    ∀ (m k : Nat) (B : BM) (s : S) (a : Act) (w : World), k + m = ops.size → runP P md (numberA k (aops.drop k)) K s → Inv md (fun j => j < k) C N B s a w → wpOps P ops Q (List.range' k m) a w := by
  obtain ⟨hlen, hget⟩ := compL_get hc
  intro m
  induction m with
  | zero =>
    intro k B s a w hk h hi
    have : aops.drop k = [] := List.drop_of_length_le (by rw [← hlen]; simp; omega)
    rw [this] at h
    exact hQ B s a w h (hi.mono fun j hj => by omega)
  | succ m ih =>
    intro k B s a w hk h hi
    have hks : k < ops.size := by omega
    obtain ⟨ao, h1, h2⟩ := hget k ops[k] (by simp [hks])
    have hkl : k < aops.length := by rw [← hlen]; simpa using hks
    rw [List.drop_eq_getElem_cons hkl] at h
    have hao : aops[k] = ao := by rw [List.getElem?_eq_getElem hkl] at h1; cases h1; rfl
    rw [hao] at h
    simp only [numberA, runP] at h
    rw [List.range'_succ, wpOps_cons]
    refine wpOp_mono (fun a' w' ⟨B', s', hK, hinv⟩ => ih (k + 1) B' s' a' w' (by omega) hK (hinv.mono fun j hj => ?_)) (step_ok (show ops[k]? = some ops[k] by simp [hks]) h2 hi (by omega) h)
    rcases hj with hj | hj <;> omega

theorem Inv.tail {md : Md} {D : Nat → Prop} {C : Ctx} {B : BM} {s : S} {a : Act} {w : World} (h : Inv md D C N B s a w) : Inv md.tail D C N B s a w :=
  ⟨h.sim, fun hd => (by cases hd), h.fr, h.base, fun _ _ => rfl⟩
theorem Inv.back {md : Md} (hR : ∀ k, md.base ≤ k → (findH md.R k).live = false) {D : Nat → Prop} {C : Ctx} {B : BM} {s : S} {a : Act} {w : World} (h : Inv md.tail D C N B s a w) (hok : md.ok s.h) : Inv md D C N B s a w :=
  ⟨h.sim, hok, h.fr, h.base, hR⟩
theorem wpAny_of {md : Md} (hR : ∀ k, md.base ≤ k → (findH md.R k).live = false) {late : Nat} {C : Ctx} {mo : Region.Mode} {ops : Array Oper} {aops : List AOper} {K : S → Prop} {Q : Exit → Act → World → Prop} (hc : compOps P N ops = some aops)
    (hQ : ∀ B s a w, K s → Inv md.tail (fun j => j < ops.size) C N B s a w → Q .normal a w) :
    ∀ (fuel : Nat) (listed : Array Bool) (B : BM) (s : S) (a : Act) (w : World), listed.size = ops.size → (∀ j, late ≤ j → listed.getD j false = true → ∀ i, i < j → listed.getD i false = true) → anyP P mo ops aops md late K fuel listed s →
      Inv md.tail (fun j => listed.getD j false = true) C N B s a w → ((∀ j, late ≤ j → listed.getD j false = false) → md.ok s.h) → wpAny P mo ops Q fuel listed a w := by
  obtain ⟨hlen, hget⟩ := compL_get hc
  have top : ∀ {listed : Array Bool} {B s a w}, listed.size = ops.size → Inv md.tail (fun j => listed.getD j false = true) C N B s a w → Inv md.tail (fun j => j < ops.size) C N B s a w := fun {listed B s a w} hsz hi => hi.mono fun j hj => by
    rcases Nat.lt_or_ge j listed.size with h | h
    · omega
    · simp [Array.getElem?_eq_none h] at hj
  intro fuel
  induction fuel with
  | zero => intro listed B s a w hsz hch h hi hok; exact ⟨h.1, hQ B s a w h.2 (top hsz hi)⟩
  | succ fuel ih =>
    intro listed B s a w hsz hch h hi hok
    refine ⟨fun hr => hQ B s a w (h.1 hr) (top hsz hi), fun i hir => ?_⟩
    obtain ⟨hi0, o, ho, _⟩ := mem_ready.1 hir
    obtain ⟨hall, ao, h1, h2⟩ := h.2 i hir
    obtain ⟨ao', h3, h4⟩ := hget i o (by simpa using ho)
    rw [h1] at h3
    cases h3
    have his : i < listed.size := by rw [hsz]; exact (Array.getElem?_eq_some_iff.1 ho).1
    have hn : ¬ (listed.getD i false = true) := by simp [his] at hi0 ⊢; exact hi0
    have hch' : ∀ j, late ≤ j → (listed.setIfInBounds i true).getD j false = true → ∀ k, k < j → (listed.setIfInBounds i true).getD k false = true := by
      intro j hj hl k hk
      by_cases e : i = j
      · subst e; exact getD_set_true (hall hj k hk)
      · rw [getD_set_ne false e] at hl
        exact getD_set_true (hch j hj hl k hk)
    have himp : ∀ j, (listed.getD j false = true ∨ j = i) → (listed.setIfInBounds i true).getD j false = true := by
      intro j hj
      rcases hj with hj | rfl
      · exact getD_set_true hj
      · simp [his]
    rcases Nat.lt_or_ge i late with hil | hil
    · rw [Md.at_lt hil] at h2
      have hno : ∀ j, late ≤ j → listed.getD j false = false := by
        intro j hj
        cases e : listed.getD j false with
        | false => rfl
        | true => exact absurd (hch j hj e i (by omega)) hn
      refine wpOp_mono (fun a' w' ⟨B', s', hK, hinv⟩ => ih (listed.setIfInBounds i true) B' s' a' w' (by simpa using hsz) hch' hK (hinv.tail.mono himp) (fun _ => hinv.ok)) (step_ok ho h4 (hi.back hR (hok hno)) hn h2)
    · rw [Md.at_ge hil] at h2
      refine wpOp_mono (fun a' w' ⟨B', s', hK, hinv⟩ => ih (listed.setIfInBounds i true) B' s' a' w' (by simpa using hsz) hch' hK (hinv.mono himp) (fun hno => ?_)) (step_ok ho h4 hi hn h2)
      have h9 := hno i hil
      rw [himp i (.inr rfl)] at h9
      cases h9

/-! ### Code -/
structure St where
  s : S
  n : Nat
structure Sms (C : Ctx) (N : Nat) (B : BM) (x : St) (a : Act) (w : World) : Prop where
  sim : Sim C N B x.s a w
  fr : ∀ k, x.n ≤ k → B k = none
  base : C.n ≤ x.n
/-- Code, run in an abstract state, comes to an end that is Q. -/
structure NN where
  n : Nat
  ok : Ctx → Prop
def NN.fits (nn : NN) (C : Ctx) : Prop := C.n = nn.n ∧ nn.ok C
def NN.plain (n : Nat) : NN := ⟨n, fun _ => True⟩
theorem NN.plain_n (n : Nat) : (NN.plain n).n = n := rfl
def AWp (P : Program) (N : Nat) (nn : NN) (c : Code) (Q : Exit → St → Prop) (x : St) : Prop :=
  ∀ (C : Ctx) (B : BM) (a : Act) (w : World), nn.fits C → Sms C N B x a w → c.wp P (fun e a' w' => ∃ B' x', Q e x' ∧ Sms C N B' x' a' w') a w

variable {nn : NN}
theorem AWp.mono {c : Code} {Q Q' : Exit → St → Prop} {x : St} (h : AWp P N nn c Q x) (hq : ∀ e x, Q e x → Q' e x) : AWp P N nn c Q' x :=
  fun C B a w hn hs => wp_mono (h C B a w hn hs) fun _ _ _ ⟨B', x', h1, h2⟩ => ⟨B', x', hq _ _ h1, h2⟩
theorem AWp.region {id : Nat} {ops : Array Oper} {aops : List AOper} {Q : Exit → St → Prop} {x : St} (hc : compOps P N ops = some aops)
    (h : runP P ⟨false, x.n, [], [], []⟩ (numberA 0 aops) (fun s => Q .normal ⟨s, x.n + 16 * aops.length⟩) x.s) : AWp P N nn (.region id ops false) Q x := by
  intro C B a w hn hs
  obtain ⟨hlen, _⟩ := compL_get hc
  refine wp_region ?_
  rw [List.range_eq_range']
  refine wpOps_of (md := ⟨false, x.n, [], [], []⟩) (C := C) hc (K := fun s => Q .normal ⟨s, x.n + 16 * aops.length⟩) (fun B s a w hK hi => ⟨B, _, hK, hi.sim, fun k hk => hi.fr k (by show x.n ≤ k; simp only at hk; omega) ?_, by have := hi.base; simp only at this ⊢; omega⟩) ops.size 0 B x.s a w (by omega) (by simpa using h)
    ⟨hs.sim, fun hd => (by cases hd), fun k hk _ => hs.fr k hk, hs.base, fun _ _ => rfl⟩
  simp only [Array.length_toList] at hlen
  simp only at hk ⊢
  omega
theorem runP_mono {md : Md} {K K' : S → Prop} (hk : ∀ s, K s → K' s) : ∀ (l : List (Nat × AOper)) (s : S), runP P md l K s → runP P md l K' s
  | [], s, h => hk s h
  | (i, o) :: l, s, h => Step.mono (fun s' h' => runP_mono hk l s' h') h
theorem numberA_app : ∀ (l m : List AOper) (k : Nat), numberA k (l ++ m) = numberA k l ++ numberA (k + l.length) m
  | [], m, k => by simp [numberA]
  | o :: l, m, k => by
    simp only [List.cons_append, numberA, numberA_app l m (k + 1), List.length_cons]
    rw [show k + 1 + l.length = k + (l.length + 1) by omega]
theorem AWp.draw {id : Nat} {ops : Array Oper} {aops tl : List AOper} {Q : Exit → St → Prop} {x : St} (hm : P.follows .mixedOrders = true) (hc : compOps P N ops = some (aops ++ tl)) (R : List (Nat × AObj)) (E : List Nat) (F : List (Nat × Nat))
    (hB : orderB ops (aops ++ tl) aops.length E F = true) (hR0 : ∀ j, (findH R j).live = true → x.s.h j = findH R j) (hR : ∀ k, x.n ≤ k → (findH R k).live = false)
    (h : runP P ⟨true, x.n, R, E, F⟩ (numberA 0 aops) (runP P ⟨false, x.n, [], [], []⟩ (numberA aops.length tl) (fun s => Q .normal ⟨s, x.n + 16 * (aops.length + tl.length)⟩)) x.s) : AWp P N nn (.region id ops true) Q x := by
  intro C B a w hn hs
  obtain ⟨hlen, _⟩ := compL_get hc
  have hs' : Sms C N B x a { w with drawn := w.drawn + 1 } := by
    obtain ⟨⟨h1, h2, h3, h4, h5, h6, h7⟩, h8, h9⟩ := hs
    exact ⟨⟨h1, h2, h3, h4.heap rfl, h5, ⟨h6.os, h6.tape, h6.output, h6.size, h6.block⟩, h7⟩, h8, h9⟩
  have hrun : runX P ⟨true, x.n, R, E, F⟩ aops.length (numberA 0 (aops ++ tl)) (fun s => Q .normal ⟨s, x.n + 16 * (aops.length + tl.length)⟩) x.s := by
    rw [numberA_app, Nat.zero_add]
    refine runX_lt _ _ (fun p hp => ?_) (runP_mono (fun s hk => runX_ge _ s (fun p hp => (numberA_get _ _ p hp).1) hk) _ _ h)
    have h2 := (numberA_get _ _ p hp).2
    have := (List.getElem?_eq_some_iff.1 h2).1
    omega
  refine wp_region_any hm ?_
  refine wpAny_of (md := ⟨true, x.n, R, E, F⟩) hR (late := aops.length) (C := C) hc (K := fun s => Q .normal ⟨s, x.n + 16 * (aops.length + tl.length)⟩) (fun B s a w hK hi => ⟨B, _, hK, hi.sim, fun k hk => hi.fr k (by show x.n ≤ k; simp only at hk; omega) ?_, by have := hi.base; simp only [Md.tail] at this ⊢; omega⟩) ops.size _ B x.s a _ (by simp)
    (fun j _ hl => ?_) (any_of_text (md := ⟨true, x.n, R, E, F⟩) rfl hR hB hrun)
    ⟨hs'.sim, fun hd => (by cases hd), fun k hk _ => hs'.fr k hk, hs'.base, fun _ _ => rfl⟩ (fun _ _ j hl => hR0 j hl)
  · exfalso
    rcases Nat.lt_or_ge j ops.size with h' | h'
    · simp [h'] at hl
    · simp [h'] at hl
  · simp only [Array.length_toList, List.length_append] at hlen
    simp only [Md.tail] at hk ⊢
    omega
end
end Go.Am
