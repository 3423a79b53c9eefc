/- Own theory, no program in sight: a region that draws its order goes as its text does. -/
import Derived.Test.YteggjhihpjjloaaAm9
import Derived.Test.YteggjhihpjjloaaSeq
namespace Go.Am
set_option linter.unusedSimpArgs false
set_option linter.unusedVariables false
set_option maxHeartbeats 4000000
open Go Go.RowKit
set_option linter.unusedVariables false
set_option linter.unusedSimpArgs false

theorem put_comm (t : Nat → AV) {d e : Option Nat} (v u : AV) (h : ∀ x, d = some x → e ≠ some x) : put (put t d v) e u = put (put t e u) d v := by
  cases d with
  | none => rfl
  | some d =>
    cases e with
    | none => rfl
    | some e =>
      have hne : d ≠ e := fun he => h d rfl (by rw [he])
      funext j
      simp only [put]
      by_cases h1 : j = e <;> by_cases h2 : j = d <;> simp_all
def opdTmp : Opd → Option Nat
  | .t n => some n
  | .c _ => none
def looksA (o : AOper) : List Nat :=
  o.xs.filterMap opdTmp ++ (match o.guard with | some (some d, _) => [d] | _ => [])
theorem ev_put {t : Nat → AV} {dst : Option Nat} {v : AV} {x : Opd} (h : ∀ d, dst = some d → opdTmp x ≠ some d) : evO (put t dst v) x = evO t x := by
  cases dst with
  | none => rfl
  | some d =>
    cases x with
    | c v => rfl
    | t n =>
      have : n ≠ d := fun e => h d rfl (by simp [opdTmp, e])
      simp [evO, put, this]
theorem evs_put {o : AOper} {t : Nat → AV} {dst : Option Nat} {v : AV} (h : ∀ d, dst = some d → d ∉ looksA o) : o.xs.map (evO (put t dst v)) = o.xs.map (evO t) := by
  apply List.map_congr_left
  intro x hx
  refine ev_put fun d hd hxd => h d hd ?_
  exact List.mem_append_left _ (List.mem_filterMap.2 ⟨x, hx, hxd⟩)
theorem wants_put {o : AOper} {t : Nat → AV} {dst : Option Nat} {v : AV} (h : ∀ d, dst = some d → d ∉ looksA o) : wants o.guard (put t dst v) = wants o.guard t := by
  unfold wants
  split
  · rfl
  · rfl
  · rename_i d want hg
    cases dst with
    | none => rfl
    | some e =>
      have : d ≠ e := fun he => h e rfl (by simp [looksA, hg, he])
      simp [put, this]
def apartA (x y : AOper) : Bool :=
  (match x.dst with | some d => !hasB (looksA y) d && y.dst != some d | none => true) && (match y.dst with | some d => !hasB (looksA x) d | none => true)
theorem hasB_iff (l : List Nat) (k : Nat) : hasB l k = true ↔ k ∈ l := by
  induction l with
  | nil => simp [hasB]
  | cons i l ih =>
    simp only [hasB, List.mem_cons]
    cases h : Nat.beq i k with
    | true => have := Nat.eq_of_beq_eq_true h; simp [this]
    | false => have : i ≠ k := Nat.ne_of_beq_eq_false h; simp [ih, Ne.symm this]
theorem apartA_spec {x y : AOper} (h : apartA x y = true) : (∀ d, x.dst = some d → d ∉ looksA y) ∧ (∀ d, x.dst = some d → y.dst ≠ some d) ∧ (∀ d, y.dst = some d → d ∉ looksA x) := by
  refine ⟨fun d hd => ?_, fun d hd => ?_, fun d hd => ?_⟩ <;> simp only [apartA, hd, Bool.and_eq_true, Bool.not_eq_true'] at h
  · rw [← hasB_iff]; simp [h.1.1]
  · have := h.1.2; simpa using this
  · rw [← hasB_iff]; simp [h.2]

theorem upd_comm (h : Nat → AObj) {i j : Nat} (a b : AObj) (e : i ≠ j) : upd (upd h i a) j b = upd (upd h j b) i a := by
  funext k
  simp only [upd]
  by_cases h1 : k = j <;> by_cases h2 : k = i <;> simp_all
theorem updH_comm (h : Nat → AObj) (u : Nat) (o : AObj) : ∀ (l : List (Nat × AObj)), u ∉ l.map (·.1) → updH (upd h u o) l = upd (updH h l) u o
  | [], _ => rfl
  | p :: l, hu => by
    simp only [List.map_cons, List.mem_cons, not_or] at hu
    simp only [updH]
    rw [updH_comm h u o l hu.2]
    exact upd_comm _ _ _ hu.1

section
variable {P : Program} {md : Md}

theorem Eff.mono {i : Nat} {op : AOp} {xs : List AV} {h : Nat → AObj} {K K' : AV → List (Nat × AObj) → Prop} (hk : ∀ v ups, K v ups → K' v ups)
    (he : Eff P md i op xs h K) : Eff P md i op xs h K' := by
  obtain ⟨ids, out, h1, h2, h3, h4⟩ := he
  exact ⟨ids, out, h1, h2, h3, fun v ups ho => ⟨(h4 v ups ho).1, hk _ _ (h4 v ups ho).2⟩⟩
theorem Eff.upd {i : Nat} {op : AOp} {xs : List AV} {h : Nat → AObj} {K : AV → List (Nat × AObj) → Prop} {u : Nat} (hu : u ∈ md.U i) (o : AObj) :
    Eff P md i op xs (upd h u o) K ↔ Eff P md i op xs h K := by
  have key : ∀ ids : List Nat, u ∉ ids → ids.map (Am.upd h u o) = ids.map h := fun ids hn =>
    List.map_congr_left fun x hx => upd_ne h o (fun e => hn (e ▸ hx))
  constructor
  · rintro ⟨ids, out, h1, h2, h3⟩
    exact ⟨ids, out, by rw [key ids (h2 u hu)] at h1; exact h1, h2, h3⟩
  · rintro ⟨ids, out, h1, h2, h3⟩
    exact ⟨ids, out, by rw [key ids (h2 u hu)]; exact h1, h2, h3⟩
theorem Eff.keys {i : Nat} {op : AOp} {xs : List AV} {h : Nat → AObj} {K : AV → List (Nat × AObj) → Prop} (he : Eff P md i op xs h K) :
    Eff P md i op xs h fun v ups => K v ups ∧ ∀ u ∈ md.U i, u ∉ ups.map (·.1) := by
  obtain ⟨ids, out, h1, h2, h3, h4⟩ := he
  exact ⟨ids, out, h1, h2, h3, fun v ups ho => ⟨(h4 v ups ho).1, (h4 v ups ho).2, (h4 v ups ho).1⟩⟩
theorem Eff.some {i : Nat} {op : AOp} {xs : List AV} {h : Nat → AObj} {K : AV → List (Nat × AObj) → Prop} (hd : md.draw = true) (he : Eff P md i op xs h K) : ∃ v ups, K v ups := by
  obtain ⟨ids, out, h1, h2, h3, h4⟩ := he
  obtain ⟨v, ups, ho⟩ := h3 hd
  exact ⟨v, ups, (h4 v ups ho).2⟩

theorem Step.mono {i : Nat} {o : AOper} {K K' : S → Prop} {s : S} (hk : ∀ s, K s → K' s) (h : Step P md i o K s) : Step P md i o K' s := by
  unfold Step at *
  split
  · rename_i e; rw [e] at h; exact h
  · rename_i e; rw [e] at h; exact hk _ h
  · rename_i e
    rw [e] at h
    simp only at h
    split
    · rename_i e'
      rw [e'] at h
      exact Eff.mono (fun v ups hh => ⟨hh.1, hk _ hh.2⟩) h
    · rename_i e'
      rw [e'] at h
      obtain ⟨c, v, ups, h1, h2, h3⟩ := h
      exact ⟨c, v, ups, h1, h2, hk _ h3⟩

/-- What an operation does, in temps and a heap, is given by its look at them. -/
theorem Step.skip {i : Nat} {o : AOper} {K : S → Prop} {s : S} (hw : wants o.guard s.t = some false) : Step P md i o K s ↔ K ⟨put s.t o.dst (.val undef), s.h⟩ := by
  unfold Step; rw [hw]
theorem Step.eff {i : Nat} {o : AOper} {K : S → Prop} {s : S} (hw : wants o.guard s.t = some true) (hE : (isEff o.op || hasB md.E i) = true) :
    Step P md i o K s ↔ Eff P md i o.op (o.xs.map (evO s.t)) s.h fun v ups => md.ok (updH s.h ups) ∧ K ⟨put s.t o.dst v, updH s.h ups⟩ := by
  unfold Step; rw [hw]; simp only; rw [hE]
theorem Step.sim {i : Nat} {o : AOper} {K : S → Prop} {s : S} (hw : wants o.guard s.t = some true) (hE : (isEff o.op || hasB md.E i) = false) :
    Step P md i o K s ↔ ∃ c v ups, simple md i o.op (o.xs.map (evO s.t)) s.h = some (c, v, ups) ∧ c ∧ K ⟨put s.t o.dst v, updH s.h ups⟩ := by
  unfold Step; rw [hw]; simp only; rw [hE]
theorem Step.hasW {i : Nat} {o : AOper} {K : S → Prop} {s : S} (h : Step P md i o K s) : wants o.guard s.t = some true ∨ wants o.guard s.t = some false := by
  unfold Step at h
  split at h
  · exact h.elim
  · rename_i e; exact .inr e
  · rename_i e; exact .inl e
/-- In a region that draws an operation that is no effect looks at no heap. -/
theorem simple_look (hd : md.draw = true) (i : Nat) (op : AOp) (xs : List AV) (h h' : Nat → AObj) : simple md i op xs h = simple md i op xs h' := by
  have : md.look h = md.look h' := by simp [Md.look, hd]
  unfold simple
  rw [this]
theorem simple_ups {i : Nat} {op : AOp} {xs : List AV} {h : Nat → AObj} {c : Prop} {v : AV} {ups : List (Nat × AObj)} (e : simple md i op xs h = some (c, v, ups)) :
    (isFresh op = false ∧ ups = []) ∨ (isFresh op = true ∧ ∃ o, ups = [(md.id i, o)]) := by
  unfold simple at e
  split at e
  · rename_i hf
    cases hh : fresh op xs (md.id i) with
    | none => rw [hh] at e; cases e
    | some r => rw [hh] at e; cases e; exact .inr ⟨hf, _, rfl⟩
  · rename_i hf
    generalize quiet op xs _ = q at e
    cases q with
    | none => cases e
    | some r => cases e; exact .inl ⟨hf, rfl⟩
theorem ok_upd (hR : ∀ k, md.base ≤ k → (findH md.R k).live = false) {h : Nat → AObj} {i : Nat} (o : AObj) : md.ok (upd h (md.id i) o) ↔ md.ok h := by
  have key : ∀ k, (findH md.R k).live = true → k ≠ md.id i := fun k hl e => by
    have := hR k (by rw [e]; unfold Md.id; omega)
    rw [this] at hl
    cases hl
  constructor
  · intro hk hd k hl
    have := hk hd k hl
    rwa [upd_ne h o (key k hl)] at this
  · intro hk hd k hl
    rw [upd_ne h o (key k hl)]
    exact hk hd k hl

/-- May i and j be exchanged? -/
structure Free (md : Md) (i j : Nat) (x y : AOper) : Prop where
  apart : apartA x y = true
  ne : i ≠ j
  ee : ¬ ((isEff x.op || hasB md.E i) = true ∧ (isEff y.op || hasB md.E j) = true)
  ef : (isEff x.op || hasB md.E i) = true → isFresh y.op = true → md.id j ∈ md.U i
  fe : isFresh x.op = true → (isEff y.op || hasB md.E j) = true → md.id i ∈ md.U j

theorem Step.swap (hd : md.draw = true) (hR : ∀ k, md.base ≤ k → (findH md.R k).live = false) {i j : Nat} {x y : AOper} {K : S → Prop} {s : S} (hf : Free md i j x y)
    (h : Step P md i x (Step P md j y K) s) : Step P md j y (Step P md i x K) s := by
  obtain ⟨a1, a2, a3⟩ := apartA_spec hf.apart
  have a2' : ∀ d, y.dst = some d → x.dst ≠ some d := fun d hd hi => a2 d hi hd
  -- a step as an outcome, with its independence
  have hidne : md.id i ≠ md.id j := by unfold Md.id; have := hf.ne; omega
  rcases h.hasW with wx | wx
  case inr =>
    rw [Step.skip wx] at h
    have redo : ∀ (hh : Nat → AObj) (u : AV), K ⟨put (put s.t y.dst u) x.dst (.val undef), hh⟩ → Step P md i x K ⟨put s.t y.dst u, hh⟩ := by
      intro hh u hk
      rw [Step.skip (by simp only; rw [wants_put a3]; exact wx)]
      exact hk
    generalize Step P md i x K = K2 at redo
    unfold Step at h ⊢
    simp only at h
    rw [wants_put a1, evs_put a1] at h
    split
    · rename_i e; rw [e] at h; exact h
    · rename_i e; rw [e] at h; exact redo _ _ (by rw [put_comm _ _ _ a2']; exact h)
    · rename_i e
      rw [e] at h
      simp only at h ⊢
      split
      · rename_i e'
        rw [e'] at h
        exact Eff.mono (fun v ups hh => ⟨hh.1, redo _ _ (by rw [put_comm _ _ _ a2']; exact hh.2)⟩) h
      · rename_i e'
        rw [e'] at h
        obtain ⟨c, v, ups, h1, h2, h3⟩ := h
        exact ⟨c, v, ups, h1, h2, redo _ _ (by rw [put_comm _ _ _ a2']; exact h3)⟩
  cases hEx : (isEff x.op || hasB md.E i) with
  | false =>
    rw [Step.sim wx hEx] at h
    obtain ⟨c, v, ups, h1, h2, h3⟩ := h
    have redo : ∀ (hh : Nat → AObj) (u : AV), K ⟨put (put s.t y.dst u) x.dst v, updH hh ups⟩ → Step P md i x K ⟨put s.t y.dst u, hh⟩ := by
      intro hh u hk
      rw [Step.sim (by simp only; rw [wants_put a3]; exact wx) hEx]
      refine ⟨c, v, ups, ?_, h2, hk⟩
      simp only
      rw [evs_put a3, ← simple_look hd i x.op _ s.h hh]
      exact h1
    have h' := h3
    generalize Step P md i x K = K2 at redo
    unfold Step at h' ⊢
    simp only at h'
    rw [wants_put a1, evs_put a1] at h'
    split
    · rename_i e; rw [e] at h'; exact h'
    · rename_i e; rw [e] at h'
      simp only at h'
      exact redo _ _ (by rw [put_comm _ _ _ a2']; exact h')
    · rename_i e
      rw [e] at h'
      simp only at h' ⊢
      split
      · rename_i e'
        rw [e'] at h'
        simp only at h'
        -- y is an effect
        rcases simple_ups h1 with ⟨hfr, rfl⟩ | ⟨hfr, o, rfl⟩
        · refine Eff.mono (fun u ups' hh => ⟨hh.1, redo _ _ ?_⟩) h'
          rw [put_comm _ _ _ a2']
          exact hh.2
        · have hu := hf.fe hfr e'
          have h4 := ((Eff.upd (K := _) hu o).1 h').keys
          refine Eff.mono (fun u ups' hh => ?_) h4
          obtain ⟨⟨hok, hk⟩, hkeys⟩ := hh
          have hc := updH_comm s.h (md.id i) o ups' (hkeys _ hu)
          simp only [updH] at hok hk
          rw [hc] at hok hk
          refine ⟨(ok_upd hR o).1 hok, redo _ _ ?_⟩
          rw [put_comm _ _ _ a2']; exact hk
      · rename_i e'
        rw [e'] at h'
        obtain ⟨c', u, ups', g1, g2, g3⟩ := h'
        refine ⟨c', u, ups', by rw [simple_look hd j y.op _ s.h (updH s.h ups)]; exact g1, g2, redo _ _ ?_⟩
        rw [put_comm _ _ _ a2']
        have : updH (updH s.h ups') ups = updH (updH s.h ups) ups' := by
          rcases simple_ups h1 with ⟨_, rfl⟩ | ⟨_, o, rfl⟩
          · rfl
          · rcases simple_ups g1 with ⟨_, rfl⟩ | ⟨_, o', rfl⟩
            · rfl
            · simp only [updH]; exact upd_comm _ _ _ hidne.symm
        rw [this]; exact g3
  | true =>
    have hEy : (isEff y.op || hasB md.E j) = false := by
      cases e : (isEff y.op || hasB md.E j) with
      | false => rfl
      | true => exact absurd ⟨hEx, e⟩ hf.ee
    rw [Step.eff wx hEx] at h
    -- y's step, out of one outcome
    have out : ∀ v ups, Step P md j y K ⟨put s.t x.dst v, updH s.h ups⟩ → (wants y.guard s.t = some false ∧ K ⟨put (put s.t x.dst v) y.dst (.val undef), updH s.h ups⟩) ∨
        (wants y.guard s.t = some true ∧ ∃ c u ups', simple md j y.op (y.xs.map (evO s.t)) s.h = some (c, u, ups') ∧ c ∧ K ⟨put (put s.t x.dst v) y.dst u, updH (updH s.h ups) ups'⟩) := by
      intro v ups hs
      rcases hs.hasW with w' | w'
      · refine .inr ⟨by simp only at w'; rw [wants_put a1] at w'; exact w', ?_⟩
        rw [Step.sim w' hEy] at hs
        obtain ⟨c, u, ups', g1, g2, g3⟩ := hs
        simp only at g1
        rw [evs_put a1, simple_look hd j y.op _ _ s.h] at g1
        exact ⟨c, u, ups', g1, g2, g3⟩
      · refine .inl ⟨by simp only at w'; rw [wants_put a1] at w'; exact w', ?_⟩
        rw [Step.skip w'] at hs
        exact hs
    obtain ⟨v0, ups0, hok0, hs0⟩ := Eff.some hd h
    rcases out v0 ups0 hs0 with ⟨wy, _⟩ | ⟨wy, c, u, ups', g1, g2, _⟩
    · rw [Step.skip wy, Step.eff (by simp only; rw [wants_put a3]; exact wx) hEx]
      simp only
      rw [evs_put a3]
      refine Eff.mono (fun v ups hh => ⟨hh.1, ?_⟩) h
      rcases out v ups hh.2 with ⟨_, hk⟩ | ⟨wy', _⟩
      · rw [put_comm _ _ _ a2']; exact hk
      · rw [wy] at wy'; cases wy'
    · rw [Step.sim wy hEy]
      refine ⟨c, u, ups', g1, g2, ?_⟩
      rw [Step.eff (by simp only; rw [wants_put a3]; exact wx) hEx]
      simp only
      rw [evs_put a3]
      have hh' : Eff P md i x.op (x.xs.map (evO s.t)) (updH s.h ups') fun v ups => md.ok (updH s.h ups) ∧ Step P md j y K ⟨put s.t x.dst v, updH s.h ups⟩ ∧ updH (updH s.h ups') ups = updH (updH s.h ups) ups' := by
        rcases simple_ups g1 with ⟨_, rfl⟩ | ⟨hfr, o, rfl⟩
        · exact Eff.mono (fun v ups hh => ⟨hh.1, hh.2, rfl⟩) h
        · have hu := hf.ef hEx hfr
          refine (Eff.upd (K := _) hu o).2 ?_
          refine Eff.mono (fun v ups hh => ⟨hh.1.1, hh.1.2, ?_⟩) h.keys
          exact updH_comm s.h _ o ups (hh.2 _ hu)
      refine Eff.mono (fun v ups hh => ⟨?_, ?_⟩) hh'
      · rw [hh.2.2]
        rcases simple_ups g1 with ⟨_, rfl⟩ | ⟨_, o, rfl⟩
        · exact hh.1
        · exact (ok_upd hR o).2 hh.1
      · rcases out v ups hh.2.1 with ⟨wy', _⟩ | ⟨_, c2, u2, ups2, k1, k2, hk⟩
        · rw [wy] at wy'; cases wy'
        · rw [g1] at k1
          cases k1
          rw [put_comm _ _ _ a2', hh.2.2]
          exact hk

/-- Ahead of 'late' a region draws; from there on it goes as its text does. -/
def Md.tail (md : Md) : Md := ⟨false, md.base, [], [], []⟩
def Md.at_ (md : Md) (late i : Nat) : Md := cond (Nat.blt i late) md md.tail
theorem Md.at_lt {md : Md} {late i : Nat} (h : i < late) : md.at_ late i = md := by
  unfold Md.at_; rw [Nat.blt_eq.mpr h]; rfl
theorem Md.at_ge {md : Md} {late i : Nat} (h : late ≤ i) : md.at_ late i = md.tail := by
  unfold Md.at_
  cases e : Nat.blt i late with
  | false => rfl
  | true => exact absurd (Nat.blt_eq.mp e) (by omega)
def runX (P : Program) (md : Md) (late : Nat) : List (Nat × AOper) → (S → Prop) → S → Prop
  | [], K, s => K s
  | (i, o) :: l, K, s => Step P (md.at_ late i) i o (runX P md late l K) s
theorem runX_lt {late : Nat} {K : S → Prop} {l2 : List (Nat × AOper)} : ∀ (l : List (Nat × AOper)) (s : S), (∀ p ∈ l, p.1 < late) → runP P md l (runX P md late l2 K) s → runX P md late (l ++ l2) K s
  | [], _, _, h => h
  | (i, o) :: l, s, hl, h => by
    simp only [List.cons_append, runX]
    rw [Md.at_lt (hl (i, o) List.mem_cons_self)]
    exact Step.mono (fun s' hk => runX_lt l s' (fun p hp => hl p (List.mem_cons_of_mem _ hp)) hk) h
theorem runX_ge {late : Nat} {K : S → Prop} : ∀ (l : List (Nat × AOper)) (s : S), (∀ p ∈ l, late ≤ p.1) → runP P md.tail l K s → runX P md late l K s
  | [], _, _, h => h
  | (i, o) :: l, s, hl, h => by
    simp only [runX]
    rw [Md.at_ge (hl (i, o) List.mem_cons_self)]
    exact Step.mono (fun s' hk => runX_ge l s' (fun p hp => hl p (List.mem_cons_of_mem _ hp)) hk) h
theorem pull (hd : md.draw = true) (hR : ∀ k, md.base ≤ k → (findH md.R k).live = false) {late : Nat} {K : S → Prop} {j : Nat} {oj : AOper} {l2 : List (Nat × AOper)} :
    ∀ (l1 : List (Nat × AOper)) (s : S), (∀ p ∈ l1, p.1 < late ∧ j < late ∧ Free md p.1 j p.2 oj) → runX P md late (l1 ++ (j, oj) :: l2) K s → Step P (md.at_ late j) j oj (runX P md late (l1 ++ l2) K) s
  | [], _, _, h => h
  | (i, oi) :: l1, s, hp, h => by
    have h' : Step P (md.at_ late i) i oi (Step P (md.at_ late j) j oj (runX P md late (l1 ++ l2) K)) s :=
      Step.mono (fun s' hk => pull hd hR l1 s' (fun p hm => hp p (List.mem_cons_of_mem _ hm)) hk) h
    obtain ⟨h1, h2, h3⟩ := hp (i, oi) List.mem_cons_self
    simp only [List.cons_append, runX]
    rw [Md.at_lt h1, Md.at_lt h2] at h' ⊢
    exact Step.swap hd hR h3 h'

/-- In any order that the edges allow. -/
def anyP (P : Program) (mo : Region.Mode) (ops : Array Oper) (aops : List AOper) (md : Md) (late : Nat) (K : S → Prop) : Nat → Array Bool → S → Prop
  | 0, listed, s => Region.ready mo ops listed = [] ∧ K s
  | fuel + 1, listed, s => (Region.ready mo ops listed = [] → K s) ∧
    ∀ i ∈ Region.ready mo ops listed, (late ≤ i → ∀ j, j < i → listed.getD j false = true) ∧ ∃ o, aops[i]? = some o ∧ Step P (md.at_ late i) i o (anyP P mo ops aops md late K fuel (listed.setIfInBounds i true)) s

open Go.Proofs.Yteggjhihpjjloaa in
/-- i stands ahead of j in the text. -/
structure FitsA (mo : Region.Mode) (ops : Array Oper) (md : Md) (late : Nat) (p q : Nat × AOper) : Prop where
  ne : p.1 ≠ q.1
  no : ∀ o, ops[p.1]? = some o → ∀ e ∈ o.after, Region.binds mo e = true → e.on ≠ q.1
  or : (∀ (listed : Array Bool), Seq.Closed mo ops listed → q.1 ∈ Region.ready mo ops listed → listed.getD p.1 false = true) ∨ (p.1 < late ∧ q.1 < late ∧ Free md p.1 q.1 p.2 q.2)

open Go.Proofs.Yteggjhihpjjloaa in
theorem any_of_run {mo : Region.Mode} {ops : Array Oper} {aops : List AOper} {late : Nat} {K : S → Prop} (hd : md.draw = true) (hR : ∀ k, md.base ≤ k → (findH md.R k).live = false)
    (hlate : ∀ (listed : Array Bool) (j : Nat), Seq.Closed mo ops listed → j ∈ Region.ready mo ops listed → late ≤ j → ∀ i, i < j → listed.getD i false = true) (hsz0 : aops.length = ops.size) :
    ∀ (fuel : Nat) (l : List (Nat × AOper)) (listed : Array Bool) (s : S), l.length ≤ fuel → listed.size = ops.size →
      (∀ p, p ∈ l ↔ (aops[p.1]? = some p.2 ∧ listed.getD p.1 true = false)) → Seq.Closed mo ops listed → l.Pairwise (FitsA mo ops md late) →
      (∀ p ∈ l, ∀ o, ops[p.1]? = some o → ∀ e ∈ o.after, Region.binds mo e = true → e.on ≠ p.1) → (∀ o ∈ ops, ∀ e ∈ o.after, Region.binds mo e = true → e.on < ops.size) →
      runX P md late l K s → anyP P mo ops aops md late K fuel listed s := by
  intro fuel
  induction fuel with
  | zero =>
    intro l listed s hlen hsz hl hc hpw hself hlt h
    have hl0 : l = [] := List.eq_nil_of_length_eq_zero (by omega)
    subst hl0
    refine ⟨?_, h⟩
    rw [List.eq_nil_iff_forall_not_mem]
    intro j hj
    obtain ⟨h0, o, ho, _⟩ := mem_ready.1 hj
    have hjl : j < aops.length := by rw [hsz0]; exact (Array.getElem?_eq_some_iff.1 ho).1
    have := (hl (j, aops[j])).2 ⟨by simp [hjl], h0⟩
    cases this
  | succ fuel ih =>
    intro l listed s hlen hsz hl hc hpw hself hlt h
    refine ⟨fun hr => ?_, fun j hj => ?_⟩
    · cases l with
      | nil => exact h
      | cons p l =>
        exfalso
        obtain ⟨hp1, hp2⟩ := (hl p).1 List.mem_cons_self
        have hpl : p.1 < ops.size := by rw [← hsz0]; exact (List.getElem?_eq_some_iff.1 hp1).1
        have : p.1 ∈ Region.ready mo ops listed := by
          refine mem_ready.2 ⟨hp2, ops[p.1], by simp [hpl], fun e he hb => ?_⟩
          have hon := hlt ops[p.1] (Array.getElem_mem hpl) e he hb
          cases hx : listed.getD e.on true with
          | true =>
            rw [← hsz] at hon
            simp [hon] at hx ⊢
            exact hx
          | false =>
            exfalso
            have honl : e.on < aops.length := by rw [hsz0]; exact hon
            have hmem := (hl (e.on, aops[e.on])).2 ⟨by simp [honl], hx⟩
            rcases List.mem_cons.1 hmem with heq | hmem
            · exact hself p List.mem_cons_self _ (by simp [hpl]) e he hb (by rw [← heq])
            · exact ((List.pairwise_cons.1 hpw).1 _ hmem).no _ (by simp [hpl]) e he hb rfl
        rw [hr] at this
        cases this
    · obtain ⟨hj0, oj, hoj, hjall⟩ := mem_ready.1 hj
      have hjl : j < aops.length := by rw [hsz0]; exact (Array.getElem?_eq_some_iff.1 hoj).1
      have haj : aops[j]? = some aops[j] := by simp [hjl]
      have hmem := (hl (j, aops[j])).2 ⟨haj, hj0⟩
      obtain ⟨l1, l2, rfl⟩ := List.append_of_mem hmem
      have hpw' := List.pairwise_append.1 hpw
      have hfit : ∀ p ∈ l1, FitsA mo ops md late p (j, aops[j]) := fun p hp => hpw'.2.2 p hp (j, aops[j]) List.mem_cons_self
      have hstep := pull (P := P) (K := K) hd hR l1 s (fun p hp => by
        rcases (hfit p hp).or with h1 | h1
        · exfalso
          have h2 := h1 listed hc hj
          have h3 := ((hl p).1 (List.mem_append_left _ hp)).2
          rcases Nat.lt_or_ge p.1 listed.size with h' | h'
          · simp [h'] at h2 h3; rw [h2] at h3; cases h3
          · simp [Array.getElem?_eq_none h'] at h2
        · exact h1) h
      refine ⟨fun hlj => hlate listed j hc hj hlj, aops[j], haj, Step.mono (fun s' hk => ?_) hstep⟩
      have hjs : j < listed.size := by rw [hsz]; exact (Array.getElem?_eq_some_iff.1 hoj).1
      refine ih (l1 ++ l2) (listed.setIfInBounds j true) s' (by simp at hlen ⊢; omega) (by simpa using hsz) (fun p => ?_) ?_ ?_ ?_ hlt hk
      · have hnj : ∀ p ∈ l1 ++ l2, p.1 ≠ j := by
          intro p hp
          rcases List.mem_append.1 hp with hp | hp
          · exact (hfit p hp).ne
          · exact fun e => (List.pairwise_cons.1 hpw'.2.1).1 p hp |>.ne e.symm
        constructor
        · intro hp
          have h0 := (hl p).1 (by rcases List.mem_append.1 hp with hp | hp <;> simp [hp])
          exact ⟨h0.1, by rw [getD_set_ne true (Ne.symm (hnj p hp))]; exact h0.2⟩
        · rintro ⟨h1, h2⟩
          have hne : p.1 ≠ j := by
            intro e
            rw [e] at h2
            simp [hjs] at h2
          rw [getD_set_ne true (Ne.symm hne)] at h2
          have h3 := (hl p).2 ⟨h1, h2⟩
          rcases List.mem_append.1 h3 with h4 | h4
          · exact List.mem_append_left _ h4
          · rcases List.mem_cons.1 h4 with h5 | h5
            · exact absurd (by rw [h5]) hne
            · exact List.mem_append_right _ h5
      · intro k o hk' hlk e he hb
        by_cases hkj : k = j
        · subst hkj
          obtain rfl : o = oj := by rw [hoj] at hk'; injection hk' with h; exact h.symm
          exact getD_set_true (hjall e he hb)
        · rw [getD_set_ne false (Ne.symm hkj)] at hlk
          exact getD_set_true (hc k o hk' hlk e he hb)
      · exact hpw.sublist (List.Sublist.append_left (List.sublist_cons_self _ _) _)
      · exact fun p hp => hself p (by rcases List.mem_append.1 hp with hp | hp <;> simp [hp])

/-! ### The check -/
def numberA : Nat → List AOper → List (Nat × AOper)
  | _, [] => []
  | k, o :: l => (k, o) :: numberA (k + 1) l
def hasP : List (Nat × Nat) → Nat → Nat → Bool
  | [], _, _ => false
  | p :: l, j, i => cond (Nat.beq p.1 j && Nat.beq p.2 i) true (hasP l j i)
def isE (E : List Nat) (i : Nat) (o : AOper) : Bool := isEff o.op || hasB E i
def freeB (E : List Nat) (F : List (Nat × Nat)) (p q : Nat × AOper) : Bool :=
  apartA p.2 q.2 && !(isE E p.1 p.2 && isE E q.1 q.2) && (!(isE E p.1 p.2 && isFresh q.2.op) || hasP F p.1 q.1) && (!(isFresh p.2.op && isE E q.1 q.2) || hasP F q.1 p.1)
def afterB (mo : Region.Mode) (ops : Array Oper) (i j : Nat) : Bool :=
  match ops[i]? with
  | some o => !(o.after.any fun e => Region.binds mo e && Nat.beq e.on j)
  | none => true
def pairsA (mo : Region.Mode) (ops : Array Oper) (late : Nat) (E : List Nat) (F : List (Nat × Nat)) (ms : List Nat) : List (Nat × AOper) → Bool
  | [] => true
  | p :: l => (l.all fun q => afterB mo ops p.1 q.1 && ((ms.getD q.1 0).testBit p.1 || (Nat.blt q.1 late && freeB E F p q))) && afterB mo ops p.1 p.1 && pairsA mo ops late E F ms l
/-- Who is late waits for all ahead of it. -/
def lateB (late : Nat) (ms : List Nat) (l : List (Nat × AOper)) : Bool :=
  l.all fun q => Nat.blt q.1 late || (List.range q.1).all fun i => (ms.getD q.1 0).testBit i
open Go.Proofs.Yteggjhihpjjloaa in
def orderB (ops : Array Oper) (aops : List AOper) (late : Nat) (E : List Nat) (F : List (Nat × Nat)) : Bool :=
  Seq.inB ops && Nat.beq aops.length ops.size && pairsA .any ops late E F (Seq.masks .any ops.toList []) (numberA 0 aops) && lateB late (Seq.masks .any ops.toList []) (numberA 0 aops)

theorem usOf_has {base : Nat} : ∀ {F : List (Nat × Nat)} {j i : Nat}, hasP F j i = true → base + 16 * i ∈ usOf base F j
  | [], _, _, h => by cases h
  | p :: l, j, i, h => by
    obtain ⟨a, b⟩ := p
    simp only [hasP] at h
    simp only [usOf]
    cases h1 : Nat.beq a j with
    | true =>
      simp only [cond_true]
      cases h2 : Nat.beq b i with
      | true => have := Nat.eq_of_beq_eq_true h2; subst this; exact List.mem_cons_self
      | false => rw [h1, h2] at h; exact List.mem_cons_of_mem _ (usOf_has h)
    | false => rw [h1] at h; exact usOf_has h
theorem numberA_get : ∀ (l : List AOper) (k : Nat) (p : Nat × AOper), p ∈ numberA k l → k ≤ p.1 ∧ l[p.1 - k]? = some p.2
  | [], _, _, h => by cases h
  | o :: l, k, p, h => by
    rcases List.mem_cons.1 h with rfl | h
    · exact ⟨Nat.le_refl _, by simp⟩
    · obtain ⟨h1, h2⟩ := numberA_get l (k + 1) p h
      refine ⟨by omega, ?_⟩
      have : p.1 - k = (p.1 - (k + 1)) + 1 := by omega
      rw [this, List.getElem?_cons_succ]
      exact h2
theorem numberA_has : ∀ (l : List AOper) (k i : Nat) (o : AOper), l[i]? = some o → (k + i, o) ∈ numberA k l
  | [], _, _, _, h => by simp at h
  | o' :: l, k, 0, o, h => by simp at h; subst h; exact List.mem_cons_self
  | o' :: l, k, i + 1, o, h => by
    have := numberA_has l (k + 1) i o (by simpa using h)
    rw [show k + (i + 1) = k + 1 + i from by omega]
    exact List.mem_cons_of_mem _ this
theorem numberA_len : ∀ (l : List AOper) (k : Nat), (numberA k l).length = l.length
  | [], _ => rfl
  | o :: l, k => by simp [numberA, numberA_len l]
theorem afterB_spec {mo : Region.Mode} {ops : Array Oper} {i j : Nat} (h : afterB mo ops i j = true) (o : Oper) (ho : ops[i]? = some o) (e : Edge) (he : e ∈ o.after) (hb : Region.binds mo e = true) : e.on ≠ j := by
  intro heq
  unfold afterB at h
  rw [ho] at h
  simp only [Bool.not_eq_true'] at h
  have : (o.after.any fun e => Region.binds mo e && Nat.beq e.on j) = true := Array.any_eq_true'.2 ⟨e, he, by simp [hb, heq]⟩
  rw [this] at h
  cases h
theorem freeB_spec {E : List Nat} {F : List (Nat × Nat)} (hE : md.E = E) (hF : md.F = F) {p q : Nat × AOper} (hne : p.1 ≠ q.1) (h : freeB E F p q = true) : Free md p.1 q.1 p.2 q.2 := by
  subst hE; subst hF
  simp only [freeB, isE, Bool.and_eq_true, Bool.not_eq_true', Bool.or_eq_true] at h
  obtain ⟨⟨⟨h1, h2⟩, h3⟩, h4⟩ := h
  refine ⟨h1, hne, fun hh => ?_, fun a b => ?_, fun a b => ?_⟩
  · rw [hh.1, hh.2] at h2; cases h2
  · rcases h3 with h3 | h3
    · rw [a, b] at h3; cases h3
    · exact usOf_has h3
  · rcases h4 with h4 | h4
    · rw [a, b] at h4; cases h4
    · exact usOf_has h4
open Go.Proofs.Yteggjhihpjjloaa in
theorem pairsA_fit {mo : Region.Mode} {ops : Array Oper} {late : Nat} {E : List Nat} {F : List (Nat × Nat)} (hE : md.E = E) (hF : md.F = F)
    (hms : ∀ i m, (Seq.masks mo ops.toList [])[i]? = some m → (∃ oi, ops[i]? = some oi) ∧ Seq.Good mo ops i m) :
    ∀ (l : List AOper) (k : Nat), pairsA mo ops late E F (Seq.masks mo ops.toList []) (numberA k l) = true →
      (numberA k l).Pairwise (FitsA mo ops md late) ∧ ∀ p ∈ numberA k l, ∀ o, ops[p.1]? = some o → ∀ e ∈ o.after, Region.binds mo e = true → e.on ≠ p.1
  | [], _, _ => ⟨List.Pairwise.nil, fun _ h => by cases h⟩
  | o :: l, k, h => by
    simp only [numberA, pairsA, Bool.and_eq_true, List.all_eq_true] at h
    obtain ⟨⟨h1, h2⟩, h3⟩ := h
    have ih := pairsA_fit hE hF hms l (k + 1) h3
    refine ⟨List.Pairwise.cons (fun q hq => ?_) ih.1, fun p hp => ?_⟩
    · have hp := h1 q hq
      obtain ⟨hq1, hq2⟩ := numberA_get l (k + 1) q hq
      have hne : k ≠ q.1 := by omega
      refine ⟨hne, fun o' ho' e he hb => afterB_spec hp.1 o' ho' e he hb, ?_⟩
      rcases Bool.or_eq_true _ _ ▸ hp.2 with hbit | hfree
      · refine .inl fun listed hc hr => ?_
        obtain ⟨_, oq, hoq, hall⟩ := mem_ready.1 hr
        cases hm : (Seq.masks mo ops.toList [])[q.1]? with
        | none => rw [List.getD_eq_getElem?_getD, hm] at hbit; simp at hbit
        | some m =>
          rw [List.getD_eq_getElem?_getD, hm] at hbit
          exact (hms q.1 m hm).2 listed oq hc hoq hall k hbit
      · rw [Bool.and_eq_true] at hfree
        have hql : q.1 < late := Nat.blt_eq.mp hfree.1
        exact .inr ⟨by show k < late; omega, hql, freeB_spec hE hF hne hfree.2⟩
    · rcases List.mem_cons.1 hp with rfl | hp
      · exact fun o' ho' e he hb => afterB_spec h2 o' ho' e he hb
      · exact ih.2 p hp
open Go.Proofs.Yteggjhihpjjloaa in
theorem any_of_text {ops : Array Oper} {aops : List AOper} {late : Nat} {K : S → Prop} {s : S} (hd : md.draw = true) (hR : ∀ k, md.base ≤ k → (findH md.R k).live = false)
    (hB : orderB ops aops late md.E md.F = true) (h : runX P md late (numberA 0 aops) K s) : anyP P .any ops aops md late K ops.size (Array.replicate ops.size false) s := by
  simp only [orderB, Bool.and_eq_true] at hB
  obtain ⟨⟨⟨hin, hlen⟩, hpairs⟩, hlateB⟩ := hB
  have hlen := Nat.eq_of_beq_eq_true hlen
  have hms := Seq.masks_good (md := .any) (ops := ops) ops.toList [] (fun i => by simp) (fun i m hi => by simp at hi)
  have hfit := pairsA_fit (md := md) rfl rfl hms aops 0 hpairs
  have hlate : ∀ (listed : Array Bool) (j : Nat), Seq.Closed .any ops listed → j ∈ Region.ready .any ops listed → late ≤ j → ∀ i, i < j → listed.getD i false = true := by
    intro listed j hc hr hj i hi
    obtain ⟨_, oq, hoq, hall⟩ := mem_ready.1 hr
    have hjl : j < aops.length := by rw [hlen]; exact (Array.getElem?_eq_some_iff.1 hoq).1
    have hmem := numberA_has aops 0 j aops[j] (by simp [hjl])
    rw [Nat.zero_add] at hmem
    unfold lateB at hlateB
    have h1 := List.all_eq_true.1 hlateB _ hmem
    rw [Bool.or_eq_true] at h1
    rcases h1 with h1 | h1
    · exact absurd (Nat.blt_eq.mp h1) (by show ¬ (j < late); omega)
    · have hbit := List.all_eq_true.1 h1 i (List.mem_range.2 hi)
      cases hm : (Seq.masks .any ops.toList [])[j]? with
      | none => rw [List.getD_eq_getElem?_getD, hm] at hbit; simp at hbit
      | some m =>
        rw [List.getD_eq_getElem?_getD, hm] at hbit
        exact (hms j m hm).2 listed oq hc hoq hall i hbit
  refine any_of_run hd hR hlate hlen _ (numberA 0 aops) _ s (by rw [numberA_len, hlen]; exact Nat.le_refl _) (by simp) (fun p => ?_) ?_ hfit.1 hfit.2 ?_ h
  · constructor
    · intro hp
      obtain ⟨_, h2⟩ := numberA_get aops 0 p hp
      have h3 : aops[p.1]? = some p.2 := by simpa using h2
      have h4 := (List.getElem?_eq_some_iff.1 h3).1
      exact ⟨h3, by have h5 : p.1 < ops.size := by omega
                    simp [h5]⟩
    · rintro ⟨h1, _⟩
      have := numberA_has aops 0 p.1 p.2 h1
      simpa using this
  · intro j o hj hl
    rcases Nat.lt_or_ge j ops.size with h' | h'
    · simp [h'] at hl
    · simp [h'] at hl
  · intro o ho e he _
    have h4 := Array.all_eq_true_iff_forall_mem.1 hin o ho
    have h5 := Array.all_eq_true_iff_forall_mem.1 h4 e he
    simpa using h5
end
end Go.Am
