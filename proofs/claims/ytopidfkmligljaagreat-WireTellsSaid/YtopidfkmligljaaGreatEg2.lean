/- Own theory, no program in sight: the engine (Am10, Am11, AmN, Am12, Am13, AmC, Am14, Am15, Am16). -/
import Derived.Test.YtopidfkmligljaaGreatEg1
/- Own theory, no program in sight: a region that draws its order goes as its text does. -/
namespace Go.Am
set_option linter.unusedSimpArgs false
set_option linter.unusedVariables false
set_option maxHeartbeats 4000000
open Go Go.RowKit
set_option linter.unusedVariables false
set_option linter.unusedSimpArgs false

theorem put_comm (t : Nat → AV) {d e : Option Nat} (v u : AV) (h : ∀ x, d = some x → e ≠ some x) : put (put t d v) e u = put (put t e u) d v := by
  cases d with
  | none => rfl
  | some d =>
    cases e with
    | none => rfl
    | some e =>
      have hne : d ≠ e := fun he => h d rfl (by rw [he])
      funext j
      simp only [put]
      by_cases h1 : j = e <;> by_cases h2 : j = d <;> simp_all
def opdTmp : Opd → Option Nat
  | .t n => some n
  | .c _ => none
def looksA (o : AOper) : List Nat :=
  o.xs.filterMap opdTmp ++ (match o.guard with | some (some d, _) => [d] | _ => [])
theorem ev_put {t : Nat → AV} {dst : Option Nat} {v : AV} {x : Opd} (h : ∀ d, dst = some d → opdTmp x ≠ some d) : evO (put t dst v) x = evO t x := by
  cases dst with
  | none => rfl
  | some d =>
    cases x with
    | c v => rfl
    | t n =>
      have : n ≠ d := fun e => h d rfl (by simp [opdTmp, e])
      simp [evO, put, this]
theorem evs_put {o : AOper} {t : Nat → AV} {dst : Option Nat} {v : AV} (h : ∀ d, dst = some d → d ∉ looksA o) : o.xs.map (evO (put t dst v)) = o.xs.map (evO t) := by
  apply List.map_congr_left
  intro x hx
  refine ev_put fun d hd hxd => h d hd ?_
  exact List.mem_append_left _ (List.mem_filterMap.2 ⟨x, hx, hxd⟩)
theorem wants_put {o : AOper} {t : Nat → AV} {dst : Option Nat} {v : AV} (h : ∀ d, dst = some d → d ∉ looksA o) : wants o.guard (put t dst v) = wants o.guard t := by
  unfold wants
  split
  · rfl
  · rfl
  · rename_i d want hg
    cases dst with
    | none => rfl
    | some e =>
      have : d ≠ e := fun he => h e rfl (by simp [looksA, hg, he])
      simp [put, this]
def apartA (x y : AOper) : Bool :=
  (match x.dst with | some d => !hasB (looksA y) d && y.dst != some d | none => true) && (match y.dst with | some d => !hasB (looksA x) d | none => true)
theorem hasB_iff (l : List Nat) (k : Nat) : hasB l k = true ↔ k ∈ l := by
  induction l with
  | nil => simp [hasB]
  | cons i l ih =>
    simp only [hasB, List.mem_cons]
    cases h : Nat.beq i k with
    | true => have := Nat.eq_of_beq_eq_true h; simp [this]
    | false => have : i ≠ k := Nat.ne_of_beq_eq_false h; simp [ih, Ne.symm this]
theorem apartA_spec {x y : AOper} (h : apartA x y = true) : (∀ d, x.dst = some d → d ∉ looksA y) ∧ (∀ d, x.dst = some d → y.dst ≠ some d) ∧ (∀ d, y.dst = some d → d ∉ looksA x) := by
  refine ⟨fun d hd => ?_, fun d hd => ?_, fun d hd => ?_⟩ <;> simp only [apartA, hd, Bool.and_eq_true, Bool.not_eq_true'] at h
  · rw [← hasB_iff]; simp [h.1.1]
  · have := h.1.2; simpa using this
  · rw [← hasB_iff]; simp [h.2]

theorem upd_comm (h : Nat → AObj) {i j : Nat} (a b : AObj) (e : i ≠ j) : upd (upd h i a) j b = upd (upd h j b) i a := by
  funext k
  simp only [upd]
  by_cases h1 : k = j <;> by_cases h2 : k = i <;> simp_all
theorem updH_comm (h : Nat → AObj) (u : Nat) (o : AObj) : ∀ (l : List (Nat × AObj)), u ∉ l.map (·.1) → updH (upd h u o) l = upd (updH h l) u o
  | [], _ => rfl
  | p :: l, hu => by
    simp only [List.map_cons, List.mem_cons, not_or] at hu
    simp only [updH]
    rw [updH_comm h u o l hu.2]
    exact upd_comm _ _ _ hu.1

section
variable {P : Program} {md : Md}

theorem Eff.mono {i : Nat} {op : AOp} {xs : List AV} {h : Nat → AObj} {K K' : AV → List (Nat × AObj) → Prop} (hk : ∀ v ups, K v ups → K' v ups)
    (he : Eff P md i op xs h K) : Eff P md i op xs h K' := by
  obtain ⟨ids, out, h1, h2, h3, h4⟩ := he
  exact ⟨ids, out, h1, h2, h3, fun v ups ho => ⟨(h4 v ups ho).1, hk _ _ (h4 v ups ho).2⟩⟩
theorem Eff.upd {i : Nat} {op : AOp} {xs : List AV} {h : Nat → AObj} {K : AV → List (Nat × AObj) → Prop} {u : Nat} (hu : u ∈ md.U i) (o : AObj) :
    Eff P md i op xs (upd h u o) K ↔ Eff P md i op xs h K := by
  have key : ∀ ids : List Nat, u ∉ ids → ids.map (Am.upd h u o) = ids.map h := fun ids hn =>
    List.map_congr_left fun x hx => upd_ne h o (fun e => hn (e ▸ hx))
  constructor
  · rintro ⟨ids, out, h1, h2, h3⟩
    exact ⟨ids, out, by rw [key ids (h2 u hu)] at h1; exact h1, h2, h3⟩
  · rintro ⟨ids, out, h1, h2, h3⟩
    exact ⟨ids, out, by rw [key ids (h2 u hu)]; exact h1, h2, h3⟩
theorem Eff.keys {i : Nat} {op : AOp} {xs : List AV} {h : Nat → AObj} {K : AV → List (Nat × AObj) → Prop} (he : Eff P md i op xs h K) :
    Eff P md i op xs h fun v ups => K v ups ∧ ∀ u ∈ md.U i, u ∉ ups.map (·.1) := by
  obtain ⟨ids, out, h1, h2, h3, h4⟩ := he
  exact ⟨ids, out, h1, h2, h3, fun v ups ho => ⟨(h4 v ups ho).1, (h4 v ups ho).2, (h4 v ups ho).1⟩⟩
theorem Eff.some {i : Nat} {op : AOp} {xs : List AV} {h : Nat → AObj} {K : AV → List (Nat × AObj) → Prop} (hd : md.draw = true) (he : Eff P md i op xs h K) : ∃ v ups, K v ups := by
  obtain ⟨ids, out, h1, h2, h3, h4⟩ := he
  obtain ⟨v, ups, ho⟩ := h3 hd
  exact ⟨v, ups, (h4 v ups ho).2⟩

theorem Step.mono {i : Nat} {o : AOper} {K K' : S → Prop} {s : S} (hk : ∀ s, K s → K' s) (h : Step P md i o K s) : Step P md i o K' s := by
  unfold Step at *
  split
  · rename_i e; rw [e] at h; exact h
  · rename_i e; rw [e] at h; exact hk _ h
  · rename_i e
    rw [e] at h
    simp only at h
    split
    · rename_i e'
      rw [e'] at h
      exact Eff.mono (fun v ups hh => ⟨hh.1, hk _ hh.2⟩) h
    · rename_i e'
      rw [e'] at h
      obtain ⟨c, v, ups, h1, h2, h3⟩ := h
      exact ⟨c, v, ups, h1, h2, hk _ h3⟩

/-- What an operation does, in temps and a heap, is given by its look at them. -/
theorem Step.skip {i : Nat} {o : AOper} {K : S → Prop} {s : S} (hw : wants o.guard s.t = some false) : Step P md i o K s ↔ K ⟨put s.t o.dst (.val undef), s.h⟩ := by
  unfold Step; rw [hw]
theorem Step.eff {i : Nat} {o : AOper} {K : S → Prop} {s : S} (hw : wants o.guard s.t = some true) (hE : (isEff o.op || hasB md.E i) = true) :
    Step P md i o K s ↔ Eff P md i o.op (o.xs.map (evO s.t)) s.h fun v ups => md.ok (updH s.h ups) ∧ K ⟨put s.t o.dst v, updH s.h ups⟩ := by
  unfold Step; rw [hw]; simp only; rw [hE]
theorem Step.sim {i : Nat} {o : AOper} {K : S → Prop} {s : S} (hw : wants o.guard s.t = some true) (hE : (isEff o.op || hasB md.E i) = false) :
    Step P md i o K s ↔ ∃ c v ups, simple md i o.op (o.xs.map (evO s.t)) s.h = some (c, v, ups) ∧ c ∧ K ⟨put s.t o.dst v, updH s.h ups⟩ := by
  unfold Step; rw [hw]; simp only; rw [hE]
theorem Step.hasW {i : Nat} {o : AOper} {K : S → Prop} {s : S} (h : Step P md i o K s) : wants o.guard s.t = some true ∨ wants o.guard s.t = some false := by
  unfold Step at h
  split at h
  · exact h.elim
  · rename_i e; exact .inr e
  · rename_i e; exact .inl e
/-- In a region that draws an operation that is no effect looks at no heap. -/
theorem simple_look (hd : md.draw = true) (i : Nat) (op : AOp) (xs : List AV) (h h' : Nat → AObj) (hL : ∀ u, lOf md.L i = some u → h u = h' u) : simple md i op xs h = simple md i op xs h' := by
  have : md.lookI i h = md.lookI i h' := by
    unfold Md.lookI
    cases hl : lOf md.L i with
    | none => simp [Md.look, hd]
    | some u =>
      funext k
      simp only [one1]
      cases e : Nat.beq u k with
      | true => have := Nat.eq_of_beq_eq_true e; subst this; exact hL u hl
      | false => rfl
  unfold simple
  rw [this]
theorem simple_ups {i : Nat} {op : AOp} {xs : List AV} {h : Nat → AObj} {c : Prop} {v : AV} {ups : List (Nat × AObj)} (e : simple md i op xs h = some (c, v, ups)) :
    (isFresh op = false ∧ ups = []) ∨ (isFresh op = true ∧ ∃ o, ups = [(md.id i, o)]) := by
  unfold simple at e
  split at e
  · rename_i hf
    cases hh : fresh op xs (md.id i) with
    | none => rw [hh] at e; cases e
    | some r => rw [hh] at e; cases e; exact .inr ⟨hf, _, rfl⟩
  · rename_i hf
    generalize quiet op xs _ = q at e
    cases q with
    | none => cases e
    | some r => cases e; exact .inl ⟨hf, rfl⟩
theorem ok_upd (hR : ∀ k, md.base ≤ k → (findH md.R k).live = false) {h : Nat → AObj} {i : Nat} (o : AObj) : md.ok (upd h (md.id i) o) ↔ md.ok h := by
  have key : ∀ k, (findH md.R k).live = true → k ≠ md.id i := fun k hl e => by
    have := hR k (by rw [e]; unfold Md.id; omega)
    rw [this] at hl
    cases hl
  constructor
  · intro hk hd k hl
    have := hk hd k hl
    rwa [upd_ne h o (key k hl)] at this
  · intro hk hd k hl
    rw [upd_ne h o (key k hl)]
    exact hk hd k hl

/-- May i and j be exchanged? -/
structure Free (md : Md) (i j : Nat) (x y : AOper) : Prop where
  apart : apartA x y = true
  ne : i ≠ j
  ee : ¬ ((isEff x.op || hasB md.E i) = true ∧ (isEff y.op || hasB md.E j) = true)
  ef : (isEff x.op || hasB md.E i) = true → isFresh y.op = true → md.id j ∈ md.U i
  fe : isFresh x.op = true → (isEff y.op || hasB md.E j) = true → md.id i ∈ md.U j
  lx : ∀ u, lOf md.L i = some u → ((isEff y.op || hasB md.E j) = true → u ∈ md.U j) ∧ (isFresh y.op = true → u ≠ md.id j)
  ly : ∀ u, lOf md.L j = some u → ((isEff x.op || hasB md.E i) = true → u ∈ md.U i) ∧ (isFresh x.op = true → u ≠ md.id i)

theorem updH_out (h : Nat → AObj) : ∀ (ups : List (Nat × AObj)) (k : Nat), k ∉ ups.map (·.1) → updH h ups k = h k
  | [], _, _ => rfl
  | p :: l, k, hk => by
    simp only [List.map_cons, List.mem_cons, not_or] at hk
    simp only [updH]
    rw [upd_ne _ _ hk.1]
    exact updH_out h l k hk.2

theorem Step.swap (hd : md.draw = true) (hR : ∀ k, md.base ≤ k → (findH md.R k).live = false) {i j : Nat} {x y : AOper} {K : S → Prop} {s : S} (hf : Free md i j x y)
    (h : Step P md i x (Step P md j y K) s) : Step P md j y (Step P md i x K) s := by
  obtain ⟨a1, a2, a3⟩ := apartA_spec hf.apart
  have a2' : ∀ d, y.dst = some d → x.dst ≠ some d := fun d hd hi => a2 d hi hd
  have hidne : md.id i ≠ md.id j := by unfold Md.id; have := hf.ne; omega
  rcases h.hasW with wx | wx
  case inr =>
    rw [Step.skip wx] at h
    have redo : ∀ (hh : Nat → AObj) (u : AV), K ⟨put (put s.t y.dst u) x.dst (.val undef), hh⟩ → Step P md i x K ⟨put s.t y.dst u, hh⟩ := by
      intro hh u hk
      rw [Step.skip (by simp only; rw [wants_put a3]; exact wx)]
      exact hk
    generalize Step P md i x K = K2 at redo
    unfold Step at h ⊢
    simp only at h
    rw [wants_put a1, evs_put a1] at h
    split
    · rename_i e; rw [e] at h; exact h
    · rename_i e; rw [e] at h; exact redo _ _ (by rw [put_comm _ _ _ a2']; exact h)
    · rename_i e
      rw [e] at h
      simp only at h ⊢
      split
      · rename_i e'
        rw [e'] at h
        exact Eff.mono (fun v ups hh => ⟨hh.1, redo _ _ (by rw [put_comm _ _ _ a2']; exact hh.2)⟩) h
      · rename_i e'
        rw [e'] at h
        obtain ⟨c, v, ups, h1, h2, h3⟩ := h
        exact ⟨c, v, ups, h1, h2, redo _ _ (by rw [put_comm _ _ _ a2']; exact h3)⟩
  cases hEx : (isEff x.op || hasB md.E i) with
  | false =>
    rw [Step.sim wx hEx] at h
    obtain ⟨c, v, ups, h1, h2, h3⟩ := h
    have redo : ∀ (hh : Nat → AObj) (u : AV), (∀ q, lOf md.L i = some q → s.h q = hh q) → K ⟨put (put s.t y.dst u) x.dst v, updH hh ups⟩ → Step P md i x K ⟨put s.t y.dst u, hh⟩ := by
      intro hh u hq hk
      rw [Step.sim (by simp only; rw [wants_put a3]; exact wx) hEx]
      refine ⟨c, v, ups, ?_, h2, hk⟩
      simp only
      rw [evs_put a3, ← simple_look hd i x.op _ s.h hh hq]
      exact h1
    have h' := h3
    generalize Step P md i x K = K2 at redo
    unfold Step at h' ⊢
    simp only at h'
    rw [wants_put a1, evs_put a1] at h'
    split
    · rename_i e; rw [e] at h'; exact h'
    · rename_i e; rw [e] at h'
      simp only at h'
      exact redo _ _ (fun _ _ => rfl) (by rw [put_comm _ _ _ a2']; exact h')
    · rename_i e
      rw [e] at h'
      simp only at h' ⊢
      split
      · rename_i e'
        rw [e'] at h'
        simp only at h'
        have lxe := fun q hq => (hf.lx q hq).1 e'
        rcases simple_ups h1 with ⟨hfr, rfl⟩ | ⟨hfr, o, rfl⟩
        · refine Eff.mono (fun u ups' hh => ⟨hh.1.1, redo _ _ (fun q hq => (updH_out _ _ _ (hh.2 q (lxe q hq))).symm) ?_⟩) h'.keys
          rw [put_comm _ _ _ a2']
          exact hh.1.2
        · have hu := hf.fe hfr e'
          have h4 := ((Eff.upd (K := _) hu o).1 h').keys
          refine Eff.mono (fun u ups' hh => ?_) h4
          obtain ⟨⟨hok, hk⟩, hkeys⟩ := hh
          have hc := updH_comm s.h (md.id i) o ups' (hkeys _ hu)
          simp only [updH] at hok hk
          rw [hc] at hok hk
          refine ⟨(ok_upd hR o).1 hok, redo _ _ (fun q hq => (updH_out _ _ _ (hkeys q (lxe q hq))).symm) ?_⟩
          rw [put_comm _ _ _ a2']; exact hk
      · rename_i e'
        rw [e'] at h'
        obtain ⟨c', u, ups', g1, g2, g3⟩ := h'
        refine ⟨c', u, ups', by
          rw [simple_look hd j y.op _ s.h (updH s.h ups) (fun q hq => by
            rcases simple_ups h1 with ⟨_, rfl⟩ | ⟨hfr, o, rfl⟩
            · rfl
            · exact (updH_out _ _ _ (by simpa using (hf.ly q hq).2 hfr)).symm)]; exact g1, g2, redo _ _ (fun q hq => by
            rcases simple_ups g1 with ⟨_, rfl⟩ | ⟨hfr, o, rfl⟩
            · rfl
            · exact (updH_out _ _ _ (by simpa using (hf.lx q hq).2 hfr)).symm) ?_⟩
        rw [put_comm _ _ _ a2']
        have : updH (updH s.h ups') ups = updH (updH s.h ups) ups' := by
          rcases simple_ups h1 with ⟨_, rfl⟩ | ⟨_, o, rfl⟩
          · rfl
          · rcases simple_ups g1 with ⟨_, rfl⟩ | ⟨_, o', rfl⟩
            · rfl
            · simp only [updH]; exact upd_comm _ _ _ hidne.symm
        rw [this]; exact g3
  | true =>
    have hEy : (isEff y.op || hasB md.E j) = false := by
      cases e : (isEff y.op || hasB md.E j) with
      | false => rfl
      | true => exact absurd ⟨hEx, e⟩ hf.ee
    rw [Step.eff wx hEx] at h
    have h := Eff.keys h
    have out : ∀ v ups, (∀ u ∈ md.U i, u ∉ ups.map (·.1)) → Step P md j y K ⟨put s.t x.dst v, updH s.h ups⟩ → (wants y.guard s.t = some false ∧ K ⟨put (put s.t x.dst v) y.dst (.val undef), updH s.h ups⟩) ∨
        (wants y.guard s.t = some true ∧ ∃ c u ups', simple md j y.op (y.xs.map (evO s.t)) s.h = some (c, u, ups') ∧ c ∧ K ⟨put (put s.t x.dst v) y.dst u, updH (updH s.h ups) ups'⟩) := by
      intro v ups hks hs
      rcases hs.hasW with w' | w'
      · refine .inr ⟨by simp only at w'; rw [wants_put a1] at w'; exact w', ?_⟩
        rw [Step.sim w' hEy] at hs
        obtain ⟨c, u, ups', g1, g2, g3⟩ := hs
        simp only at g1
        rw [evs_put a1, simple_look hd j y.op _ _ s.h (fun q hq => updH_out _ _ _ (hks q ((hf.ly q hq).1 hEx)))] at g1
        exact ⟨c, u, ups', g1, g2, g3⟩
      · refine .inl ⟨by simp only at w'; rw [wants_put a1] at w'; exact w', ?_⟩
        rw [Step.skip w'] at hs
        exact hs
    obtain ⟨v0, ups0, ⟨hok0, hs0⟩, hk0⟩ := Eff.some hd h
    rcases out v0 ups0 hk0 hs0 with ⟨wy, _⟩ | ⟨wy, c, u, ups', g1, g2, _⟩
    · rw [Step.skip wy, Step.eff (by simp only; rw [wants_put a3]; exact wx) hEx]
      simp only
      rw [evs_put a3]
      refine Eff.mono (fun v ups hh => ⟨hh.1.1, ?_⟩) h
      rcases out v ups hh.2 hh.1.2 with ⟨_, hk⟩ | ⟨wy', _⟩
      · rw [put_comm _ _ _ a2']; exact hk
      · rw [wy] at wy'; cases wy'
    · rw [Step.sim wy hEy]
      refine ⟨c, u, ups', g1, g2, ?_⟩
      rw [Step.eff (by simp only; rw [wants_put a3]; exact wx) hEx]
      simp only
      rw [evs_put a3]
      have hh' : Eff P md i x.op (x.xs.map (evO s.t)) (updH s.h ups') fun v ups => md.ok (updH s.h ups) ∧ (Step P md j y K ⟨put s.t x.dst v, updH s.h ups⟩ ∧ ∀ u ∈ md.U i, u ∉ ups.map (·.1)) ∧ updH (updH s.h ups') ups = updH (updH s.h ups) ups' := by
        rcases simple_ups g1 with ⟨_, rfl⟩ | ⟨hfr, o, rfl⟩
        · exact Eff.mono (fun v ups hh => ⟨hh.1.1, ⟨hh.1.2, hh.2⟩, rfl⟩) h
        · have hu := hf.ef hEx hfr
          refine (Eff.upd (K := _) hu o).2 ?_
          refine Eff.mono (fun v ups hh => ⟨hh.1.1, ⟨hh.1.2, hh.2⟩, ?_⟩) h
          exact updH_comm s.h _ o ups (hh.2 _ hu)
      refine Eff.mono (fun v ups hh => ⟨?_, ?_⟩) hh'
      · rw [hh.2.2]
        rcases simple_ups g1 with ⟨_, rfl⟩ | ⟨_, o, rfl⟩
        · exact hh.1
        · exact (ok_upd hR o).2 hh.1
      · rcases out v ups hh.2.1.2 hh.2.1.1 with ⟨wy', _⟩ | ⟨_, c2, u2, ups2, k1, k2, hk⟩
        · rw [wy] at wy'; cases wy'
        · rw [g1] at k1
          cases k1
          rw [put_comm _ _ _ a2', hh.2.2]
          exact hk

/-- Ahead of 'late' a region draws; from there on it goes as its text does. -/
def Md.tail (md : Md) : Md := ⟨false, md.base, [], [], [], []⟩
def Md.at_ (md : Md) (late i : Nat) : Md := cond (Nat.blt i late) md md.tail
theorem Md.at_lt {md : Md} {late i : Nat} (h : i < late) : md.at_ late i = md := by
  unfold Md.at_; rw [Nat.blt_eq.mpr h]; rfl
theorem Md.at_ge {md : Md} {late i : Nat} (h : late ≤ i) : md.at_ late i = md.tail := by
  unfold Md.at_
  cases e : Nat.blt i late with
  | false => rfl
  | true => exact absurd (Nat.blt_eq.mp e) (by omega)
def runX (P : Program) (md : Md) (late : Nat) : List (Nat × AOper) → (S → Prop) → S → Prop
  | [], K, s => K s
  | (i, o) :: l, K, s => Step P (md.at_ late i) i o (runX P md late l K) s
theorem runX_lt {late : Nat} {K : S → Prop} {l2 : List (Nat × AOper)} : ∀ (l : List (Nat × AOper)) (s : S), (∀ p ∈ l, p.1 < late) → runP P md l (runX P md late l2 K) s → runX P md late (l ++ l2) K s
  | [], _, _, h => h
  | (i, o) :: l, s, hl, h => by
    simp only [List.cons_append, runX]
    rw [Md.at_lt (hl (i, o) List.mem_cons_self)]
    exact Step.mono (fun s' hk => runX_lt l s' (fun p hp => hl p (List.mem_cons_of_mem _ hp)) hk) h
theorem runX_ge {late : Nat} {K : S → Prop} : ∀ (l : List (Nat × AOper)) (s : S), (∀ p ∈ l, late ≤ p.1) → runP P md.tail l K s → runX P md late l K s
  | [], _, _, h => h
  | (i, o) :: l, s, hl, h => by
    simp only [runX]
    rw [Md.at_ge (hl (i, o) List.mem_cons_self)]
    exact Step.mono (fun s' hk => runX_ge l s' (fun p hp => hl p (List.mem_cons_of_mem _ hp)) hk) h
theorem pull (hd : md.draw = true) (hR : ∀ k, md.base ≤ k → (findH md.R k).live = false) {late : Nat} {K : S → Prop} {j : Nat} {oj : AOper} {l2 : List (Nat × AOper)} :
    ∀ (l1 : List (Nat × AOper)) (s : S), (∀ p ∈ l1, p.1 < late ∧ j < late ∧ Free md p.1 j p.2 oj) → runX P md late (l1 ++ (j, oj) :: l2) K s → Step P (md.at_ late j) j oj (runX P md late (l1 ++ l2) K) s
  | [], _, _, h => h
  | (i, oi) :: l1, s, hp, h => by
    have h' : Step P (md.at_ late i) i oi (Step P (md.at_ late j) j oj (runX P md late (l1 ++ l2) K)) s :=
      Step.mono (fun s' hk => pull hd hR l1 s' (fun p hm => hp p (List.mem_cons_of_mem _ hm)) hk) h
    obtain ⟨h1, h2, h3⟩ := hp (i, oi) List.mem_cons_self
    simp only [List.cons_append, runX]
    rw [Md.at_lt h1, Md.at_lt h2] at h' ⊢
    exact Step.swap hd hR h3 h'

/-- In any order that the edges allow. -/
def anyP (P : Program) (mo : Region.Mode) (ops : Array Oper) (aops : List AOper) (md : Md) (late : Nat) (K : S → Prop) : Nat → Array Bool → S → Prop
  | 0, listed, s => Region.ready mo ops listed = [] ∧ K s
  | fuel + 1, listed, s => (Region.ready mo ops listed = [] → K s) ∧
    ∀ i ∈ Region.ready mo ops listed, (late ≤ i → ∀ j, j < i → listed.getD j false = true) ∧ ∃ o, aops[i]? = some o ∧ Step P (md.at_ late i) i o (anyP P mo ops aops md late K fuel (listed.setIfInBounds i true)) s

open Go.Proofs.YtopidfkmligljaaGreat in
/-- i stands ahead of j in the text. -/
structure FitsA (mo : Region.Mode) (ops : Array Oper) (md : Md) (late : Nat) (p q : Nat × AOper) : Prop where
  ne : p.1 ≠ q.1
  no : ∀ o, ops[p.1]? = some o → ∀ e ∈ o.after, Region.binds mo e = true → e.on ≠ q.1
  or : (∀ (listed : Array Bool), Seq.Closed mo ops listed → q.1 ∈ Region.ready mo ops listed → listed.getD p.1 false = true) ∨ (p.1 < late ∧ q.1 < late ∧ Free md p.1 q.1 p.2 q.2)

open Go.Proofs.YtopidfkmligljaaGreat in
theorem any_of_run {mo : Region.Mode} {ops : Array Oper} {aops : List AOper} {late : Nat} {K : S → Prop} (hd : md.draw = true) (hR : ∀ k, md.base ≤ k → (findH md.R k).live = false)
    (hlate : ∀ (listed : Array Bool) (j : Nat), Seq.Closed mo ops listed → j ∈ Region.ready mo ops listed → late ≤ j → ∀ i, i < j → listed.getD i false = true) (hsz0 : aops.length = ops.size) :
    ∀ (fuel : Nat) (l : List (Nat × AOper)) (listed : Array Bool) (s : S), l.length ≤ fuel → listed.size = ops.size →
      (∀ p, p ∈ l ↔ (aops[p.1]? = some p.2 ∧ listed.getD p.1 true = false)) → Seq.Closed mo ops listed → l.Pairwise (FitsA mo ops md late) →
      (∀ p ∈ l, ∀ o, ops[p.1]? = some o → ∀ e ∈ o.after, Region.binds mo e = true → e.on ≠ p.1) → (∀ o ∈ ops, ∀ e ∈ o.after, Region.binds mo e = true → e.on < ops.size) →
      runX P md late l K s → anyP P mo ops aops md late K fuel listed s := by
  intro fuel
  induction fuel with
  | zero =>
    intro l listed s hlen hsz hl hc hpw hself hlt h
    have hl0 : l = [] := List.eq_nil_of_length_eq_zero (by omega)
    subst hl0
    refine ⟨?_, h⟩
    rw [List.eq_nil_iff_forall_not_mem]
    intro j hj
    obtain ⟨h0, o, ho, _⟩ := mem_ready.1 hj
    have hjl : j < aops.length := by rw [hsz0]; exact (Array.getElem?_eq_some_iff.1 ho).1
    have := (hl (j, aops[j])).2 ⟨by simp [hjl], h0⟩
    cases this
  | succ fuel ih =>
    intro l listed s hlen hsz hl hc hpw hself hlt h
    refine ⟨fun hr => ?_, fun j hj => ?_⟩
    · cases l with
      | nil => exact h
      | cons p l =>
        exfalso
        obtain ⟨hp1, hp2⟩ := (hl p).1 List.mem_cons_self
        have hpl : p.1 < ops.size := by rw [← hsz0]; exact (List.getElem?_eq_some_iff.1 hp1).1
        have : p.1 ∈ Region.ready mo ops listed := by
          refine mem_ready.2 ⟨hp2, ops[p.1], by simp [hpl], fun e he hb => ?_⟩
          have hon := hlt ops[p.1] (Array.getElem_mem hpl) e he hb
          cases hx : listed.getD e.on true with
          | true =>
            rw [← hsz] at hon
            simp [hon] at hx ⊢
            exact hx
          | false =>
            exfalso
            have honl : e.on < aops.length := by rw [hsz0]; exact hon
            have hmem := (hl (e.on, aops[e.on])).2 ⟨by simp [honl], hx⟩
            rcases List.mem_cons.1 hmem with heq | hmem
            · exact hself p List.mem_cons_self _ (by simp [hpl]) e he hb (by rw [← heq])
            · exact ((List.pairwise_cons.1 hpw).1 _ hmem).no _ (by simp [hpl]) e he hb rfl
        rw [hr] at this
        cases this
    · obtain ⟨hj0, oj, hoj, hjall⟩ := mem_ready.1 hj
      have hjl : j < aops.length := by rw [hsz0]; exact (Array.getElem?_eq_some_iff.1 hoj).1
      have haj : aops[j]? = some aops[j] := by simp [hjl]
      have hmem := (hl (j, aops[j])).2 ⟨haj, hj0⟩
      obtain ⟨l1, l2, rfl⟩ := List.append_of_mem hmem
      have hpw' := List.pairwise_append.1 hpw
      have hfit : ∀ p ∈ l1, FitsA mo ops md late p (j, aops[j]) := fun p hp => hpw'.2.2 p hp (j, aops[j]) List.mem_cons_self
      have hstep := pull (P := P) (K := K) hd hR l1 s (fun p hp => by
        rcases (hfit p hp).or with h1 | h1
        · exfalso
          have h2 := h1 listed hc hj
          have h3 := ((hl p).1 (List.mem_append_left _ hp)).2
          rcases Nat.lt_or_ge p.1 listed.size with h' | h'
          · simp [h'] at h2 h3; rw [h2] at h3; cases h3
          · simp [Array.getElem?_eq_none h'] at h2
        · exact h1) h
      refine ⟨fun hlj => hlate listed j hc hj hlj, aops[j], haj, Step.mono (fun s' hk => ?_) hstep⟩
      have hjs : j < listed.size := by rw [hsz]; exact (Array.getElem?_eq_some_iff.1 hoj).1
      refine ih (l1 ++ l2) (listed.setIfInBounds j true) s' (by simp at hlen ⊢; omega) (by simpa using hsz) (fun p => ?_) ?_ ?_ ?_ hlt hk
      · have hnj : ∀ p ∈ l1 ++ l2, p.1 ≠ j := by
          intro p hp
          rcases List.mem_append.1 hp with hp | hp
          · exact (hfit p hp).ne
          · exact fun e => (List.pairwise_cons.1 hpw'.2.1).1 p hp |>.ne e.symm
        constructor
        · intro hp
          have h0 := (hl p).1 (by rcases List.mem_append.1 hp with hp | hp <;> simp [hp])
          exact ⟨h0.1, by rw [getD_set_ne true (Ne.symm (hnj p hp))]; exact h0.2⟩
        · rintro ⟨h1, h2⟩
          have hne : p.1 ≠ j := by
            intro e
            rw [e] at h2
            simp [hjs] at h2
          rw [getD_set_ne true (Ne.symm hne)] at h2
          have h3 := (hl p).2 ⟨h1, h2⟩
          rcases List.mem_append.1 h3 with h4 | h4
          · exact List.mem_append_left _ h4
          · rcases List.mem_cons.1 h4 with h5 | h5
            · exact absurd (by rw [h5]) hne
            · exact List.mem_append_right _ h5
      · intro k o hk' hlk e he hb
        by_cases hkj : k = j
        · subst hkj
          obtain rfl : o = oj := by rw [hoj] at hk'; injection hk' with h; exact h.symm
          exact getD_set_true (hjall e he hb)
        · rw [getD_set_ne false (Ne.symm hkj)] at hlk
          exact getD_set_true (hc k o hk' hlk e he hb)
      · exact hpw.sublist (List.Sublist.append_left (List.sublist_cons_self _ _) _)
      · exact fun p hp => hself p (by rcases List.mem_append.1 hp with hp | hp <;> simp [hp])

/-! ### The check -/
def numberA : Nat → List AOper → List (Nat × AOper)
  | _, [] => []
  | k, o :: l => (k, o) :: numberA (k + 1) l
def hasP : List (Nat × Nat) → Nat → Nat → Bool
  | [], _, _ => false
  | p :: l, j, i => cond (Nat.beq p.1 j && Nat.beq p.2 i) true (hasP l j i)
def isE (E : List Nat) (i : Nat) (o : AOper) : Bool := isEff o.op || hasB E i
def freeB (E : List Nat) (F : List (Nat × Nat)) (p q : Nat × AOper) : Bool :=
  Nat.blt p.1 100000 && Nat.blt q.1 100000 && apartA p.2 q.2 && !(isE E p.1 p.2 && isE E q.1 q.2) && (!(isE E p.1 p.2 && isFresh q.2.op) || hasP F p.1 q.1) && (!(isFresh p.2.op && isE E q.1 q.2) || hasP F q.1 p.1) && (!(hasP F (100000 + q.1) 0 && isE E p.1 p.2) || hasP F p.1 (100000 + q.1)) && (!(hasP F (100000 + p.1) 0 && isE E q.1 q.2) || hasP F q.1 (100000 + p.1))
def afterB (mo : Region.Mode) (ops : Array Oper) (i j : Nat) : Bool :=
  match ops[i]? with
  | some o => !(o.after.any fun e => Region.binds mo e && Nat.beq e.on j)
  | none => true
def pairsA (mo : Region.Mode) (ops : Array Oper) (late : Nat) (E : List Nat) (F : List (Nat × Nat)) (ms : List Nat) : List (Nat × AOper) → Bool
  | [] => true
  | p :: l => (l.all fun q => afterB mo ops p.1 q.1 && ((ms.getD q.1 0).testBit p.1 || (Nat.blt q.1 late && freeB E F p q))) && afterB mo ops p.1 p.1 && pairsA mo ops late E F ms l
/-- Who is late waits for all ahead of it. -/
def lateB (late : Nat) (ms : List Nat) (l : List (Nat × AOper)) : Bool :=
  l.all fun q => Nat.blt q.1 late || (List.range q.1).all fun i => (ms.getD q.1 0).testBit i
open Go.Proofs.YtopidfkmligljaaGreat in
def orderB (ops : Array Oper) (aops : List AOper) (late : Nat) (E : List Nat) (F : List (Nat × Nat)) : Bool :=
  Seq.inB ops && Nat.beq aops.length ops.size && pairsA .any ops late E F (Seq.masks .any ops.toList []) (numberA 0 aops) && lateB late (Seq.masks .any ops.toList []) (numberA 0 aops)

theorem usOf_more {base : Nat} {L : List (Nat × Nat)} {a b : Nat} {l : List (Nat × Nat)} {j u : Nat} (h : u ∈ usOf base L l j) : u ∈ usOf base L ((a, b) :: l) j := by
  simp only [usOf]
  split
  · exact h
  · split
    · exact List.mem_cons_of_mem _ h
    · split
      · exact List.mem_cons_of_mem _ h
      · exact h
theorem usOf_has {base : Nat} {L : List (Nat × Nat)} : ∀ {F : List (Nat × Nat)} {j i : Nat}, i < 100000 → hasP F j i = true → base + 16 * i ∈ usOf base L F j
  | [], _, _, _, h => by cases h
  | p :: l, j, i, hi, h => by
    obtain ⟨a, b⟩ := p
    simp only [hasP] at h
    cases h1 : Nat.beq a j && Nat.beq b i with
    | true =>
      rw [Bool.and_eq_true] at h1
      have h2 := Nat.eq_of_beq_eq_true h1.2
      subst h2
      have h3 : Nat.ble 100000 b = false := by
        cases e : Nat.ble 100000 b with
        | false => rfl
        | true => have := Nat.le_of_ble_eq_true e; omega
      simp only [usOf, h1.1, h3]
      exact List.mem_cons_self
    | false => rw [h1] at h; exact usOf_more (usOf_has hi h)
theorem usOf_late {base : Nat} {L : List (Nat × Nat)} {i u : Nat} (hu : lOf L i = some u) : ∀ {F : List (Nat × Nat)} {j : Nat}, hasP F j (100000 + i) = true → u ∈ usOf base L F j
  | [], _, h => by cases h
  | p :: l, j, h => by
    obtain ⟨a, b⟩ := p
    simp only [hasP] at h
    cases h1 : Nat.beq a j && Nat.beq b (100000 + i) with
    | true =>
      rw [Bool.and_eq_true] at h1
      have h2 := Nat.eq_of_beq_eq_true h1.2
      subst h2
      have h3 : Nat.ble 100000 (100000 + i) = true := Nat.ble_eq_true_of_le (by omega)
      simp only [usOf, h1.1, h3, Nat.add_sub_cancel_left, hu]
      exact List.mem_cons_self
    | false => rw [h1] at h; exact usOf_more (usOf_late hu h)
/-- The late reads are marked, and look into no block that is made in the region but by a call. -/
structure LOk (md : Md) (l : List (Nat × AOper)) : Prop where
  mark : ∀ i u, lOf md.L i = some u → hasP md.F (100000 + i) 0 = true
  new : ∀ i u, lOf md.L i = some u → ∀ p ∈ l, isFresh p.2.op = true → u ≠ md.id p.1
theorem LOk.sub {l m : List (Nat × AOper)} (h : LOk md l) (hs : ∀ p ∈ m, p ∈ l) : LOk md m := ⟨h.mark, fun i u hu p hp => h.new i u hu p (hs p hp)⟩
theorem numberA_get : ∀ (l : List AOper) (k : Nat) (p : Nat × AOper), p ∈ numberA k l → k ≤ p.1 ∧ l[p.1 - k]? = some p.2
  | [], _, _, h => by cases h
  | o :: l, k, p, h => by
    rcases List.mem_cons.1 h with rfl | h
    · exact ⟨Nat.le_refl _, by simp⟩
    · obtain ⟨h1, h2⟩ := numberA_get l (k + 1) p h
      refine ⟨by omega, ?_⟩
      have : p.1 - k = (p.1 - (k + 1)) + 1 := by omega
      rw [this, List.getElem?_cons_succ]
      exact h2
theorem numberA_has : ∀ (l : List AOper) (k i : Nat) (o : AOper), l[i]? = some o → (k + i, o) ∈ numberA k l
  | [], _, _, _, h => by simp at h
  | o' :: l, k, 0, o, h => by simp at h; subst h; exact List.mem_cons_self
  | o' :: l, k, i + 1, o, h => by
    have := numberA_has l (k + 1) i o (by simpa using h)
    rw [show k + (i + 1) = k + 1 + i from by omega]
    exact List.mem_cons_of_mem _ this
theorem numberA_len : ∀ (l : List AOper) (k : Nat), (numberA k l).length = l.length
  | [], _ => rfl
  | o :: l, k => by simp [numberA, numberA_len l]
theorem afterB_spec {mo : Region.Mode} {ops : Array Oper} {i j : Nat} (h : afterB mo ops i j = true) (o : Oper) (ho : ops[i]? = some o) (e : Edge) (he : e ∈ o.after) (hb : Region.binds mo e = true) : e.on ≠ j := by
  intro heq
  unfold afterB at h
  rw [ho] at h
  simp only [Bool.not_eq_true'] at h
  have : (o.after.any fun e => Region.binds mo e && Nat.beq e.on j) = true := Array.any_eq_true'.2 ⟨e, he, by simp [hb, heq]⟩
  rw [this] at h
  cases h
theorem freeB_spec {E : List Nat} {F : List (Nat × Nat)} (hE : md.E = E) (hF : md.F = F) {p q : Nat × AOper} {l : List (Nat × AOper)} (hLo : LOk md l) (hpl : p ∈ l) (hql : q ∈ l) (hne : p.1 ≠ q.1) (h : freeB E F p q = true) : Free md p.1 q.1 p.2 q.2 := by
  subst hE; subst hF
  simp only [freeB, isE, Bool.and_eq_true, Bool.not_eq_true', Bool.or_eq_true] at h
  obtain ⟨⟨⟨⟨⟨⟨⟨hp0, hq0⟩, h1⟩, h2⟩, h3⟩, h4⟩, h5⟩, h6⟩ := h
  have hp0 := Nat.blt_eq.mp hp0
  have hq0 := Nat.blt_eq.mp hq0
  refine ⟨h1, hne, fun hh => ?_, fun a b => ?_, fun a b => ?_, fun u hu => ⟨fun a => ?_, fun a => hLo.new _ _ hu q hql a⟩, fun u hu => ⟨fun a => ?_, fun a => hLo.new _ _ hu p hpl a⟩⟩
  · rw [hh.1, hh.2] at h2; cases h2
  · rcases h3 with h3 | h3
    · rw [a, b] at h3; cases h3
    · exact usOf_has hq0 h3
  · rcases h4 with h4 | h4
    · rw [a, b] at h4; cases h4
    · exact usOf_has hp0 h4
  · rcases h6 with h6 | h6
    · rw [hLo.mark _ _ hu, a] at h6; cases h6
    · exact usOf_late hu h6
  · rcases h5 with h5 | h5
    · rw [hLo.mark _ _ hu, a] at h5; cases h5
    · exact usOf_late hu h5
open Go.Proofs.YtopidfkmligljaaGreat in
theorem pairsA_fit {mo : Region.Mode} {ops : Array Oper} {late : Nat} {E : List Nat} {F : List (Nat × Nat)} (hE : md.E = E) (hF : md.F = F)
    (hms : ∀ i m, (Seq.masks mo ops.toList [])[i]? = some m → (∃ oi, ops[i]? = some oi) ∧ Seq.Good mo ops i m) :
    ∀ (l : List AOper) (k : Nat), LOk md (numberA k l) → pairsA mo ops late E F (Seq.masks mo ops.toList []) (numberA k l) = true →
      (numberA k l).Pairwise (FitsA mo ops md late) ∧ ∀ p ∈ numberA k l, ∀ o, ops[p.1]? = some o → ∀ e ∈ o.after, Region.binds mo e = true → e.on ≠ p.1
  | [], _, _, _ => ⟨List.Pairwise.nil, fun _ h => by cases h⟩
  | o :: l, k, hLo, h => by
    simp only [numberA, pairsA, Bool.and_eq_true, List.all_eq_true] at h
    obtain ⟨⟨h1, h2⟩, h3⟩ := h
    have ih := pairsA_fit hE hF hms l (k + 1) (hLo.sub fun p hp => List.mem_cons_of_mem _ hp) h3
    refine ⟨List.Pairwise.cons (fun q hq => ?_) ih.1, fun p hp => ?_⟩
    · have hp := h1 q hq
      obtain ⟨hq1, hq2⟩ := numberA_get l (k + 1) q hq
      have hne : k ≠ q.1 := by omega
      refine ⟨hne, fun o' ho' e he hb => afterB_spec hp.1 o' ho' e he hb, ?_⟩
      rcases Bool.or_eq_true _ _ ▸ hp.2 with hbit | hfree
      · refine .inl fun listed hc hr => ?_
        obtain ⟨_, oq, hoq, hall⟩ := mem_ready.1 hr
        cases hm : (Seq.masks mo ops.toList [])[q.1]? with
        | none => rw [List.getD_eq_getElem?_getD, hm] at hbit; simp at hbit
        | some m =>
          rw [List.getD_eq_getElem?_getD, hm] at hbit
          exact (hms q.1 m hm).2 listed oq hc hoq hall k hbit
      · rw [Bool.and_eq_true] at hfree
        have hql : q.1 < late := Nat.blt_eq.mp hfree.1
        exact .inr ⟨by show k < late; omega, hql, freeB_spec hE hF hLo List.mem_cons_self (List.mem_cons_of_mem _ hq) hne hfree.2⟩
    · rcases List.mem_cons.1 hp with rfl | hp
      · exact fun o' ho' e he hb => afterB_spec h2 o' ho' e he hb
      · exact ih.2 p hp
open Go.Proofs.YtopidfkmligljaaGreat in
theorem any_of_text {ops : Array Oper} {aops : List AOper} {late : Nat} {K : S → Prop} {s : S} (hd : md.draw = true) (hR : ∀ k, md.base ≤ k → (findH md.R k).live = false)
    (hB : orderB ops aops late md.E md.F = true) (hLo : LOk md (numberA 0 aops)) (h : runX P md late (numberA 0 aops) K s) : anyP P .any ops aops md late K ops.size (Array.replicate ops.size false) s := by
  simp only [orderB, Bool.and_eq_true] at hB
  obtain ⟨⟨⟨hin, hlen⟩, hpairs⟩, hlateB⟩ := hB
  have hlen := Nat.eq_of_beq_eq_true hlen
  have hms := Seq.masks_good (md := .any) (ops := ops) ops.toList [] (fun i => by simp) (fun i m hi => by simp at hi)
  have hfit := pairsA_fit (md := md) rfl rfl hms aops 0 hLo hpairs
  have hlate : ∀ (listed : Array Bool) (j : Nat), Seq.Closed .any ops listed → j ∈ Region.ready .any ops listed → late ≤ j → ∀ i, i < j → listed.getD i false = true := by
    intro listed j hc hr hj i hi
    obtain ⟨_, oq, hoq, hall⟩ := mem_ready.1 hr
    have hjl : j < aops.length := by rw [hlen]; exact (Array.getElem?_eq_some_iff.1 hoq).1
    have hmem := numberA_has aops 0 j aops[j] (by simp [hjl])
    rw [Nat.zero_add] at hmem
    unfold lateB at hlateB
    have h1 := List.all_eq_true.1 hlateB _ hmem
    rw [Bool.or_eq_true] at h1
    rcases h1 with h1 | h1
    · exact absurd (Nat.blt_eq.mp h1) (by show ¬ (j < late); omega)
    · have hbit := List.all_eq_true.1 h1 i (List.mem_range.2 hi)
      cases hm : (Seq.masks .any ops.toList [])[j]? with
      | none => rw [List.getD_eq_getElem?_getD, hm] at hbit; simp at hbit
      | some m =>
        rw [List.getD_eq_getElem?_getD, hm] at hbit
        exact (hms j m hm).2 listed oq hc hoq hall i hbit
  refine any_of_run hd hR hlate hlen _ (numberA 0 aops) _ s (by rw [numberA_len, hlen]; exact Nat.le_refl _) (by simp) (fun p => ?_) ?_ hfit.1 hfit.2 ?_ h
  · constructor
    · intro hp
      obtain ⟨_, h2⟩ := numberA_get aops 0 p hp
      have h3 : aops[p.1]? = some p.2 := by simpa using h2
      have h4 := (List.getElem?_eq_some_iff.1 h3).1
      exact ⟨h3, by have h5 : p.1 < ops.size := by omega
                    simp [h5]⟩
    · rintro ⟨h1, _⟩
      have := numberA_has aops 0 p.1 p.2 h1
      simpa using this
  · intro j o hj hl
    rcases Nat.lt_or_ge j ops.size with h' | h'
    · simp [h'] at hl
    · simp [h'] at hl
  · intro o ho e he _
    have h4 := Array.all_eq_true_iff_forall_mem.1 hin o ho
    have h5 := Array.all_eq_true_iff_forall_mem.1 h4 e he
    simpa using h5
end
end Go.Am
/- Own theory, no program in sight: the operations that write are as the model has them. -/
namespace Go.Am
open Go Go.RowKit
set_option linter.unusedVariables false
set_option linter.unusedSimpArgs false

/-- What an operation that writes leaves. -/
def EffRes (B : BM) (h : Nat → AObj) (w : World) (f : Nat) (v : AV) (ups : List (Nat × AObj)) (r : Value) (w' : World) : Prop :=
  ∃ B', BLe B B' ∧ VR B' v r ∧ HR B' (updH h ups) w' ∧ Kept (Mine B h w) w w' ∧ (∀ i b n, (updH h ups i).own = true → B' i = some (b, n) → Mine B h w b) ∧
    (∀ b a, B'.z b = some a → B.z b = some a ∨ Mine B h w b) ∧ ∀ k, B' k ≠ none → B k ≠ none ∨ (f ≤ k ∧ k < f + 16)
structure New (w w' : World) : Prop where
  os : w'.os = w.os
  tape : w'.tape = w.tape
  output : w'.output = w.output
  size : w.heap.size ≤ w'.heap.size
  block : ∀ b, b < w.heap.size → w'.heap[b]? = w.heap[b]?
theorem New.kept {w w' : World} (h : New w w') (mine : Nat → Prop) : Kept mine w w' := ⟨h.os, h.tape, h.output, h.size, fun b hb _ => h.block b hb⟩
section
variable {P : Program} {B : BM} {w : World} {t : Nat → AV} {a : Act}

/-- A new block of cells. -/
theorem res_new {h : Nat → AObj} {f : Nat} {o : AObj} {v : AV} {r : Value} {w' : World} {n : Nat} (hr : HR B h w) (hf : B f = none) (hn : New w w')
    (ho : OR (setB B f (w.heap.size, n)) o (some (w.heap.size, n)) w') (hv : VR (setB B f (w.heap.size, n)) v r) : EffRes B h w f v [(f, o)] r w' := by
  refine ⟨setB B f (w.heap.size, n), BLe.setB hf, hv, HR.new hr hf (Nat.le_refl _) hn.block ho, hn.kept _, fun i b m hi hb => ?_, fun _ _ hz => .inl hz, fun k hk => ?_⟩
  · by_cases e : i = f
    · subst e
      rw [setB_same] at hb
      cases hb
      exact .inl (Nat.le_refl _)
    · rw [setB_ne B _ e] at hb
      exact .inr ⟨i, m, by simpa [updH, upd_ne _ _ e] using hi, hb⟩
  · by_cases e : k = f
    · right; omega
    · rw [setB_ne B _ e] at hk; exact .inl hk
theorem new_push (w : World) (o : Obj) : New w { w with heap := w.heap.push o } := ⟨rfl, rfl, rfl, by simp, fun b hb => by simp [Array.getElem?_push, show b ≠ w.heap.size by omega]⟩
theorem heap_push (w : World) (o : Obj) : ({ w with heap := w.heap.push o } : World).heap[w.heap.size]? = some o := by simp
/-- An owned block whose cells are now these. -/
theorem OR_cells {cs : List AV} {arr : Array Value} {T : TypeId} {b : Nat} {w' : World} {fz : Nat × Nat} (hw : w'.heap[b]? = some (.cells arr T fz)) {vs : List Value} (hp : arr.toList.take cs.length = vs) (hv : VRs B cs vs)
    (h1 : ∀ x ∈ vs, x.oneCell' = true) (hf : fz.2 ≤ fz.1) (hall : ∀ x ∈ arr.toList, x.oneCell' = true) : OR B (.cells false cs) (some (b, arr.size)) w' :=
  .inr ⟨b, arr.size, arr, T, fz, rfl, hw, rfl, by rw [hp]; exact hv, by rw [hp]; exact Ones.of h1, fun _ => ⟨hf, hall⟩⟩
theorem OR_all {cs : List AV} {arr : Array Value} {T : TypeId} {b : Nat} {w' : World} (hw : w'.heap[b]? = some (.cells arr T (0, 0))) (hv : VRs B cs arr.toList)
    (h1 : ∀ x ∈ arr.toList, x.oneCell' = true) : OR B (.cells false cs) (some (b, arr.size)) w' :=
  OR_cells hw (List.take_of_length_le (by have := hv.length; omega)) hv h1 (Nat.le_refl _) h1
theorem store_one {arr arr' : Array Value} {o n : Nat} {vs : List Value} (e : arr'.toList = arr.toList.take o ++ vs ++ arr.toList.drop n) (h : ∀ x ∈ arr.toList, x.oneCell' = true) (hv : ∀ x ∈ vs, x.oneCell' = true) : ∀ x ∈ arr'.toList, x.oneCell' = true := by
  intro x hx
  rw [e] at hx
  rcases List.mem_append.1 hx with hx | hx
  · rcases List.mem_append.1 hx with hx | hx
    · exact h x (List.mem_of_mem_take hx)
    · exact hv x hx
  · exact h x (List.mem_of_mem_drop hx)
theorem app_one {a b : Array Value} (h : ∀ x ∈ a.toList, x.oneCell' = true) (k : ∀ x ∈ b.toList, x.oneCell' = true) : ∀ x ∈ (a ++ b).toList, x.oneCell' = true := by
  intro x hx
  rw [Array.toList_append] at hx
  rcases List.mem_append.1 hx with hx | hx
  · exact h x hx
  · exact k x hx
theorem zeroCells_one {z : Array Value} (h : ∀ x ∈ z.toList, x.oneCell' = true) (n : Nat) : ∀ x ∈ (Builtin.zeroCells z n).toList, x.oneCell' = true := by
  intro x hx
  unfold Builtin.zeroCells at hx
  rw [Array.toList_map, Array.toList_range] at hx
  obtain ⟨i, hi, rfl⟩ := List.mem_map.1 hx
  have hi := List.mem_range.1 hi
  have hz : 0 < z.size := by
    rcases Nat.eq_zero_or_pos z.size with h0 | h0
    · rw [h0] at hi; simp at hi
    · exact h0
  have hlt : i % z.size < z.size := Nat.mod_lt _ hz
  rw [getElem!_pos z _ hlt]
  exact h _ (by simp)

theorem zeros_eq (n k : Nat) (z : Array Value) (hz : z.size = k) (hk : n * k = 0 ∨ 0 < k) : ((Array.range (n * k)).map (z[· % z.size]!)).toList = (List.replicate n z.toList).flatten := by
  apply List.ext_getElem?
  intro i
  have hl : ((List.replicate n z.toList).flatten).length = n * k := by simp [List.length_flatten, hz]
  rcases Nat.lt_or_ge i (n * k) with h | h
  · have hk0 : 0 < k := by rcases hk with h0 | h0 <;> omega
    have h2 : ((List.replicate n z.toList).flatten)[i]? = z.toList[i % k]? := by
      clear hl hk
      induction n generalizing i with
      | zero => omega
      | succ n ih =>
        rw [List.replicate_succ, List.flatten_cons]
        rw [Nat.succ_mul] at h
        rcases Nat.lt_or_ge i k with h' | h'
        · rw [List.getElem?_append_left (by simp; omega), Nat.mod_eq_of_lt h']
        · rw [List.getElem?_append_right (by simp; omega)]
          have := ih (i - k) (by omega)
          simp only [Array.length_toList, hz]
          rw [this, Nat.mod_eq_sub_mod h']
    rw [h2]
    have hlt : i % k < z.size := by rw [hz]; exact Nat.mod_lt _ hk0
    have hlt' : i % z.size < z.size := by rw [hz]; rw [hz] at hlt; exact hlt
    simp [h, hz, getElem!_pos, hlt']
    rw [getElem!_pos z (i % k) hlt]
    simp [hlt]
  · rw [List.getElem?_eq_none (by simp; omega), List.getElem?_eq_none (by omega)]

theorem cells_store (b : Nat) (T : TypeId) (fz : Nat × Nat) : ∀ (vs : List Value) (o i : Nat) (arr : Array Value) (w : World), w.heap[b]? = some (.cells arr T fz) → o + i + vs.length ≤ arr.size → (∀ v ∈ vs, v.oneCell' = true) →
    (fz.2 ≤ fz.1 ∨ arr.size ≤ fz.1) →
    ∃ w' arr', (storeCells ⟨b, o, none⟩ vs i).run P w = .ok () w' ∧ w'.heap[b]? = some (.cells arr' T fz) ∧ arr'.toList = arr.toList.take (o + i) ++ vs ++ arr.toList.drop (o + i + vs.length) ∧
      w'.os = w.os ∧ w'.tape = w.tape ∧ w'.output = w.output ∧ w'.heap.size = w.heap.size ∧ ∀ x, x ≠ b → w'.heap[x]? = w.heap[x]?
  | [], o, i, arr, w, hg, _, _, _ => ⟨w, arr, rfl, hg, by simp, rfl, rfl, rfl, rfl, fun _ _ => rfl⟩
  | v :: rest, o, i, arr, w, hg, hl, h1, hf => by
    have hi : o + i < arr.size := by simp at hl; omega
    have hcell : w.cell? ⟨b, o + i, none⟩ = some arr[o + i] := by simp [World.cell?, hg, hi]
    have hfro : w.frozen? ⟨b, o + i, none⟩ = false := by
      simp only [World.frozen?, hg]
      rcases hf with hf | hf
      · simp; omega
      · simp; omega
    have hst : (store ((⟨b, o, none⟩ : Addr).add i) v).run P w = .ok () (w.setCell ⟨b, o + i, none⟩ v) := by
      rw [addr_add, run_store P w _ v _ (h1 v (by simp)), hcell]
      simp [hfro]
    have hset : (w.setCell ⟨b, o + i, none⟩ v).heap[b]? = some (.cells (arr.setIfInBounds (o + i) v) T fz) := by
      simp only [World.setCell, Array.getElem?_modify, if_true, hg, Option.map_some]
      rfl
    obtain ⟨w', arr', e1, e2, e3, e4, e5, e6, e7, e8⟩ := cells_store b T fz rest o (i + 1) (arr.setIfInBounds (o + i) v) (w.setCell ⟨b, o + i, none⟩ v) hset (by simp at hl ⊢; omega) (fun x hx => h1 x (by simp [hx])) (by simpa using hf)
    refine ⟨w', arr', ?_, e2, ?_, e4, e5, e6, by rw [e7]; simp [World.setCell], fun x hx => ?_⟩
    · simp only [storeCells, Sem.run_bind, hst, Result.andThen_ok]; exact e1
    · rw [e3]
      have e := list_seg_step arr.toList (o + i) v rest (by simp at hl ⊢; omega)
      simpa [Array.toList_setIfInBounds, Nat.add_assoc] using e
    · rw [e8 x hx]
      exact Below.heap_setCell _ _ _ _ (by simpa using hx)

/-- Store. -/
theorem ok_store {h : Nat → AObj} (hr : HR B h w) {T : TypeId} {n : Nat} (hs : sizeT P T = some n) {x y : AV} {vx vy : Value} (hx : VR B x vx) (hy : VR B y vy) {f : Nat} {c : Prop} {v : AV} {ups : List (Nat × AObj)}
    (hq : effStore n f [x, y] ((idOf x).map h) = some (c, v, ups)) (hc : c) :
    ∃ w', (Instr.storeAt T vx vy).run P w = .ok () w' ∧ EffRes B h w f v ups undef w' := by
  unfold effStore at hq
  split at hq
  · rename_i i off z cs os e1 e2
    simp only [List.cons.injEq, and_true] at e1
    obtain ⟨rfl, rfl⟩ := e1
    simp only [idOf, List.map_cons, List.map_nil, List.cons.injEq] at e2
    obtain ⟨hi, -⟩ := e2
    cases hl : cellsA y with
    | none => rw [hl] at hq; cases hq
    | some l =>
      rw [hl] at hq
      cases hq
      obtain ⟨hln, hfit⟩ := hc
      obtain ⟨hvc, hvo⟩ := cells_ok hl hy
      simp only [VR] at hx
      obtain ⟨b, sz, hb, rfl⟩ := hx
      have hob := hr.obj i
      rw [hi] at hob
      rw [hb] at hob
      obtain ⟨arr, T', fz, hh, hsz, hv, h1c, hf⟩ := OR.at_own hob
      have hlen : cs.length ≤ arr.size := by have := hv.length; simp at this; omega
      have hvl : vy.cells.toList.length = n := by have := hvc.length; omega
      obtain ⟨w', arr', e1, e2, e3, e4, e5, e6, e7, e8⟩ := cells_store (P := P) b T' fz vy.cells.toList off 0 arr w hh (by omega) hvo (.inl hf.1)
      refine ⟨w', ?_, B, BLe.refl B, by simp [VR], ?_, ?_, fun j x m hj hbj => ?_, fun _ _ hz => .inl hz, fun k hk => .inl hk⟩
      · unfold Instr.storeAt Instr.sureAddr storeVar
        simp only [Sem.run_bind, Sem.run_pure, Result.andThen_ok, run_size hs]
        rw [if_neg (by simp at hvl ⊢; omega)]
        exact e1
      · have hasz : arr'.size = sz := by
          have := congrArg List.length e3
          simp at this
          simp at hvl
          omega
        refine HR.write (h := h) hr (by rw [hi]; rfl) hb e8 ?_
        rw [← hasz]
        have hpre : arr'.toList.take (cs.take off ++ l ++ cs.drop (off + n)).length = (arr.toList.take cs.length).take off ++ vy.cells.toList ++ (arr.toList.take cs.length).drop (off + n) := by
          have hcl : (cs.take off ++ l ++ cs.drop (off + n)).length = cs.length := by simp; omega
          rw [hcl, e3]
          simp only [Nat.add_zero, hvl]
          rw [List.take_take, Nat.min_eq_left (by omega)]
          rw [List.append_assoc, List.append_assoc, List.take_append, List.take_append]
          have l1 : (List.take off arr.toList).length = off := by simp; omega
          rw [l1, hvl]
          rw [List.take_of_length_le (by rw [l1]; omega), List.take_of_length_le (l := vy.cells.toList) (by rw [hvl]; omega)]
          rw [List.drop_take]
          congr 3
          omega
        refine OR_cells (vs := _) e2 hpre ?_ ?_ hf.1 (store_one e3 hf.2 hvo)
        · exact VRs.append (VRs.append (VRs.take off hv) hvc) (VRs.drop (off + n) hv)
        · intro x hx
          rcases List.mem_append.1 hx with hx | hx
          · rcases List.mem_append.1 hx with hx | hx
            · exact h1c x (List.mem_of_mem_take hx)
            · exact hvo x hx
          · exact h1c x (List.mem_of_mem_drop hx)
      · exact ⟨e4, e5, e6, by rw [e7]; exact Nat.le_refl _, fun x hx hn => e8 x fun e => hn (.inr ⟨i, sz, by rw [hi]; rfl, by rw [e]; exact hb⟩)⟩
      · by_cases e : j = i
        · subst e
          rw [hb] at hbj
          cases hbj
          exact .inr ⟨j, sz, by rw [hi]; rfl, hb⟩
        · exact .inr ⟨j, m, by simpa [updH, upd_ne _ _ e] using hj, hbj⟩
  · cases hq

theorem HR.drop {h : Nat → AObj} (hr : HR B h w) (i : Nat) : HR B (upd h i .gone) w := by
  refine ⟨fun j => ?_, fun j k b n m hjk hj hl hbj => ?_, hr.zr.keep rfl (fun _ _ _ => rfl) fun j x m hj hx => ?_⟩
  · by_cases e : j = i
    · subst e; rw [upd_same]; trivial
    · rw [upd_ne h _ e]; exact hr.obj j
  · by_cases e : j = i
    · subst e; rw [upd_same] at hj; cases hj
    · by_cases e' : k = i
      · subst e'; rw [upd_same] at hl; cases hl
      · rw [upd_ne h _ e] at hj
        rw [upd_ne h _ e'] at hl
        exact hr.apart j k b n m hjk hj hl hbj
  · by_cases e : j = i
    · subst e; rw [upd_same] at hj; cases hj
    · rw [upd_ne h _ e] at hj
      exact hr.zr.free j x m hj hx
/-- An owned block goes over to a new id. -/
theorem HR.move {h : Nat → AObj} {w' : World} {i f b n : Nat} {o : AObj} (hr : HR B h w) (ho : (h i).own = true) (hb : B i = some (b, n)) (hf : B f = none)
    (hk : ∀ x, x ≠ b → w'.heap[x]? = w.heap[x]?) (hn : OR (setB B f (b, n)) o (some (b, n)) w') : HR (setB B f (b, n)) (upd (upd h i .gone) f o) w' := by
  have hif : i ≠ f := fun e => by rw [e, hf] at hb; cases hb
  have old : ∀ j, j ≠ i → (h j).live = true → ∀ x m, B j = some (x, m) → x ≠ b := fun j hj hl x m hx e => by
    subst e
    exact hr.apart i j x n m (Ne.symm hj) ho hl hb hx
  have hzb := hr.zr.free i b n ho hb
  refine ⟨fun j => ?_, fun j k x m m' hjk hj hl hbj hbk => ?_, hr.zr.keep rfl (fun x a hx => hk x fun e => by subst e; rw [hzb] at hx; cases hx) fun j x m hj hx => ?_⟩
  · by_cases e : j = f
    · subst e; rw [upd_same, setB_same]; exact hn
    · rw [upd_ne _ o e, setB_ne B _ e]
      by_cases e' : j = i
      · subst e'; rw [upd_same]; trivial
      · rw [upd_ne h _ e']
        exact ((hr.obj j).mono (BLe.setB hf)).congr fun hl x m hx => hk x (old j e' hl x m hx)
  · by_cases e : j = f
    · subst e
      rw [setB_same] at hbj
      cases hbj
      have e' : k ≠ j := Ne.symm hjk
      rw [upd_ne _ o e'] at hl
      rw [setB_ne B _ e'] at hbk
      by_cases e2 : k = i
      · subst e2; rw [upd_same] at hl; cases hl
      · rw [upd_ne h _ e2] at hl
        exact old k e2 hl _ _ hbk rfl
    · rw [upd_ne _ o e] at hj
      rw [setB_ne B _ e] at hbj
      by_cases e2 : j = i
      · subst e2; rw [upd_same] at hj; cases hj
      · rw [upd_ne h _ e2] at hj
        by_cases e' : k = f
        · subst e'
          rw [setB_same] at hbk
          cases hbk
          exact old j e2 (AObj.own_live hj) _ _ hbj rfl
        · rw [upd_ne _ o e'] at hl
          rw [setB_ne B _ e'] at hbk
          by_cases e3 : k = i
          · subst e3; rw [upd_same] at hl; cases hl
          · rw [upd_ne h _ e3] at hl
            exact hr.apart j k x m m' hjk hj hl hbj hbk
  · by_cases e : j = f
    · subst e
      rw [setB_same] at hx
      cases hx
      exact hzb
    · rw [upd_ne _ o e] at hj
      rw [setB_ne B _ e] at hx
      by_cases e2 : j = i
      · subst e2; rw [upd_same] at hj; cases hj
      · rw [upd_ne h _ e2] at hj
        exact hr.zr.free j x m hj hx

theorem str_cells (s : ByteArray) : VRs B (strCells s) (s.data.toList.map fun b => .int .u8 (b.toNat : Int)) ∧ ∀ x ∈ (s.data.toList.map fun b => Value.int .u8 (b.toNat : Int)), x.oneCell' = true := by
  constructor
  · unfold strCells
    have := VRs.vals (B := B) (s.data.toList.map fun b => Value.int .u8 (b.toNat : Int))
    simpa [List.map_map, Function.comp_def] using this
  · intro x hx
    obtain ⟨b, _, rfl⟩ := List.mem_map.1 hx
    rfl
/-- The source of an append or a copy. -/
theorem src_ok {h : Nat → AObj} (hr : HR B h w) {k : Nat} {y : AV} {vy : Value} (hy : VR B y vy) {c : Prop} {m : Nat} {l : List AV}
    (hq : srcCells k y (((idOf y).map h).headD .gone) = some (c, m, l)) (hc : c) :
    (∀ w : World, (Builtin.lenOf vy).run P w = .ok m w) ∧ l.length = m * k ∧ ∀ n, n ≤ m → ∃ arr : Array Value, (∀ w' : World, w'.heap = w.heap → (Builtin.firstCells k n vy).run P w' = .ok arr w') ∧ VRs B (l.take (n * k)) arr.toList ∧ (∀ x ∈ arr.toList, x.oneCell' = true) ∧ arr.size = n * k := by
  unfold srcCells at hq
  split at hq
  · cases hq
    rw [vr_val] at hy
    subst hy
    refine ⟨fun _ => rfl, by simp, fun n hn => ⟨#[], fun _ _ => rfl, ?_, by simp, ?_⟩⟩
    · obtain rfl : n = 0 := by omega
      simp [VRs]
    · obtain rfl : n = 0 := by omega
      simp
  · rename_i q0
    cases hq
    rw [vr_val] at hy
    subst hy
    refine ⟨fun _ => rfl, by simp, fun n hn => ⟨#[], fun _ _ => by (obtain rfl : n = 0 := by omega); simp [Builtin.firstCells, loadCells, loadCellsFrom], ?_, by simp, ?_⟩⟩
    · obtain rfl : n = 0 := by omega
      simp [VRs]
    · obtain rfl : n = 0 := by omega
      simp
  · rename_i s
    cases hq
    subst hc
    rw [vr_val] at hy
    subst hy
    have e : ∀ n, ((s.extract 0 n).data.map fun b => Value.int .u8 (b.toNat : Int)).toList = (s.data.toList.map fun b => Value.int .u8 (b.toNat : Int)).take n := by
      intro n
      simp [ByteArray.extract, ByteArray.copySlice, List.map_take, List.extract_eq_take_drop]
    obtain ⟨h1, h2⟩ := str_cells (B := B) s
    refine ⟨fun _ => rfl, by simp [strCells], fun n hn => ⟨(s.extract 0 n).data.map fun b => .int .u8 b.toNat, fun _ _ => rfl, ?_, ?_, ?_⟩⟩
    · have := VRs.take (n * 1) h1
      rw [Nat.mul_one] at this ⊢
      rw [e]; exact this
    · intro x hx
      rw [e] at hx
      exact h2 x (List.mem_of_mem_take hx)
    · have : s.size = s.data.size := rfl
      simp [ByteArray.extract, ByteArray.copySlice]
      omega
  · rename_i k' len cs
    cases hq
    subst hc
    simp only [VR] at hy
    rcases hy with ⟨rfl, rfl, q0, rfl⟩ | ⟨b, arr, cp, o, hb, rfl, h1, h2, h3, h4⟩
    · refine ⟨fun _ => rfl, by simp, fun n hn => ⟨#[], fun _ _ => by (obtain rfl : n = 0 := by omega); cases q0 <;> simp [Builtin.firstCells, loadCells, loadCellsFrom], ?_, by simp, ?_⟩⟩
      · obtain rfl : n = 0 := by omega
        simp [VRs]
      · obtain rfl : n = 0 := by omega
        simp
    · obtain ⟨T', fz, hh⟩ := hr.zr.held b arr hb
      have hmc : m * k' ≤ cp * k' := Nat.mul_le_mul_right _ h1
      have hl3 := h3.length
      simp only [List.length_take, List.length_drop, Array.length_toList] at hl3
      refine ⟨fun _ => rfl, by omega, fun n hn => ?_⟩
      have hmul : n * k' ≤ m * k' := Nat.mul_le_mul_right _ hn
      have es : (arr.extract o (o + n * k')).toList = ((arr.toList.drop o).take (m * k')).take (n * k') := by
        rw [Array.toList_extract, List.take_take, Nat.min_eq_left hmul, List.extract_eq_take_drop]
        congr 1
        omega
      refine ⟨arr.extract o (o + n * k'), fun w' e => by simp only [Builtin.firstCells]; exact load_cells (by rw [e]; exact hh) (by omega), ?_, ?_, by simp; omega⟩
      · rw [es]; exact VRs.take _ h3
      · rw [es]; intro x hx; exact h4 x (List.mem_of_mem_take hx)
  · rename_i j off len k' cap
    simp only [idOf, List.map_cons, List.map_nil, List.headD_cons] at hq
    split at hq
    · rename_i ro cs hj
      cases hq
      obtain ⟨rfl, hfit, hna⟩ := hc
      simp only [VR] at hy
      rcases hy with ⟨rfl, rfl, q0, rfl⟩ | ⟨b, sz, c, o, hb, rfl, h1, h2, h3, h4⟩
      · refine ⟨fun _ => rfl, by simp, fun n hn => ⟨#[], fun _ _ => by (obtain rfl : n = 0 := by omega); cases q0 <;> simp [Builtin.firstCells, loadCells, loadCellsFrom], ?_, by simp, ?_⟩⟩
        · obtain rfl : n = 0 := by omega
          simp [VRs]
        · obtain rfl : n = 0 := by omega
          simp
      have hob := hr.obj j
      rw [hj] at hob
      rw [hb] at hob
      obtain ⟨arr, T', fz, hh, hsz, hv, h1c, hf⟩ := OR.at_block hob
      have hlen : cs.length ≤ arr.size := by have := hv.length; simp at this; omega
      refine ⟨fun _ => rfl, by simp; omega, fun n hn => ?_⟩
      rcases Nat.eq_zero_or_pos n with h0 | h0
      · subst h0
        exact ⟨#[], fun w' _ => by simp [Builtin.firstCells, loadCells, loadCellsFrom], by simp [VRs], by simp, by simp⟩
      · have ho : o = off := h3.resolve_right (by omega)
        subst ho
        have hmul : n * k' ≤ m * k' := Nat.mul_le_mul_right _ hn
        refine ⟨arr.extract o (o + n * k'), fun w' e => by simp only [Builtin.firstCells]; exact load_cells (by rw [e]; exact hh) (by omega), ?_, ?_, by simp; omega⟩
        · rw [List.take_take, Nat.min_eq_left hmul]
          have := VRs.take (n * k') (VRs.drop o hv)
          rw [Array.toList_extract]
          rw [List.drop_take, List.take_take] at this
          rw [show Min.min (n * k') (cs.length - o) = n * k' by omega] at this
          simpa [List.extract_eq_take_drop] using this
        · intro x hx
          have hlv := hv.length
          refine h1c.seg o (m * k') hna (by omega) x ?_
          rw [Array.toList_extract, List.extract_eq_take_drop] at hx
          have : (arr.toList.drop o).take (n * k') = ((arr.toList.take cs.length).drop o).take (n * k') := by
            rw [List.drop_take, List.take_take, Nat.min_eq_left (by omega)]
          rw [show o + n * k' - o = n * k' by omega, this] at hx
          have hx2 : x ∈ (((arr.toList.take cs.length).drop o).take (m * k')).take (n * k') := by rw [List.take_take, Nat.min_eq_left hmul]; exact hx
          exact List.mem_of_mem_take hx2
    · cases hq
  · cases hq
end
end Go.Am
/- Own theory, no program in sight: what is written into maps. -/
namespace Go.Am
open Go Go.RowKit
set_option linter.unusedVariables false
set_option linter.unusedSimpArgs false
section
variable {P : Program} {B : BM} {w : World}
/-- The same map, other entries. -/
theorem map_res {h : Nat → AObj} (hr : HR B h w) {i b n : Nat} {es es' : List (AV × AV)} (hi : h i = .map false es) (hb : B i = some (b, n)) {arr arr' : Array MapEntry} {clock clock' : Nat} (hh : w.heap[b]? = some (.map arr clock))
    (he : ER B es' arr'.toList) (hbn : born clock' arr'.toList) {f : Nat} {v : AV} {r : Value} (hv : VR B v r) : EffRes B h w f v [(i, .map false es')] r { w with heap := w.heap.setIfInBounds b (.map arr' clock') } := by
  obtain ⟨e1, e2⟩ := set_heap (o' := .map arr' clock') hh
  refine ⟨B, BLe.refl B, hv, ?_, ⟨rfl, rfl, rfl, by simp, fun x hx hn => ?_⟩, fun j x m hj hbj => ?_, fun _ _ hz => .inl hz, fun k hk => .inl hk⟩
  · exact HR.write (h := h) hr (by rw [hi]; rfl) hb (fun x hx => e2 x hx) ⟨b, n, arr', clock', rfl, e1, he, hbn⟩
  · exact e2 x fun e => hn (.inr ⟨i, n, by rw [hi]; rfl, by rw [e]; exact hb⟩)
  · by_cases e : j = i
    · subst e
      rw [hb] at hbj
      cases hbj
      exact .inr ⟨j, n, by rw [hi]; rfl, hb⟩
    · exact .inr ⟨j, m, by simpa [updH, upd_ne _ _ e] using hj, hbj⟩
theorem born_push {c : Nat} {l : List MapEntry} (h : born c l) (k v : Value) : born (c + 1) (l ++ [⟨k, v, c⟩]) := by
  refine ⟨fun e he => ?_, ?_⟩
  · rcases List.mem_append.1 he with he | he
    · have := h.1 e he; omega
    · rw [List.mem_singleton.1 he]; simp
  · rw [List.map_append, List.nodup_append]
    refine ⟨h.2, by simp, fun a ha b hb => ?_⟩
    obtain ⟨e, he, rfl⟩ := List.mem_map.1 ha
    simp at hb
    have := h.1 e he
    omega
theorem born_set {c : Nat} {l : List MapEntry} (h : born c l) {j : Nat} {e e' : MapEntry} (hj : l[j]? = some e) (hb : e'.born = e.born) : born c (l.set j e') := by
  have hm : (l.set j e').map (·.born) = l.map (·.born) := by
    apply List.ext_getElem?
    intro i
    simp only [List.getElem?_map, List.getElem?_set]
    by_cases hij : j = i
    · subst hij
      have hlt := (List.getElem?_eq_some_iff.1 hj).1
      simp [hlt, hj, hb]
      have := (List.getElem?_eq_some_iff.1 hj).2
      rw [this]
    · simp [hij]
  refine ⟨fun x hx => ?_, by rw [hm]; exact h.2⟩
  have : x.born ∈ (l.set j e').map (·.born) := List.mem_map.2 ⟨x, hx, rfl⟩
  rw [hm] at this
  obtain ⟨y, hy, hyb⟩ := List.mem_map.1 this
  rw [← hyb]
  exact h.1 y hy
theorem born_erase {c : Nat} {l : List MapEntry} (h : born c l) (j : Nat) : born c (l.eraseIdx j) :=
  ⟨fun e he => h.1 e ((List.eraseIdx_sublist l j).subset he), ((List.eraseIdx_sublist l j).map _).nodup h.2⟩
theorem findA_of_upd {kinds : List (Nat × Nat)} {k v : AV} : ∀ {es es' : List (AV × AV)}, updA kinds k v es = some es' → ∃ r, findA kinds k es = some r
  | [], _, _ => ⟨none, rfl⟩
  | (k', v') :: es, es', h => by
    simp only [updA] at h
    simp only [findA]
    split at h
    · exact ⟨_, rfl⟩
    · cases hu : updA kinds k v es with
      | none => rw [hu] at h; cases h
      | some q => exact findA_of_upd hu
    · cases h
theorem findA_of_del {kinds : List (Nat × Nat)} {k : AV} : ∀ {es es' : List (AV × AV)}, delA kinds k es = some es' → ∃ r, findA kinds k es = some r
  | [], _, _ => ⟨none, rfl⟩
  | (k', v') :: es, es', h => by
    simp only [delA] at h
    simp only [findA]
    split at h
    · exact ⟨_, rfl⟩
    · cases hu : delA kinds k es with
      | none => rw [hu] at h; cases h
      | some q => exact findA_of_del hu
    · cases h
theorem ok_mapUpd {h : Nat → AObj} (hr : HR B h w) {T kt e : TypeId} {kinds : List (Nat × Nat)} (hu : P.underlying T = some (.map kt e)) (hk : keyL P kt = some kinds) {xm xk xv : AV} {vm vk vv : Value} (hm : VR B xm vm) (hkv : VR B xk vk) (hvv : VR B xv vv) {f : Nat} {c : Prop} {v : AV} {ups : List (Nat × AObj)}
    (hq : effMapUpd kinds [xm, xk, xv] ((idOf xm).map h) = some (c, v, ups)) (hc : c) :
    ∃ w', (Instr.mapUpdate T vm vk vv).run P w = .ok () w' ∧ EffRes B h w f v ups undef w' := by
  unfold effMapUpd at hq
  split at hq
  · rename_i i k x es os e1 e2
    simp only [List.cons.injEq, and_true] at e1
    obtain ⟨rfl, rfl, rfl⟩ := e1
    simp only [idOf, List.map_cons, List.map_nil, List.cons.injEq] at e2
    obtain ⟨hi, -⟩ := e2
    cases hup : updA kinds xk xv es with
    | none => rw [hup] at hq; cases hq
    | some es' =>
      rw [hup] at hq
      simp only [Option.map_some, Option.some.injEq, Prod.mk.injEq] at hq
      obtain ⟨rfl, rfl, rfl⟩ := hq
      simp only [VR] at hm
      obtain ⟨b, n, hb, rfl⟩ := hm
      have hob := hr.obj i
      rw [hi, hb] at hob
      obtain ⟨b', n', arr, clock, hb', hh, her, hbn⟩ := hob
      cases hb'
      obtain ⟨r, hf⟩ := findA_of_upd hup
      obtain ⟨q, g1, g2⟩ := findKey_ok (w := w) hk hkv her hf
      have gc := key_check (w := w) hk hkv hc false
      rcases g2 with ⟨rfl, rfl, g3, _⟩ | ⟨j, v0, e', rfl, rfl, g3, g4, g5, g6, g7, _⟩
      · rw [g3] at hup
        cases hup
        refine ⟨_, ?_, map_res (arr' := arr.push ⟨vk, vv, clock⟩) (clock' := clock + 1) hr hi hb hh ?_ ?_ (by simp [VR])⟩
        · simp only [Instr.mapUpdate, Sem.run_bind, run_und hu, Result.andThen_ok, get_map hh, gc, g1, set_map _ hh]
        · rw [Array.toList_push]
          exact her.append (by simp only [ER]; exact ⟨⟨vk, vv, clock⟩, [], rfl, hkv, hvv, rfl⟩)
        · rw [Array.toList_push]; exact born_push hbn vk vv
      · rw [g7] at hup
        cases hup
        have hjl := (List.getElem?_eq_some_iff.1 g3).1
        have hja : arr[j]? = some e' := by simpa using g3
        refine ⟨_, ?_, map_res (arr' := arr.modify j fun e => { e with key := vk, val := vv }) (clock' := clock) hr hi hb hh ?_ ?_ (by simp [VR])⟩
        · simp only [Instr.mapUpdate, Sem.run_bind, run_und hu, Result.andThen_ok, get_map hh, gc, g1, Instr.keyThatStays, hja, Option.map_some, Option.getD_some, g5, if_true, Sem.run_pure, set_map _ hh]
        · have : (arr.modify j fun e => { e with key := vk, val := vv }).toList = arr.toList.set j { e' with key := vk, val := vv } := by
            rw [Array.toList_modify]
            apply List.ext_getElem?
            intro i
            rw [List.getElem?_modify, List.getElem?_set]
            by_cases hij : j = i
            · subst hij; rw [g3]; simp [hjl]; exact (List.getElem?_eq_some_iff.1 g3).1
            · simp [hij]
          rw [this]
          exact her.set j hkv hvv
        · have : (arr.modify j fun e => { e with key := vk, val := vv }).toList = arr.toList.set j { e' with key := vk, val := vv } := by
            rw [Array.toList_modify]
            apply List.ext_getElem?
            intro i
            rw [List.getElem?_modify, List.getElem?_set]
            by_cases hij : j = i
            · subst hij; rw [g3]; simp [hjl]; exact (List.getElem?_eq_some_iff.1 g3).1
            · simp [hij]
          rw [this]
          exact born_set hbn g3 rfl
  · cases hq
theorem ok_delete {h : Nat → AObj} (hr : HR B h w) {us : Array TypeId} {R T kt e : TypeId} (h0 : us[0]? = some T) {kinds : List (Nat × Nat)} (hu : P.underlying T = some (.map kt e)) (hk : keyL P kt = some kinds) {xm xk : AV} {vm vk : Value} (hm : VR B xm vm) (hkv : VR B xk vk) {f : Nat} {c : Prop} {v : AV} {ups : List (Nat × AObj)}
    (hq : effDelete kinds [xm, xk] ((idOf xm).map h) = some (c, v, ups)) (hc : c) :
    ∃ r w', (Builtin.delete_ us R #[vm, vk]).run P w = .ok r w' ∧ EffRes B h w f v ups r w' := by
  unfold effDelete at hq
  split at hq
  · rename_i i k es os e1 e2
    simp only [List.cons.injEq, and_true] at e1
    obtain ⟨rfl, rfl⟩ := e1
    simp only [idOf, List.map_cons, List.map_nil, List.cons.injEq] at e2
    obtain ⟨hi, -⟩ := e2
    cases hup : delA kinds xk es with
    | none => rw [hup] at hq; cases hq
    | some es' =>
      rw [hup] at hq
      simp only [Option.map_some, Option.some.injEq, Prod.mk.injEq] at hq
      obtain ⟨rfl, rfl, rfl⟩ := hq
      simp only [VR] at hm
      obtain ⟨b, n, hb, rfl⟩ := hm
      have hob := hr.obj i
      rw [hi, hb] at hob
      obtain ⟨b', n', arr, clock, hb', hh, her, hbn⟩ := hob
      cases hb'
      obtain ⟨r, hf⟩ := findA_of_del hup
      obtain ⟨q, g1, g2⟩ := findKey_ok (w := w) hk hkv her hf
      have gc := key_check (w := w) hk hkv hc arr.isEmpty
      have ht : VR B (.tup []) (.tuple #[]) := by simp only [VR]; exact ⟨#[], rfl, by simp [VRs]⟩
      rcases g2 with ⟨rfl, rfl, _, g3⟩ | ⟨j, v0, e', rfl, rfl, g3, g4, g5, g6, _, g7⟩
      · rw [g3] at hup
        cases hup
        refine ⟨_, _, ?_, map_res (arr' := arr) (clock' := clock) hr hi hb hh her hbn ht⟩
        simp [Builtin.delete_, h0, run_und hu, get_map hh, gc, g1, set_map _ hh]
      · rw [g7] at hup
        cases hup
        have hjl := (List.getElem?_eq_some_iff.1 g3).1
        have he : (arr.eraseIdxIfInBounds j).toList = arr.toList.eraseIdx j := by
          unfold Array.eraseIdxIfInBounds
          rw [dif_pos (by simpa using hjl), Array.toList_eraseIdx]
        refine ⟨_, _, ?_, map_res (arr' := arr.eraseIdxIfInBounds j) (clock' := clock) hr hi hb hh (by rw [he]; exact her.erase j) (by rw [he]; exact born_erase hbn j) ht⟩
        simp [Builtin.delete_, h0, run_und hu, get_map hh, gc, g1, set_map _ hh]
  · cases hq
end
end Go.Am
/- Own theory, no program in sight: append, copy, and what makes a block. -/
namespace Go.Am
open Go Go.RowKit
set_option linter.unusedVariables false
set_option linter.unusedSimpArgs false
section
variable {P : Program} {B : BM} {w : World} {t : Nat → AV} {a : Act}

/-- The beginning of a block; its tail written. -/
theorem pre_write {cs l : List AV} {arr arr' : Array Value} {o m n : Nat} {vs : List Value} (hv : VRs B cs (arr.toList.take cs.length)) (ho : o ≤ cs.length) (hl : VRs B l vs)
    (e : arr'.toList = arr.toList.take o ++ vs ++ arr.toList.drop (o + vs.length)) (hcs : cs.length ≤ arr.size) :
    arr'.toList.take (cs.take o ++ l).length = (arr.toList.take cs.length).take o ++ vs := by
  have h1 := hl.length
  have h2 : (cs.take o ++ l).length = o + vs.length := by simp; omega
  rw [h2, e, List.take_take, Nat.min_eq_left ho, List.append_assoc, List.take_append]
  have l1 : (List.take o arr.toList).length = o := by simp; omega
  rw [l1, List.take_of_length_le (by rw [l1]; omega)]
  rw [show o + vs.length - o = vs.length by omega, List.take_left]

structure Same (b : Nat) (w w' : World) : Prop where
  os : w'.os = w.os
  tape : w'.tape = w.tape
  output : w'.output = w.output
  size : w'.heap.size = w.heap.size
  block : ∀ x, x ≠ b → w'.heap[x]? = w.heap[x]?

/-- The append as the model carries it out, with room and without. -/
theorem run_append_room {us : Array TypeId} {R sT e : TypeId} {k : Nat} (h0 : us[0]? = some sT) (hu : P.underlying sT = some (.slice e)) (hz : ∃ u, us[1]? = some u ∧ (P.underlying u = some .string ∨ ∃ e', P.underlying u = some (.slice e'))) (hk : sizeT P e = some k)
    {base : Option Addr} {sLen sCap m : Nat} {vy : Value} (hm : (Builtin.lenOf vy).run P w = .ok m w) {new : Array Value} (hn : (Builtin.firstCells k m vy).run P w = .ok new w) (hfit : sLen + m ≤ sCap) :
    (Builtin.append_ us R #[.slice base sLen sCap, vy]).run P w = ((match base with | some a => storeCells (a.add (sLen * k)) new.toList | none => (pure () : Sem Unit)).run P w).andThen fun _ w' => .ok (.slice base (sLen + m) sCap) w' := by
  obtain ⟨u, hu1, hz⟩ := hz
  have hs := run_size (P := P) hk w
  rcases hz with hz | ⟨e', hz⟩ <;> cases base <;>
    simp [Builtin.append_, h0, hu1, run_und hu, run_und hz, hs, hm, hfit, hn]

theorem run_append_new {us : Array TypeId} {R sT e : TypeId} {i : TypeInfo} {z : List Value} (h0 : us[0]? = some sT) (hu : P.underlying sT = some (.slice e)) (hz : ∃ u, us[1]? = some u ∧ (P.underlying u = some .string ∨ ∃ e', P.underlying u = some (.slice e')))
    (hi : P.info? e = some i) (hzt : zeroT P e = some z) (hzl : z.length = i.size)
    {base : Option Addr} {sLen sCap m : Nat} {vy : Value} (hm : (Builtin.lenOf vy).run P w = .ok m w) {new : Array Value} (hn : ∀ w' : World, w'.heap = w.heap → (Builtin.firstCells i.size m vy).run P w' = .ok new w')
    {old : Array Value} (ho : ∀ w' : World, w'.heap = w.heap → (Builtin.firstCells i.size sLen (.slice base sLen sCap)).run P w' = .ok old w') (hfit : ¬ sLen + m ≤ sCap) (hroom : appRoom (sLen + m) i.bytes) (hos : old.size = sLen * i.size) (hns : new.size = m * i.size) :
    ∃ cap rest w', (Builtin.append_ us R #[.slice base sLen sCap, vy]).run P w = .ok (.slice (some ⟨w.heap.size, 0, none⟩) (sLen + m) cap) w' ∧ sLen + m ≤ cap ∧
      w'.heap[w.heap.size]? = some (.cells (old ++ new ++ rest) e (0, 0)) ∧ (old ++ new ++ rest).size = cap * i.size ∧ New w w' ∧ ∀ x ∈ rest.toList, x.oneCell' = true := by
  obtain ⟨zv, hz1, hz2, hz3⟩ := run_zero hzt w
  have hz1' : ∀ w' : World, (zeroValue e).run P w' = .ok zv w' := fun w' => by
    obtain ⟨zv', g1, g2, g3⟩ := run_zero hzt w'
    have : zv' = zv := by
      have r1 : (zeroValue e).run P w' = .ok zv w' := by
        unfold zeroValue at hz1 ⊢
        simp only [Sem.run_bind, run_info hi, Result.andThen_ok] at hz1 ⊢
        cases hzz : i.zero with
        | none => rw [hzz] at hz1; simp at hz1
        | some q => rw [hzz] at hz1; simp at hz1 ⊢; exact hz1
      rw [g1] at r1
      cases r1
      rfl
    rw [this] at g1
    exact g1
  have hk : sizeT P e = some i.size := by simp [sizeT, hi]
  obtain ⟨hr1, hr2⟩ := hroom
  have hneed : sLen + m ≤ 140737488355328 := Nat.le_trans (Nat.le_mul_of_pos_right _ hr2) hr1
  have g1 : ¬ (((sLen + m : Nat) : Int) > IntKind.i64.max ∧ ((false = true) ∨ i.bytes = 0)) := by intro h; rcases h.2 with h | h <;> first | (cases h; done) | omega
  have g2 : ¬ (Builtin.nextslicecap (sLen + m) sCap * i.bytes > 2 ^ 48) := by
    have := growslice_fits (need := sLen + m) (old := sCap) (bytes := i.bytes) (by omega) hr1
    omega
  have hq : (Question.appendCap (sLen + m) sCap e).forced = false := rfl
  generalize hcap : (Question.appendCap (sLen + m) sCap e).cut (w.tape w.drawn (Question.appendCap (sLen + m) sCap e)) = cap
  have hcapge : sLen + m ≤ cap := by rw [← hcap]; simp only [Question.cut]; omega
  let w1 : World := { w with drawn := w.drawn + 1 }
  refine ⟨cap, Builtin.zeroCells zv.cells (cap - (sLen + m)), { w1 with heap := w1.heap.push (.cells (old ++ new ++ Builtin.zeroCells zv.cells (cap - (sLen + m))) e) }, ?_, hcapge, heap_push w1 _, ?_, ?_, zeroCells_one (by rw [hz2]; exact hz3) _⟩
  · obtain ⟨u, hu1, hz⟩ := hz
    have hs := run_size (P := P) hk w
    have g0 : i.bytes ≠ 0 := by omega
    have g2' : ¬ (2 ^ 48 < Builtin.nextslicecap (sLen + m) sCap * i.bytes) := g2
    rcases hz with hz | ⟨e', hz⟩ <;>
      (simp [Builtin.append_, h0, hu1, run_und hu, run_und hz, hs, hm, hfit, run_info hi, g0, g2', hq, hcap, ho w.drew rfl, hn w.drew rfl, hz1' w.drew, w1, newRow]; rfl)
  · have hzs : zv.cells.size = i.size := by have := congrArg List.length hz2; simp at this; omega
    simp only [Array.size_append, hos, hns, Builtin.zeroCells, Array.size_map, Array.size_range, hzs]
    rw [← Nat.add_mul, ← Nat.add_mul]
    congr 1
    omega
  · exact ⟨rfl, rfl, rfl, by simp [w1], fun b hb => by simp [w1, Array.getElem?_push, show b ≠ w.heap.size by omega]⟩

theorem HR.heap {h : Nat → AObj} {w w' : World} (hr : HR B h w) (e : w'.heap = w.heap) : HR B h w' :=
  ⟨fun i => (hr.obj i).congr fun _ b n _ => by rw [e], hr.apart, hr.zr.keep rfl (fun _ _ _ => by rw [e]) hr.zr.free⟩
theorem old_ok {cs : List AV} {arr : Array Value} {T : TypeId} {b k len cap o off : Nat} {fz : Nat × Nat} (hh : w.heap[b]? = some (.cells arr T fz)) (hv : VRs B cs (arr.toList.take cs.length)) (h1c : ∀ x ∈ ((arr.toList.take cs.length).drop off).take (len * k), x.oneCell' = true)
    (ho : len = 0 ∨ o = off) (hle : off + len * k ≤ cs.length) :
    ∃ old : Array Value, (∀ w' : World, w'.heap = w.heap → (Builtin.firstCells k len (.slice (some ⟨b, o, none⟩) len cap)).run P w' = .ok old w') ∧ VRs B ((cs.drop off).take (len * k)) old.toList ∧ (∀ x ∈ old.toList, x.oneCell' = true) ∧ old.size = len * k := by
  have hcs : cs.length ≤ arr.size := by have := hv.length; simp at this; omega
  rcases Nat.eq_zero_or_pos len with h0 | h0
  · subst h0
    exact ⟨#[], fun w' _ => by simp [Builtin.firstCells, loadCells, loadCellsFrom], by simp [VRs], by simp, by simp⟩
  · have ho : o = off := ho.resolve_left (by omega)
    subst ho
    have e : (arr.extract o (o + len * k)).toList = ((arr.toList.take cs.length).drop o).take (len * k) := by
      rw [Array.toList_extract, List.drop_take, List.take_take, show Min.min (len * k) (cs.length - o) = len * k by omega]
      simp [List.extract_eq_take_drop]
    refine ⟨arr.extract o (o + len * k), fun w' e => by simp only [Builtin.firstCells]; exact load_cells (by rw [e]; exact hh) (by omega), ?_, ?_, by simp; omega⟩
    · rw [e]; exact VRs.take _ (VRs.drop o hv)
    · intro x hx
      rw [e] at hx
      exact h1c x hx
theorem mid_write {cs l : List AV} {arr arr' : Array Value} {o n : Nat} {vs : List Value} (hv : VRs B cs (arr.toList.take cs.length)) (hcl : l.length = n) (ho : o + n ≤ cs.length) (hvs : vs.length = n)
    (e : arr'.toList = arr.toList.take o ++ vs ++ arr.toList.drop (o + n)) (hcs : cs.length ≤ arr.size) :
    arr'.toList.take (cs.take o ++ l ++ cs.drop (o + n)).length = (arr.toList.take cs.length).take o ++ vs ++ (arr.toList.take cs.length).drop (o + n) := by
  have hl : (cs.take o ++ l ++ cs.drop (o + n)).length = cs.length := by simp; omega
  rw [hl, e, List.take_take, Nat.min_eq_left (by omega), List.append_assoc, List.append_assoc, List.take_append, List.take_append]
  have l1 : (List.take o arr.toList).length = o := by simp; omega
  rw [l1, hvs, List.take_of_length_le (by rw [l1]; omega), List.take_of_length_le (l := vs) (by rw [hvs]; omega), List.drop_take]
  congr 3
  omega
/-- Onto the nil slice. -/
theorem nil_append {h : Nat → AObj} (hr : HR B h w) {us : Array TypeId} {R sT e : TypeId} {i : TypeInfo} {z : List Value} (h0 : us[0]? = some sT) (hu : P.underlying sT = some (.slice e)) (hz : ∃ u, us[1]? = some u ∧ (P.underlying u = some .string ∨ ∃ e', P.underlying u = some (.slice e')))
    (hi : P.info? e = some i) (hzt : zeroT P e = some z) (hzl : z.length = i.size) {vy : Value} {f : Nat} (hf : B f = none) {m : Nat} {l : List AV} {new : Array Value}
    (g1 : ∀ w' : World, (Builtin.lenOf vy).run P w' = .ok m w') (g2 : ∀ w' : World, w'.heap = w.heap → (Builtin.firstCells i.size m vy).run P w' = .ok new w') (g3 : VRs B l new.toList) (g4 : ∀ x ∈ new.toList, x.oneCell' = true) (g5 : new.size = m * i.size) (hroom : appRoom m i.bytes) (q0 : Option Addr) :
    ∃ r w', (Builtin.append_ us R #[.slice q0 0 0, vy]).run P w = .ok r w' ∧ EffRes B h w f (.sl f 0 m i.size none) [(f, .cells false l)] r w' ∧ ∀ mine, Kept mine w w' := by
  have hk : sizeT P e = some i.size := by simp [sizeT, hi]
  rcases Nat.eq_zero_or_pos m with hm0 | hm0
  · subst hm0
    have hl0 : l = [] := by have := g3.length; simp [g5] at this; exact List.length_eq_zero_iff.1 this.symm
    subst hl0
    have hrun := run_append_room (P := P) (R := R) h0 hu hz hk (base := q0) (sLen := 0) (sCap := 0) (g1 w) (g2 w rfl) (Nat.le_refl _)
    have hrun : (Builtin.append_ us R #[.slice q0 0 0, vy]).run P w = .ok (.slice q0 0 0) w := by
      have hnew : new = #[] := by apply Array.eq_empty_of_size_eq_zero; rw [g5]; simp
      subst hnew
      rw [hrun]
      cases q0 <;> simp [storeCells]
    refine ⟨_, w, hrun, ⟨B, BLe.refl B, by simp only [VR]; exact .inl ⟨trivial, trivial, q0, rfl⟩, ⟨fun j => ?_, fun j k b n n' hjk hj hl hbj hbk => ?_, hr.zr.keep rfl (fun _ _ _ => rfl) fun j x m hj hx => ?_⟩, Kept.refl _ _, fun j b n hj hb => ?_, fun _ _ hz => .inl hz, fun k hk' => .inl hk'⟩, fun mine => Kept.refl _ _⟩
    · by_cases ej : j = f
      · subst ej; simp only [updH, upd_same, hf]; exact .inl ⟨rfl, rfl⟩
      · simp only [updH, upd_ne _ _ ej]; exact hr.obj j
    · by_cases ej : j = f
      · subst ej; rw [hf] at hbj; cases hbj
      · by_cases ek : k = f
        · subst ek; rw [hf] at hbk; cases hbk
        · simp only [updH, upd_ne _ _ ej] at hj
          simp only [updH, upd_ne _ _ ek] at hl
          exact hr.apart j k b n n' hjk hj hl hbj hbk
    · by_cases ej : j = f
      · subst ej; rw [hf] at hx; cases hx
      · simp only [updH, upd_ne _ _ ej] at hj
        exact hr.zr.free j x m hj hx
    · by_cases ej : j = f
      · subst ej; rw [hf] at hb; cases hb
      · simp only [updH, upd_ne _ _ ej] at hj
        exact .inr ⟨j, n, hj, hb⟩
  · obtain ⟨cap, rest, w', k1, k2, k3, k4, k5, k6⟩ := run_append_new (P := P) (R := R) h0 hu hz hi hzt hzl (base := q0) (sLen := 0) (sCap := 0) (m := m) (g1 w) g2 (old := #[]) (fun _ _ => by cases q0 <;> simp [Builtin.firstCells, loadCells, loadCellsFrom]) (by simp; omega) (by simpa using hroom) (by simp) g5
    refine ⟨_, w', k1, ?_, fun mine => k5.kept _⟩
    have hsz : (#[] ++ new ++ rest : Array Value).toList.take l.length = new.toList := by
      have hl := g3.length
      simp only [Array.toList_append, List.nil_append]
      rw [← hl, List.take_left]
    refine res_new hr hf k5 (OR_cells (vs := new.toList) k3 hsz (g3.mono (BLe.setB hf)) g4 (Nat.le_refl _) (app_one (app_one (by simp) g4) k6)) ?_
    simp only [VR]
    exact .inr ⟨_, _, cap, 0, setB_same _ _ _, by simp, by simpa using k2, by rw [k4]; simp, .inl rfl, by simp⟩
theorem ok_append {h : Nat → AObj} (hr : HR B h w) {us : Array TypeId} {R sT e : TypeId} {i : TypeInfo} {z : List Value} (h0 : us[0]? = some sT) (hu : P.underlying sT = some (.slice e)) (hz : ∃ u, us[1]? = some u ∧ (P.underlying u = some .string ∨ ∃ e', P.underlying u = some (.slice e')))
    (hi : P.info? e = some i) (hzt : zeroT P e = some z) (hzl : z.length = i.size) {x y : AV} {vx vy : Value} (hx : VR B x vx) (hy : VR B y vy) {f : Nat} (hf : B f = none) {c : Prop} {v : AV} {ups : List (Nat × AObj)}
    (hq : effAppend i.size i.bytes f [x, y] ((idOf x ++ idOf y).map h) = some (c, v, ups)) (hc : c) :
    ∃ r w', (Builtin.append_ us R #[vx, vy]).run P w = .ok r w' ∧ EffRes B h w f v ups r w' := by
  have hk : sizeT P e = some i.size := by simp [sizeT, hi]
  have src1 : ∀ {c m l}, srcCells i.size y (((idOf y).map h).headD .gone) = some (c, m, l) → c → ∃ new : Array Value, (∀ w' : World, (Builtin.lenOf vy).run P w' = .ok m w') ∧ (∀ w' : World, w'.heap = w.heap → (Builtin.firstCells i.size m vy).run P w' = .ok new w') ∧
      VRs B l new.toList ∧ (∀ x ∈ new.toList, x.oneCell' = true) ∧ new.size = m * i.size := by
    intro c m l hs hc'
    obtain ⟨g1, g2, g3⟩ := src_ok (P := P) hr hy hs hc'
    obtain ⟨new, g4, g5, g6, g7⟩ := g3 m (Nat.le_refl _)
    rw [List.take_of_length_le (by omega)] at g5
    exact ⟨new, g1, g4, g5, g6, g7⟩
  unfold effAppend at hq
  split at hq
  · -- onto nil
    rename_i e1
    simp only [List.cons.injEq, and_true] at e1
    obtain ⟨rfl, rfl⟩ := e1
    rw [vr_val] at hx
    subst hx
    change (srcCells i.size y (((idOf y).map h).headD .gone)).map _ = _ at hq
    cases hs : srcCells i.size y (((idOf y).map h).headD .gone) with
    | none => rw [hs] at hq; cases hq
    | some r =>
      obtain ⟨c', m, l⟩ := r
      rw [hs] at hq
      cases hq
      obtain ⟨hc', hroom⟩ := hc
      obtain ⟨new, g1, g2, g3, g4, g5⟩ := src1 hs hc'
      obtain ⟨r, w', k1, k2, _⟩ := nil_append (R := R) hr h0 hu hz hi hzt hzl hf g1 g2 g3 g4 g5 hroom none
      exact ⟨r, w', k1, k2⟩
  · -- onto a slice whose room nobody knows
    rename_i j off len k' y' cs objs e1 e2
    simp only [List.cons.injEq, and_true] at e1
    obtain ⟨rfl, rfl⟩ := e1
    have e3 : h j :: (idOf y).map h = .cells false cs :: objs := e2
    rw [List.cons.injEq] at e3
    obtain ⟨hj, rfl⟩ := e3
    have up : ∀ x, Mine B (upd h j .gone) w x → Mine B h w x := by
      rintro x (hx | ⟨q, n, hq, hb'⟩)
      · exact .inl hx
      · refine .inr ⟨q, n, ?_, hb'⟩
        by_cases e : q = j
        · subst e; rw [upd_same] at hq; cases hq
        · rwa [upd_ne _ _ e] at hq
    simp only [VR] at hx
    rcases hx with ⟨rfl, -, q0, rfl⟩ | ⟨b, sz, cap0, o, hb, rfl, q1, q2, q3, q4⟩
    · cases hs : srcCells i.size y (((idOf y).map h).headD .gone) with
      | none => rw [hs] at hq; cases hq
      | some r =>
        obtain ⟨c', m, l⟩ := r
        rw [hs] at hq
        cases hq
        obtain ⟨hc', rfl, rfl, hle, hroom⟩ := hc
        obtain ⟨new, g1, g2, g3, g4, g5⟩ := src1 hs hc'
        obtain ⟨r, w', k1, ⟨B', r1, r2, r3, r4, r5, r6⟩, k3⟩ := nil_append (R := R) (hr.drop j) h0 hu hz hi hzt hzl hf g1 g2 g3 g4 g5 (by simpa using hroom) q0
        refine ⟨r, w', k1, B', r1, ?_, ?_, k3 _, fun q x n hq hb' => ?_, fun b a hb => (r6.1 b a hb).imp id fun h => up b h, r6.2⟩
        · simpa using r2
        · simpa [updH] using r3
        · exact up x (r5 q x n (by simpa [updH] using hq) hb')
    cases hs : srcCells i.size y (((idOf y).map h).headD .gone) with
    | none => rw [hs] at hq; cases hq
    | some r =>
      obtain ⟨c', m, l⟩ := r
      rw [hs] at hq
      cases hq
      obtain ⟨hc', rfl, rfl, hle, hroom⟩ := hc
      obtain ⟨new, g1, g2, g3, g4, g5⟩ := src1 hs hc'
      have hob := hr.obj j
      rw [hj] at hob
      rw [hb] at hob
      obtain ⟨arr, T', fz, hh, hsz, hv, h1c, hfz⟩ := OR.at_own hob
      have hcs : cs.length ≤ arr.size := by have := hv.length; simp at this; omega
      by_cases hfit : len + m ≤ cap0
      · -- in place
        have hrun := run_append_room (P := P) (R := R) h0 hu hz hk (base := some ⟨b, o, none⟩) (sLen := len) (sCap := cap0) (g1 w) (g2 w rfl) hfit
        rcases Nat.eq_zero_or_pos cap0 with hc0 | hc0
        · -- no room at all: nothing is appended
          obtain rfl : m = 0 := by omega
          obtain rfl : len = 0 := by omega
          have hnew : new = #[] := by apply Array.eq_empty_of_size_eq_zero; rw [g5]; simp
          subst hnew
          have hl0 : l = [] := by have := g3.length; simp at this; exact List.length_eq_zero_iff.1 this.symm
          subst hl0
          simp only [storeCells, Sem.run_pure, Result.andThen_ok] at hrun
          refine ⟨_, w, hrun, setB B f (b, sz), BLe.setB hf, ?_, ?_, Kept.refl _ _, fun k bb nn hkk hbb => ?_, fun _ _ hz => .inl hz, fun k hkk => ?_⟩
          · simp only [VR]; exact .inr ⟨b, sz, cap0, o, setB_same _ _ _, rfl, by omega, by omega, by omega, by simp⟩
          · refine HR.move (h := h) hr (by rw [hj]; rfl) hb hf (fun _ _ => rfl) (.inr ⟨b, sz, arr, T', fz, rfl, hh, hsz, ?_, ?_, fun _ => hfz⟩)
            · simp [VRs]
            · exact Ones.of (by simp)
          · by_cases e : k = f
            · subst e; rw [setB_same] at hbb; cases hbb; exact .inr ⟨j, sz, by rw [hj]; rfl, hb⟩
            · rw [setB_ne B _ e] at hbb
              have hkk' : (upd h j .gone k).own = true := by simpa [updH, upd_ne _ _ e] using hkk
              by_cases e' : k = j
              · subst e'; rw [upd_same] at hkk'; cases hkk'
              · rw [upd_ne _ _ e'] at hkk'; exact .inr ⟨k, nn, hkk', hbb⟩
          · by_cases e : k = f
            · right; omega
            · rw [setB_ne B _ e] at hkk; exact .inl hkk
        · have ho : o = 0 := q3.resolve_right (by omega)
          subst ho
          have hfit2 : len * i.size + m * i.size ≤ arr.size := by
            have : (len + m) * i.size ≤ cap0 * i.size := Nat.mul_le_mul_right _ hfit
            rw [Nat.add_mul] at this
            omega
          have hnl : new.toList.length = m * i.size := by simp; exact g5
          obtain ⟨w', arr', s1, s2, s3, s4, s5, s6, s7, s8⟩ := cells_store (P := P) b T' fz new.toList (len * i.size) 0 arr w hh (by rw [hnl]; omega) g4 (.inl hfz.1)
          simp only [addr_add, Nat.zero_add] at hrun
          rw [s1] at hrun
          have hasz : arr'.size = sz := by
            have := congrArg List.length s3
            simp at this
            simp at hnl
            omega
          refine ⟨_, w', hrun, setB B f (b, sz), BLe.setB hf, ?_, ?_, ⟨s4, s5, s6, by rw [s7]; exact Nat.le_refl _, fun x hx hn => s8 x fun e => hn (.inr ⟨j, sz, by rw [hj]; rfl, by rw [e]; exact hb⟩)⟩, fun k bb nn hkk hbb => ?_, fun _ _ hz => .inl hz, fun k hkk => ?_⟩
          · simp only [VR]; exact .inr ⟨b, sz, cap0, 0, setB_same _ _ _, rfl, hfit, by omega, by simp, by simp⟩
          · refine HR.move (h := h) hr (by rw [hj]; rfl) hb hf s8 ?_
            rw [← hasz]
            have hpre := pre_write (o := len * i.size) (l := l) hv hle g3 (by rw [s3]; simp) hcs (m := 0) (n := 0)
            refine OR_cells s2 hpre (VRs.append (VRs.take _ (hv.mono (BLe.setB hf))) (g3.mono (BLe.setB hf))) ?_ hfz.1 (store_one s3 hfz.2 g4)
            intro x hx
            rcases List.mem_append.1 hx with hx | hx
            · exact h1c x (List.mem_of_mem_take hx)
            · exact g4 x hx
          · by_cases e : k = f
            · subst e; rw [setB_same] at hbb; cases hbb; exact .inr ⟨j, sz, by rw [hj]; rfl, hb⟩
            · rw [setB_ne B _ e] at hbb
              have hkk' : (upd h j .gone k).own = true := by simpa [updH, upd_ne _ _ e] using hkk
              by_cases e' : k = j
              · subst e'; rw [upd_same] at hkk'; cases hkk'
              · rw [upd_ne _ _ e'] at hkk'; exact .inr ⟨k, nn, hkk', hbb⟩
          · by_cases e : k = f
            · right; omega
            · rw [setB_ne B _ e] at hkk; exact .inl hkk
      · -- a new block
        have hlen0 : len = 0 ∨ o = 0 := by rcases q3 with h3 | h3 <;> omega
        obtain ⟨old, ho1, ho2, ho3, ho4⟩ := old_ok (P := P) (k := i.size) (len := len) (cap := cap0) (cs := cs) hh hv (fun x hx => h1c x (List.mem_of_mem_drop (List.mem_of_mem_take hx))) (o := o) (off := 0) (by rcases hlen0 with h3 | h3 <;> omega) (by omega)
        obtain ⟨cap, rest, w', k1, k2, k3, k4, k5, k6⟩ := run_append_new (P := P) (R := R) h0 hu hz hi hzt hzl (base := some ⟨b, o, none⟩) (sLen := len) (sCap := cap0) (m := m) (g1 w) g2 ho1 hfit hroom ho4 g5
        refine ⟨_, w', k1, ?_⟩
        have ho2' : VRs B (cs.take (len * i.size)) old.toList := by simpa using ho2
        have hsz' : (old ++ new ++ rest : Array Value).toList.take (cs.take (len * i.size) ++ l).length = old.toList ++ new.toList := by
          have hl := g3.length
          have hl2 := ho2'.length
          rw [List.length_append, ← hl, ← hl2]
          simp only [Array.toList_append]
          rw [← List.length_append, List.take_left]
        have hj' : HR B (upd h j .gone) w := hr.drop j
        obtain ⟨B', r1, r2, r3, r4, r5, r6⟩ := res_new (v := .sl f 0 (len + m) i.size none) (r := .slice (some ⟨w.heap.size, 0, none⟩) (len + m) cap) hj' hf k5
          (OR_cells (vs := old.toList ++ new.toList) k3 hsz' (VRs.append (ho2'.mono (BLe.setB hf)) (g3.mono (BLe.setB hf))) (fun x hx => by rcases List.mem_append.1 hx with hx | hx; exact ho3 x hx; exact g4 x hx) (Nat.le_refl _) (app_one (app_one ho3 g4) k6))
          (by simp only [VR]; exact .inr ⟨_, _, cap, 0, setB_same _ _ _, rfl, by omega, by rw [k4]; omega, .inl rfl, by simp⟩)
        exact ⟨B', r1, r2, r3, k5.kept _, fun q x n hq hb' => up x (r5 q x n hq hb'), fun b a hb => (r6.1 b a hb).imp id fun h => up b h, r6.2⟩
  · -- onto a slice whose room is known
    rename_i j off len k' cp y' ro cs objs e1 e2
    simp only [List.cons.injEq, and_true] at e1
    obtain ⟨rfl, rfl⟩ := e1
    have e3 : h j :: (idOf y).map h = .cells ro cs :: objs := e2
    rw [List.cons.injEq] at e3
    obtain ⟨hj, rfl⟩ := e3
    simp only [VR] at hx
    rcases hx with ⟨-, h9, -⟩ | ⟨b, sz, cap0, o, hb, rfl, q1, q2, q3, q4⟩
    · cases h9
    obtain rfl := q4 cp rfl
    split at hq
    · cases hq
    · rename_i r hs
      obtain ⟨c', m, l⟩ := r
      have hob := hr.obj j
      rw [hj] at hob
      rw [hb] at hob
      obtain ⟨arr, T', fz, hh, hsz, hv, h1c, hfz⟩ := OR.at_block hob
      have hcs : cs.length ≤ arr.size := by have := hv.length; simp at this; omega
      split at hq
      · rename_i hfit
        split at hq
        · cases hq
          obtain ⟨hc', rfl, hle⟩ := hc
          have h1c := h1c.own (by have := hv.length; omega)
          obtain ⟨new, g1, g2, g3, g4, g5⟩ := src1 hs hc'
          simp only at hfit hle
          have hrun := run_append_room (P := P) (R := R) h0 hu hz hk (base := some ⟨b, o, none⟩) (sLen := len) (sCap := cap0) (g1 w) (g2 w rfl) hfit
          have hnl : new.toList.length = m * i.size := by simp; exact g5
          have hcl : l.length = m * i.size := by have := g3.length; omega
          rw [Nat.add_mul] at hle
          rcases Nat.eq_zero_or_pos cap0 with hc0 | hc0
          · obtain rfl : m = 0 := by omega
            obtain rfl : len = 0 := by omega
            have hnew : new = #[] := by apply Array.eq_empty_of_size_eq_zero; rw [g5]; simp
            subst hnew
            have hl0 : l = [] := by have := g3.length; simp at this; exact List.length_eq_zero_iff.1 this.symm
            subst hl0
            simp only [storeCells, Sem.run_pure, Result.andThen_ok] at hrun
            have hsame : updH h [(j, AObj.cells false (cs.take (off + 0 * i.size) ++ [] ++ cs.drop (off + (0 + 0) * i.size)))] = h := by
              funext k
              simp only [updH, upd]
              split
              · rename_i e; subst e; rw [hj]; simp
              · rfl
            refine ⟨_, w, hrun, B, BLe.refl B, ?_, ?_, Kept.refl _ _, fun k bb nn hkk hbb => ?_, fun _ _ hz => .inl hz, fun k hkk => .inl hkk⟩
            · simp only [VR]; exact .inr ⟨b, sz, cap0, o, hb, rfl, by omega, by omega, by omega, fun m hm => by cases hm; rfl⟩
            · rw [hsame]; exact hr
            · rw [hsame] at hkk; exact .inr ⟨k, nn, hkk, hbb⟩
          · have ho : o = off := q3.resolve_right (by omega)
            subst ho
            obtain ⟨w', arr', s1, s2, s3, s4, s5, s6, s7, s8⟩ := cells_store (P := P) b T' fz new.toList (o + len * i.size) 0 arr w hh (by rw [hnl]; omega) g4 (.inl (hfz rfl).1)
            simp only [addr_add] at hrun
            rw [s1] at hrun
            have hasz : arr'.size = sz := by
              have := congrArg List.length s3
              simp at this
              simp at hnl
              omega
            refine ⟨_, w', hrun, B, BLe.refl B, ?_, ?_, ⟨s4, s5, s6, by rw [s7]; exact Nat.le_refl _, fun x hx hn => s8 x fun e => hn (.inr ⟨j, sz, by rw [hj]; rfl, by rw [e]; exact hb⟩)⟩, fun k bb nn hkk hbb => ?_, fun _ _ hz => .inl hz, fun k hkk => .inl hkk⟩
            · simp only [VR]; exact .inr ⟨b, sz, cap0, o, hb, rfl, hfit, by omega, .inl rfl, fun m hm => by cases hm; rfl⟩
            · refine HR.write (h := h) hr (by rw [hj]; rfl) hb s8 ?_
              rw [← hasz]
              have hpre := mid_write (l := l) (o := o + len * i.size) (n := m * i.size) hcl (by omega) hnl (arr' := arr') (by rw [s3, hnl]; simp) hcs (hv := hv)
              have hl2 : o + (len + m) * i.size = o + len * i.size + m * i.size := by rw [Nat.add_mul]; omega
              rw [hl2]
              refine OR_cells s2 hpre (VRs.append (VRs.append (VRs.take _ hv) g3) (VRs.drop _ hv)) ?_ (hfz rfl).1 (store_one s3 (hfz rfl).2 g4)
              intro x hx
              rcases List.mem_append.1 hx with hx | hx
              · rcases List.mem_append.1 hx with hx | hx
                · exact h1c x (List.mem_of_mem_take hx)
                · exact g4 x hx
              · exact h1c x (List.mem_of_mem_drop hx)
            · by_cases e : k = j
              · subst e; rw [hb] at hbb; cases hbb; exact .inr ⟨k, sz, by rw [hj]; rfl, hb⟩
              · exact .inr ⟨k, nn, by simpa [updH, upd_ne _ _ e] using hkk, hbb⟩
        · cases hq
      · rename_i hfit
        cases hq
        obtain ⟨hc', rfl, hle, hroom, hna⟩ := hc
        obtain ⟨new, g1, g2, g3, g4, g5⟩ := src1 hs hc'
        have hlen0 : len = 0 ∨ o = off := by rcases q3 with h3 | h3 <;> omega
        obtain ⟨old, ho1, ho2, ho3, ho4⟩ := old_ok (P := P) (k := i.size) (len := len) (cap := cap0) (cs := cs) hh hv (h1c.seg off _ hna (by have := hv.length; omega)) (o := o) (off := off) (by rcases hlen0 with h3 | h3 <;> omega) (by omega)
        obtain ⟨cap, rest, w', k1, k2, k3, k4, k5, k6⟩ := run_append_new (P := P) (R := R) h0 hu hz hi hzt hzl (base := some ⟨b, o, none⟩) (sLen := len) (sCap := cap0) (m := m) (g1 w) g2 ho1 hfit hroom ho4 g5
        refine ⟨_, w', k1, ?_⟩
        have hsz' : (old ++ new ++ rest : Array Value).toList.take ((cs.drop off).take (len * i.size) ++ l).length = old.toList ++ new.toList := by
          have hl := g3.length
          have hl2 := ho2.length
          rw [List.length_append, ← hl, ← hl2]
          simp only [Array.toList_append]
          rw [← List.length_append, List.take_left]
        exact res_new hr hf k5
          (OR_cells (vs := old.toList ++ new.toList) k3 hsz' (VRs.append (ho2.mono (BLe.setB hf)) (g3.mono (BLe.setB hf))) (fun x hx => by rcases List.mem_append.1 hx with hx | hx; exact ho3 x hx; exact g4 x hx) (Nat.le_refl _) (app_one (app_one ho3 g4) k6))
          (by simp only [VR]; exact .inr ⟨_, _, cap, 0, setB_same _ _ _, rfl, k2, by rw [k4]; omega, .inl rfl, by simp⟩)
  · cases hq
end
end Go.Am
/- Own theory, no program in sight: copy, and what makes a block. -/
namespace Go.Am
open Go Go.RowKit
set_option linter.unusedVariables false
set_option linter.unusedSimpArgs false
section
variable {P : Program} {B : BM} {w : World} {t : Nat → AV} {a : Act}

theorem ok_copy {h : Nat → AObj} (hr : HR B h w) {us : Array TypeId} {R sT e : TypeId} {k : Nat} (h0 : us[0]? = some sT) (hu : P.underlying sT = some (.slice e)) (hk : sizeT P e = some k)
    {x y : AV} {vx vy : Value} (hx : VR B x vx) (hy : VR B y vy) {f : Nat} {c : Prop} {v : AV} {ups : List (Nat × AObj)}
    (hq : effCopy k f [x, y] ((idOf x ++ idOf y).map h) = some (c, v, ups)) (hc : c) :
    ∃ r w', (Builtin.copy_ us R #[vx, vy]).run P w = .ok r w' ∧ EffRes B h w f v ups r w' := by
  unfold effCopy at hq
  split at hq
  · rename_i j off len k' cp y' cs objs e1 e2
    simp only [List.cons.injEq, and_true] at e1
    obtain ⟨rfl, rfl⟩ := e1
    have e3 : h j :: (idOf y).map h = .cells false cs :: objs := e2
    rw [List.cons.injEq] at e3
    obtain ⟨hj, rfl⟩ := e3
    simp only [VR] at hx
    rcases hx with ⟨rfl, rfl, q0, rfl⟩ | ⟨b, sz, cap0, o, hb, rfl, q1, q2, q3, q4⟩
    · cases hs : srcCells k y (((idOf y).map h).headD .gone) with
      | none => rw [hs] at hq; cases hq
      | some r =>
        obtain ⟨c', m, l⟩ := r
        rw [hs] at hq
        cases hq
        obtain ⟨hc', rfl, hle⟩ := hc
        obtain ⟨g1, g2, g3⟩ := src_ok (P := P) hr hy hs hc'
        have hm0 : Min.min m 0 = 0 := Nat.min_eq_right (Nat.zero_le _)
        have hm1 : m.min 0 = 0 := hm0
        obtain ⟨new, n1, n2, n3, n4⟩ := g3 0 (Nat.zero_le _)
        have hnew : new = #[] := by apply Array.eq_empty_of_size_eq_zero; rw [n4]; simp
        subst hnew
        have hsame : updH h [(j, AObj.cells false (cs.take off ++ l.take (Min.min m 0 * k') ++ cs.drop (off + Min.min m 0 * k')))] = h := by
          funext q
          simp only [updH, upd]
          split
          · rename_i e; subst e; rw [hj, hm0]; simp
          · rfl
        simp only [hsame]
        refine ⟨.int .i64 (Min.min m 0 : Nat), w, ?_, B, BLe.refl B, by rw [vr_val], by rw [hsame]; exact hr, Kept.refl _ _, fun q bb nn hkk hbb => ?_, fun _ _ hz => .inl hz, fun q hkk => .inl hkk⟩
        · unfold Builtin.copy_
          cases q0 <;> simp [h0, run_und hu, run_size hk, g1, hm1, n1 w rfl, storeCells, goInt]
        · rw [hsame] at hkk; exact .inr ⟨q, nn, hkk, hbb⟩
    cases hs : srcCells k y (((idOf y).map h).headD .gone) with
    | none => rw [hs] at hq; cases hq
    | some r =>
      obtain ⟨c', m, l⟩ := r
      rw [hs] at hq
      cases hq
      obtain ⟨hc', rfl, hle⟩ := hc
      obtain ⟨g1, g2, g3⟩ := src_ok (P := P) hr hy hs hc'
      have hmn : Min.min m len ≤ m := Nat.min_le_left _ _
      obtain ⟨new, n1, n2, n3, n4⟩ := g3 (Min.min m len) hmn
      generalize hn : Min.min m len = n at *
      have hn' : m.min len = n := hn
      have hob := hr.obj j
      rw [hj] at hob
      rw [hb] at hob
      obtain ⟨arr, T', fz, hh, hsz, hv, h1c, hfz⟩ := OR.at_own hob
      have hcs : cs.length ≤ arr.size := by have := hv.length; simp at this; omega
      have hnl : new.toList.length = n * k' := by simp; exact n4
      have hnlen : n ≤ len := by rw [← hn]; exact Nat.min_le_right _ _
      have hmul : n * k' ≤ len * k' := Nat.mul_le_mul_right _ hnlen
      have hcl : (l.take (n * k')).length = n * k' := by have := n2.length; omega
      rcases Nat.eq_zero_or_pos (n * k') with h00 | h00
      · have hnew : new = #[] := by apply Array.eq_empty_of_size_eq_zero; rw [n4, h00]
        subst hnew
        refine ⟨.int .i64 n, w, ?_, B, BLe.refl B, by rw [vr_val], ?_, Kept.refl _ _, fun q bb nn hkk hbb => ?_, fun _ _ hz => .inl hz, fun q hkk => .inl hkk⟩
        · unfold Builtin.copy_
          simp [h0, run_und hu, run_size hk, g1, hn', n1 w rfl, storeCells, goInt]
        · have hsame : updH h [(j, AObj.cells false (cs.take off ++ l.take (n * k') ++ cs.drop (off + n * k')))] = h := by
            funext q
            simp only [updH, upd]
            split
            · rename_i e; subst e; rw [hj, h00]; simp
            · rfl
          rw [hsame]; exact hr
        · have hsame : updH h [(j, AObj.cells false (cs.take off ++ l.take (n * k') ++ cs.drop (off + n * k')))] = h := by
            funext q
            simp only [updH, upd]
            split
            · rename_i e; subst e; rw [hj, h00]; simp
            · rfl
          rw [hsame] at hkk
          exact .inr ⟨q, nn, hkk, hbb⟩
      · have hlen0 : 0 < len := by
          rcases Nat.eq_zero_or_pos n with h1 | h1
          · subst h1; simp at h00
          · omega
        have ho : o = off := q3.resolve_right (by omega)
        subst ho
        obtain ⟨w', arr', s1, s2, s3, s4, s5, s6, s7, s8⟩ := cells_store (P := P) b T' fz new.toList o 0 arr w hh (by rw [hnl]; omega) n3 (.inl hfz.1)
        have hasz : arr'.size = sz := by
          have := congrArg List.length s3
          simp at this
          simp at hnl
          omega
        refine ⟨.int .i64 n, w', ?_, B, BLe.refl B, by rw [vr_val], ?_, ⟨s4, s5, s6, by rw [s7]; exact Nat.le_refl _, fun x hx hn => s8 x fun e => hn (.inr ⟨j, sz, by rw [hj]; rfl, by rw [e]; exact hb⟩)⟩, fun q bb nn hkk hbb => ?_, fun _ _ hz => .inl hz, fun q hkk => .inl hkk⟩
        · unfold Builtin.copy_
          simp [h0, run_und hu, run_size hk, g1, hn', n1 w rfl, s1, goInt]
        · refine HR.write (h := h) hr (by rw [hj]; rfl) hb s8 ?_
          rw [← hasz]
          have hpre := mid_write (l := l.take (n * k')) (o := o) (n := n * k') hcl (by omega) hnl (arr' := arr') (by rw [s3, hnl]; simp) hcs (hv := hv)
          refine OR_cells s2 hpre (VRs.append (VRs.append (VRs.take _ hv) n2) (VRs.drop _ hv)) ?_ hfz.1 (store_one s3 hfz.2 n3)
          intro x hx
          rcases List.mem_append.1 hx with hx | hx
          · rcases List.mem_append.1 hx with hx | hx
            · exact h1c x (List.mem_of_mem_take hx)
            · exact n3 x hx
          · exact h1c x (List.mem_of_mem_drop hx)
        · by_cases e : q = j
          · subst e; rw [hb] at hbb; cases hbb; exact .inr ⟨q, sz, by rw [hj]; rfl, hb⟩
          · exact .inr ⟨q, nn, by simpa [updH, upd_ne _ _ e] using hkk, hbb⟩
  · cases hq

theorem zeros_rel (n : Nat) {z : List Value} (h1 : ∀ x ∈ z, x.oneCell' = true) : VRs B (zeros n z) (List.replicate n z).flatten ∧ ∀ x ∈ (List.replicate n z).flatten, x.oneCell' = true := by
  refine ⟨VRs.vals _, fun x hx => ?_⟩
  obtain ⟨l, hl, hx⟩ := List.mem_flatten.1 hx
  rw [List.mem_replicate] at hl
  exact h1 x (hl.2 ▸ hx)

theorem fillA_len : ∀ {ps : List (Nat × Nat)} {xs cells l : List AV}, fillA cells ps xs = some l → l.length = cells.length
  | [], [], cells, l, h => by simp only [fillA, Option.some.injEq] at h; rw [h]
  | [], _ :: _, cells, l, h => by simp [fillA] at h
  | (off, n) :: ps, [], cells, l, h => by simp [fillA] at h
  | (off, n) :: ps, x :: xs, cells, l, h => by
    simp only [fillA] at h
    split at h
    · cases h
    · split at h
      · rename_i hh
        have := fillA_len h
        simp at this
        omega
      · cases h
theorem eqOp_kind {neg : Bool} {T : TypeId} {op : AOp} (h : eqOp P neg T = some op) : isFresh op = false ∧ isEff op = false := by
  unfold eqOp at h
  cases hu : P.underlying T with
  | none => simp [hu] at h
  | some d =>
    rw [hu] at h
    cases d <;> simp only [reduceCtorEq, Option.some.injEq] at h <;> first
      | (subst h; exact ⟨rfl, rfl⟩)
      | skip
    · split at h <;> simp only [reduceCtorEq, Option.some.injEq] at h
      subst h; exact ⟨rfl, rfl⟩
    · split at h
      · split at h
        · cases h
        · cases h; exact ⟨rfl, rfl⟩
      · cases h
    · split at h
      · cases h
      · cases hl : leaves P 10 T 0 <;> rw [hl] at h <;> simp at h
        subst h; exact ⟨rfl, rfl⟩

/-- What makes a block. -/
theorem wrap64 {n : Int} (h : -9223372036854775808 ≤ n) (h' : n ≤ 9223372036854775807) : IntKind.i64.wrap n = n := by simp only [IntKind.wrap, IntKind.signed, IntKind.bits]; simp; omega
theorem fresh_ok {h : Nat → AObj} (hr : HR B h w) {o : Oper} {op : AOp} {xs : List Opd} (hcomp : compileOp P o = some (op, xs)) (ht : ∀ j, VR B (t j) (a.tmps.getD j undef)) {f : Nat} (hf : B f = none)
    {c : Prop} {v : AV} {ob : AObj} (hq : fresh op (xs.map (evO t)) f = some (c, v, ob)) (hc : c) :
    ∃ r w', (execOp a.eval o).run P w = .ok (.value r) w' ∧ EffRes B h w f v [(f, ob)] r w' := by
  have fin : ∀ {s : Sem Value}, execOp a.eval o = (do pure (.value (← s))) → (∃ r w', s.run P w = .ok r w' ∧ EffRes B h w f v [(f, ob)] r w') → ∃ r w', (execOp a.eval o).run P w = .ok (.value r) w' ∧ EffRes B h w f v [(f, ob)] r w' := by
    intro s e ⟨r, w', h1, h2⟩
    rw [e]
    exact ⟨r, w', valueRun h1, h2⟩
  have nf : isFresh op = true := by
    cases op <;> first | rfl | (simp [fresh] at hq; done)
  cases hop : o.op
  case alloc T =>
    simp only [compileOp, hop] at hcomp
    cases hz : zeroT P T with
    | none => rw [hz] at hcomp; cases hcomp
    | some z =>
      rw [hz] at hcomp
      simp only [Option.map_some, Option.some.injEq, Prod.mk.injEq] at hcomp
      obtain ⟨rfl, rfl⟩ := hcomp
      simp only [fresh, Option.some.injEq, Prod.mk.injEq] at hq
      obtain ⟨-, rfl, rfl⟩ := hq
      obtain ⟨zv, z1, z2, z3⟩ := run_zero hz w
      refine fin (s := Instr.alloc T true (.tuple #[])) (by simp only [execOp, hop]) ⟨.pointer (some ⟨w.heap.size, 0, none⟩), _, ?_, res_new hr hf (new_push w (.cells zv.cells T)) (OR_all (heap_push w _) (by rw [z2]; exact VRs.vals z) (by rw [z2]; exact z3)) (by simp only [VR]; exact ⟨_, _, setB_same _ _ _, rfl⟩)⟩
      simp [Instr.alloc, z1, newVar, newRow]
  case box T x =>
    simp only [compileOp, hop, Option.some.injEq, Prod.mk.injEq] at hcomp
    obtain ⟨rfl, rfl⟩ := hcomp
    simp only [fresh, List.map_cons, List.map_nil] at hq
    cases hl : cellsA (evO t (opd x)) with
    | none => rw [hl] at hq; cases hq
    | some l =>
      rw [hl] at hq
      simp only [Option.map_some, Option.some.injEq, Prod.mk.injEq] at hq
      obtain ⟨-, rfl, rfl⟩ := hq
      obtain ⟨c1, c2⟩ := cells_ok hl (ev_rel ht x)
      refine fin (s := Instr.box T (a.eval x)) (by simp only [execOp, hop]) ⟨.pointer (some ⟨w.heap.size, 0, none⟩), _, ?_, res_new hr hf (new_push w (.cells (a.eval x).cells T)) (OR_all (heap_push w _) (c1.mono (BLe.setB hf)) c2) (by simp only [VR]; exact ⟨_, _, setB_same _ _ _, rfl⟩)⟩
      simp [Instr.box, newVar, newRow]
  case makeMap T r =>
    cases r with
    | some n =>
      simp only [compileOp, hop] at hcomp
      split at hcomp
      · rename_i kt e hu
        simp only [Option.some.injEq, Prod.mk.injEq] at hcomp
        obtain ⟨rfl, rfl⟩ := hcomp
        simp only [fresh, List.map_cons, List.map_nil] at hq
        split at hq
        · rename_i e1; cases e1
        · rename_i k m e1
          simp only [List.cons.injEq, and_true] at e1
          have hn := one_rel ht e1
          rw [vr_val] at hn
          simp only [Option.some.injEq, Prod.mk.injEq] at hq
          obtain ⟨-, rfl, rfl⟩ := hq
          refine fin (s := Instr.makeMap T (some (a.eval n))) (by simp only [execOp, hop]; rfl) ⟨.map (some w.heap.size), _, ?_, res_new (n := 0) hr hf (new_push w (.map #[] 0)) ⟨w.heap.size, 0, #[], 0, rfl, heap_push w _, by simp [ER], by simp [born]⟩ (by simp only [VR]; exact ⟨_, _, setB_same _ _ _, rfl⟩)⟩
          rw [hn]
          simp [Instr.makeMap, run_und hu, asInt, asIntOf]
        · cases hq
      · cases hcomp
    | none =>
    simp only [compileOp, hop, reduceCtorEq, Option.some.injEq, Prod.mk.injEq] at hcomp
    obtain ⟨rfl, rfl⟩ := hcomp
    simp only [fresh, List.map_nil, Option.some.injEq, Prod.mk.injEq] at hq
    obtain ⟨-, rfl, rfl⟩ := hq
    refine fin (s := Instr.makeMap T none) (by simp only [execOp, hop]; rfl) ⟨.map (some w.heap.size), _, ?_, res_new (n := 0) hr hf (new_push w (.map #[] 0)) ⟨w.heap.size, 0, #[], 0, rfl, heap_push w _, by simp [ER], by simp [born]⟩ (by simp only [VR]; exact ⟨_, _, setB_same _ _ _, rfl⟩)⟩
    simp [Instr.makeMap]
  case buildSlice T n ps =>
    simp only [compileOp, hop] at hcomp
    split at hcomp
    · rename_i r hr'
      obtain ⟨k, by0, z⟩ := r
      obtain ⟨e, i0, hu, hi0, hz, hzl0, hk1, -⟩ := elemT_spec hr'
      · simp only at hcomp hz hzl0 hk1
        have hzl : z.length = k := by omega
        have hk : sizeT P e = some k := by simp [sizeT, hi0, hk1]
        split at hcomp
        · rename_i hcond
          obtain ⟨hc1, hk0⟩ := hcond
          cases hq' : partsOf (fun i => some (i * k, k)) ps with
          | none => rw [hq'] at hcomp; cases hcomp
          | some q =>
            rw [hq'] at hcomp
            simp only [Option.map_some, Option.some.injEq, Prod.mk.injEq] at hcomp
            obtain ⟨rfl, rfl⟩ := hcomp
            simp only [fresh, List.map_map, Function.comp_def] at hq
            cases hfl : fillA (zeros n z) q (ps.toList.map fun x => evO t (opd x.2)) with
            | none => rw [hfl] at hq; cases hq
            | some l =>
              rw [hfl] at hq
              simp only [Option.map_some, Option.some.injEq, Prod.mk.injEq] at hq
              obtain ⟨-, rfl, rfl⟩ := hq
              obtain ⟨zv, z1, z2, z3⟩ := run_zero hz w
              obtain ⟨zr1, zr2⟩ := zeros_rel (B := B) n z3
              have hzs : zv.cells.size = k := by have := congrArg List.length z2; simp at this; omega
              obtain ⟨base, hb1, hb2⟩ : ∃ base : Array Value, ((do let zero ← (if n * k = 0 then pure #[] else do pure (← zeroValue e).cells : Sem (Array Value)); pure ((Array.range (n * k)).map (zero[· % zero.size]!)) : Sem (Array Value)).run P w) = .ok base w ∧ base.toList = (List.replicate n z).flatten := by
                by_cases hnk : n * k = 0
                · refine ⟨#[], by simp [hnk], ?_⟩
                  have : n = 0 := by rcases Nat.mul_eq_zero.1 hnk with h | h <;> omega
                  subst this; simp
                · refine ⟨(Array.range (n * k)).map (zv.cells[· % zv.cells.size]!), by simp [hnk, z1], ?_⟩
                  rw [← z2]; exact zeros_eq n k zv.cells hzs (.inr hk0)
              have hvs := evs_rel ht (ps.toList.map (·.2))
              simp only [List.map_map, Function.comp_def] at hvs
              obtain ⟨out, ho, hv, hv1⟩ := fill_ok q _ _ l hfl (fun i => some (i * k, k)) (ps.toList.map (·.1)) _ base (by
                rw [← partsL_mapM]
                exact hq') hvs (by rw [hb2]; exact zr1) (by rw [hb2]; exact zr2)
              have hzip : (ps.toList.map (·.1)).zip (ps.toList.map fun x => a.eval x.2) = (ps.map fun (i, x) => (i, a.eval x)).toList := by
                rw [Array.toList_map]
                generalize ps.toList = L
                induction L with
                | nil => rfl
                | cons x L ih => simp [ih]
              rw [hzip] at ho
              have hol : out.size = n * k := by
                have h1 := hv.length
                have h2 := fillA_len hfl
                simp [zeros, List.length_flatten, hzl] at h2
                simp at h1
                omega
              refine fin (s := Instr.buildSlice T n (ps.map fun (i, x) => (i, a.eval x))) (by simp only [execOp, hop]) ⟨.slice (some ⟨w.heap.size, 0, none⟩) n n, _, ?_, res_new hr hf (new_push w (.cells out e)) (OR_all (heap_push w _) (hv.mono (BLe.setB hf)) hv1)
                (by simp only [VR]; exact .inr ⟨_, _, n, 0, setB_same _ _ _, rfl, Nat.le_refl _, by omega, .inl rfl, fun m hm => by cases hm; rfl⟩)⟩
              unfold Instr.buildSlice
              simp only [Sem.run_bind, run_und hu, Result.andThen_ok, run_size hk]
              have hng : ¬ (n * k > 2 ^ 24) := by omega
              simp only [Sem.run_ite, if_neg hng]
              by_cases hnk : n * k = 0
              · rw [if_pos hnk] at hb1
                simp only [Sem.run_bind, Sem.run_pure, Result.andThen_ok, Result.ok.injEq, and_true] at hb1
                simp only [hnk, if_true, Sem.run_bind, Sem.run_pure, Result.andThen_ok]
                simp only [hnk] at hb1
                rw [hb1, ho]
                simp [newRow]
              · rw [if_neg hnk] at hb1
                simp only [Sem.run_bind, z1, Sem.run_pure, Result.andThen_ok, Result.ok.injEq, and_true] at hb1
                simp only [if_neg hnk, Sem.run_bind, z1, Sem.run_pure, Result.andThen_ok]
                rw [hb1, ho]
                simp [newRow]
        · cases hcomp
    · cases hcomp
  case makeSlice T l' c' =>
    simp only [compileOp, hop] at hcomp
    split at hcomp
    · rename_i r hr'
      obtain ⟨ks, bys, z⟩ := r
      obtain ⟨e, i, hu, hi, hz, hzl, hk1, hb1'⟩ := elemT_spec hr'
      · simp only at hk1 hb1'
        subst hk1; subst hb1'
        simp only at hz hzl
        · simp only [Option.some.injEq, Prod.mk.injEq] at hcomp
          obtain ⟨rfl, rfl⟩ := hcomp
          simp only [fresh, List.map_cons, List.map_nil] at hq
          split at hq
          · rename_i k1 l k2 c e1
            simp only [List.cons.injEq, and_true] at e1
            have hl := one_rel ht e1.1
            have hcc := one_rel ht e1.2
            rw [vr_val] at hl hcc
            simp only [Option.some.injEq, Prod.mk.injEq] at hq
            obtain ⟨rfl, rfl, rfl⟩ := hq
            obtain ⟨p1, p2, p3, p4⟩ := hc
            obtain ⟨zv, z1, z2, z3⟩ := run_zero hz w
            obtain ⟨zr1, zr2⟩ := zeros_rel (B := B) c.toNat z3
            have hzs : zv.cells.size = i.size := by have := congrArg List.length z2; simp at this; omega
            have hwl : IntKind.i64.wrap l = l := by rw [IntKind.wrap_i64]; omega
            have hwc : IntKind.i64.wrap c = c := by rw [IntKind.wrap_i64]; omega
            obtain ⟨base, hb1, hb2, hb3⟩ : ∃ base : Array Value, ((do let zero ← (if c.toNat * i.size = 0 then pure #[] else do pure (← zeroValue e).cells : Sem (Array Value)); pure ((Array.range (c.toNat * i.size)).map (zero[· % zero.size]!)) : Sem (Array Value)).run P w) = .ok base w ∧ base.toList = (List.replicate c.toNat z).flatten ∧ base.size = c.toNat * i.size := by
              by_cases hnk : c.toNat * i.size = 0
              · refine ⟨#[], by simp [hnk], ?_, by simp [hnk]⟩
                rcases Nat.mul_eq_zero.1 hnk with h | h
                · rw [h]; simp
                · have : z = [] := List.length_eq_zero_iff.1 (by omega)
                  subst this; simp
              · refine ⟨(Array.range (c.toNat * i.size)).map (zv.cells[· % zv.cells.size]!), by simp [hnk, z1], ?_, by simp⟩
                rw [← z2]; exact zeros_eq c.toNat i.size zv.cells hzs (.inr (by rcases Nat.eq_zero_or_pos i.size with h | h; (exfalso; exact hnk (by rw [h]; simp)); exact h))
            refine fin (s := Instr.makeSlice T (a.eval l') (a.eval c')) (by simp only [execOp, hop]) ⟨.slice (some ⟨w.heap.size, 0, none⟩) l.toNat c.toNat, _, ?_, res_new hr hf (new_push w (.cells base e)) (OR_all (heap_push w _) (by rw [hb2]; exact zr1.mono (BLe.setB hf)) (by rw [hb2]; exact zr2))
              (by simp only [VR]; exact .inr ⟨_, _, c.toNat, 0, setB_same _ _ _, rfl, by omega, by omega, .inl rfl, fun m hm => by cases hm; rfl⟩)⟩
            rw [hl, hcc]
            unfold Instr.makeSlice
            simp only [Sem.run_bind, run_und hu, Result.andThen_ok, asInt, asIntOf, Sem.run_pure, run_info hi, hwl, hwc]
            have g1 : ¬ ((decide (c < 0) || decide ((i.bytes : Int) * c > 2 ^ 48)) = true ∨ l < 0 ∨ l > c) := by
              simp
              omega
            have g2 : ((decide (c < 0) || decide ((i.bytes : Int) * c > 2 ^ 48)) || decide (l < 0) || decide (l > c)) = false := by
              simp
              omega
            simp only [g2, Bool.false_eq_true, if_false, Sem.run_bind, run_askRoom, Result.andThen_ok, run_size (show sizeT P e = some i.size by simp [sizeT, hi]), Sem.run_ite]
            by_cases hnk : c.toNat * i.size = 0
            · rw [if_pos hnk] at hb1
              simp only [Sem.run_bind, Sem.run_pure, Result.andThen_ok, Result.ok.injEq, and_true] at hb1
              simp only [hnk, if_true, Sem.run_bind, Sem.run_pure, Result.andThen_ok]
              simp only [hnk] at hb1
              rw [hb1]
              simp [newRow]
            · rw [if_neg hnk] at hb1
              simp only [Sem.run_bind, z1, Sem.run_pure, Result.andThen_ok, Result.ok.injEq, and_true] at hb1
              simp only [if_neg hnk, Sem.run_bind, z1, Sem.run_pure, Result.andThen_ok]
              rw [hb1]
              simp [newRow]
          · cases hq
    · cases hcomp
  case convert S T x =>
    simp only [compileOp, hop] at hcomp
    split at hcomp
    · simp only [Option.some.injEq, Prod.mk.injEq] at hcomp; obtain ⟨rfl, rfl⟩ := hcomp; cases nf
    · simp only [Option.some.injEq, Prod.mk.injEq] at hcomp; obtain ⟨rfl, rfl⟩ := hcomp; cases nf
    · split at hcomp <;> first | (cases hcomp; done) | (simp only [Option.some.injEq, Prod.mk.injEq] at hcomp; obtain ⟨rfl, rfl⟩ := hcomp; cases nf)
    · rename_i e h1 h2
      split at hcomp
      · rename_i h3
        simp only [Option.some.injEq, Prod.mk.injEq] at hcomp
        obtain ⟨rfl, rfl⟩ := hcomp
        simp only [fresh, List.map_cons, List.map_nil] at hq
        split at hq
        · rename_i s e1
          simp only [List.cons.injEq, and_true] at e1
          have hx := one_rel ht e1
          rw [vr_val] at hx
          simp only [Option.some.injEq, Prod.mk.injEq] at hq
          obtain ⟨rfl, rfl, rfl⟩ := hq
          generalize hcap : (Question.appendCap s.size 0 e).cut (w.tape w.drawn (Question.appendCap s.size 0 e)) = cap
          have hge : s.size ≤ cap := by rw [← hcap]; simp only [Question.cut]; omega
          obtain ⟨sc1, sc2⟩ := str_cells (B := B) s
          let arr : Array Value := (s.data.map fun b => Value.int .u8 (b.toNat : Int)) ++ Array.replicate (cap - s.size) (.int .u8 0)
          have hasz : arr.size = cap := by simp only [arr, Array.size_append, Array.size_map, Array.size_replicate]; have : s.data.size = s.size := rfl; omega
          let w1 : World := { w with heap := w.heap.push (.cells arr e), drawn := w.drawn + 1 }
          let w2 : World := w1.freeze { block := w.heap.size, off := arr.size } 1
          have hw2 : w2.heap[w.heap.size]? = some (.cells arr e (arr.size, arr.size + 1)) := by
            simp only [w2, World.freeze]
            rw [if_neg (by omega)]
            simp only [w1, Array.getElem?_modify, if_true]
            simp
          have hnew : New w w2 := by
            refine ⟨by simp [w2, World.freeze, w1], by simp [w2, World.freeze, w1], by simp [w2, World.freeze, w1], by simp [w2, World.freeze, w1], fun b hb => ?_⟩
            simp only [w2, World.freeze]
            rw [if_neg (by omega)]
            simp only [w1, Array.getElem?_modify]
            rw [if_neg (by omega)]
            simp [Array.getElem?_push, show b ≠ w.heap.size by omega]
          have htk : arr.toList.take (strCells s).length = s.data.toList.map fun b => Value.int .u8 (b.toNat : Int) := by
            simp only [arr, Array.toList_append, Array.toList_map]
            rw [show (strCells s).length = (s.data.toList.map fun b => Value.int .u8 (b.toNat : Int)).length by simp [strCells], List.take_left]
          refine fin (s := convert S T (a.eval x)) (by simp only [execOp, hop]) ⟨.slice (some ⟨w.heap.size, 0, none⟩) s.size cap, w2, ?_, res_new (n := arr.size) hr hf hnew (.inr ⟨_, arr.size, arr, e, _, rfl, hw2, rfl, by rw [htk]; exact sc1.mono (BLe.setB hf), by rw [htk]; exact Ones.of sc2, fun e => by cases e⟩)
            (by simp only [VR]; exact .inr ⟨_, _, cap, 0, setB_same _ _ _, rfl, hge, by omega, .inl rfl, by simp⟩)⟩
          rw [hx]
          have hfo : (Question.appendCap s.size 0 e).forced = false := rfl
          simp only [convert, Sem.run_bind, run_und h1, run_und h2, run_und h3, Result.andThen_ok, Conv.stringToBytes, run_choose, hfo, Bool.false_eq_true, if_false, hcap]
          simp only [newRow, Sem.run_bind, run_newObj, Result.andThen_ok, Sem.run_pure, markStringish, run_shape]
          have hsh : (World.mk (w.heap.push (.cells arr e)) w.tape (w.drawn + 1) w.os w.output).shape? w.heap.size = some (e, arr.size) := by simp [World.shape?]
          have hsh' := hsh
          simp only [arr] at hsh
          rw [hsh]
          simp only [run_freeze, Result.andThen_ok]
          rfl
        · cases hq
      · cases hcomp
    · cases hcomp
  case call cl =>
    have ex : execOp a.eval o = (do let d ← resolve a.eval cl o.type; invoke d.target d.args) := by simp only [execOp, hop]
    simp only [compileOp, hop] at hcomp
    unfold call? at hcomp
    split at hcomp
    · simp only [Option.some.injEq, Prod.mk.injEq] at hcomp; obtain ⟨rfl, rfl⟩ := hcomp; cases nf
    · simp only [Option.some.injEq, Prod.mk.injEq] at hcomp; obtain ⟨rfl, rfl⟩ := hcomp; cases nf
    · cases hcomp
    · rename_i b hb
      have hat : ∀ {T : TypeId} {l : List TypeId}, cl.argTypes.toList = T :: l → cl.argTypes[0]? = some T := fun e => by
        rw [← Array.getElem?_toList, e]; rfl
      have hat1 : ∀ {T U : TypeId}, cl.argTypes.toList = [T, U] → cl.argTypes[1]? = some U := fun e => by
        rw [← Array.getElem?_toList, e]; rfl
      have har2 : ∀ {x y : Operand}, cl.args.toList = [x, y] → cl.args.map a.eval = #[a.eval x, a.eval y] := fun e => by
        apply Array.ext'; simp [e]
      split at hcomp
      case h_5 T U x y ets exs =>
        split at hcomp
        · rename_i r d hr0 hd
          obtain ⟨ks, bys, z⟩ := r
          obtain ⟨e, i, hu, hi, hz, hzl, hk1, hb1⟩ := elemT_spec hr0
          simp only at hk1 hb1
          subst hk1; subst hb1
          simp only at hz hzl
          split at hcomp
          · simp only [Option.some.injEq, Prod.mk.injEq] at hcomp; obtain ⟨rfl, rfl⟩ := hcomp; cases nf
          · simp only [Option.some.injEq, Prod.mk.injEq] at hcomp; obtain ⟨rfl, rfl⟩ := hcomp; cases nf
          · simp only [Option.some.injEq, Prod.mk.injEq] at hcomp; obtain ⟨rfl, rfl⟩ := hcomp; cases nf
          · cases hcomp
        · cases hcomp
      all_goals
        exfalso
        (repeat' split at hcomp) <;> first
          | (cases hcomp; done)
          | (simp only [Option.some.injEq, Prod.mk.injEq] at hcomp; obtain ⟨rfl, rfl⟩ := hcomp; simp [isFresh] at nf; done)
          | (cases hz : sizeT P _ <;> rw [hz] at hcomp <;> simp at hcomp <;> obtain ⟨rfl, rfl⟩ := hcomp <;> simp [isFresh] at nf; done)
          | (cases hz : keyL P _ <;> rw [hz] at hcomp <;> simp at hcomp <;> obtain ⟨rfl, rfl⟩ := hcomp <;> simp [isFresh] at nf; done)
  case binOp bop T x y yT =>
    exfalso
    have : (∃ neg, (eqOp P neg T).map (fun op => (op, [opd x, opd y])) = some (op, xs)) ∨ some (AOp.bin bop, [opd x, opd y]) = some (op, xs) := by
      unfold compileOp at hcomp
      rw [hop] at hcomp
      cases bop <;> first | exact .inr hcomp | exact .inl ⟨_, hcomp⟩
    rcases this with ⟨neg, h1⟩ | h1
    · cases he : eqOp P neg T with
      | none => rw [he] at h1; cases h1
      | some q => rw [he] at h1; simp only [Option.map_some, Option.some.injEq, Prod.mk.injEq] at h1; obtain ⟨rfl, rfl⟩ := h1; rw [(eqOp_kind he).1] at nf; cases nf
    · simp only [Option.some.injEq, Prod.mk.injEq] at h1; obtain ⟨rfl, rfl⟩ := h1; cases nf
  all_goals
    exfalso
    simp only [compileOp, hop] at hcomp
    (repeat' split at hcomp) <;> first
      | (cases hcomp; done)
      | (simp only [Option.some.injEq, Prod.mk.injEq] at hcomp; obtain ⟨rfl, rfl⟩ := hcomp; simp [isFresh] at nf; done)
      | (cases hz : sizeT P _ <;> rw [hz] at hcomp <;> simp at hcomp <;> obtain ⟨rfl, rfl⟩ := hcomp <;> simp [isFresh] at nf; done)
      | (cases hz : lay P _ <;> rw [hz] at hcomp <;> simp at hcomp <;> obtain ⟨rfl, rfl⟩ := hcomp <;> simp [isFresh] at nf; done)
      | (cases hz : keyL P _ <;> rw [hz] at hcomp <;> simp at hcomp <;> obtain ⟨rfl, rfl⟩ := hcomp <;> simp [isFresh] at nf; done)
      | (cases hz : partsOf _ _ <;> rw [hz] at hcomp <;> simp at hcomp <;> obtain ⟨rfl, rfl⟩ := hcomp <;> simp [isFresh] at nf; done)
end
end Go.Am
/- Own theory, no program in sight: clear of slices. -/
namespace Go.Am
open Go Go.RowKit
set_option linter.unusedVariables false
set_option linter.unusedSimpArgs false
section
variable {P : Program} {B : BM} {w : World}
theorem ok_clear {h : Nat → AObj} (hr : HR B h w) {us : Array TypeId} {R sT e : TypeId} {k : Nat} {z : List Value} (h0 : us[0]? = some sT) (hu : P.underlying sT = some (.slice e)) (hzt : zeroT P e = some z) (hzl : z.length = k)
    {x : AV} {vx : Value} (hx : VR B x vx) {f : Nat} {c : Prop} {v : AV} {ups : List (Nat × AObj)}
    (hq : effClear k z [x] ((idOf x).map h) = some (c, v, ups)) (hc : c) : ∃ r w', (Builtin.clear_ us R #[vx]).run P w = .ok r w' ∧ EffRes B h w f v ups r w' := by
  have ht : ∀ B' : BM, VR B' (.tup []) (.tuple #[]) := fun B' => by simp only [VR]; exact ⟨#[], rfl, by simp [VRs]⟩
  unfold effClear at hq
  split at hq
  · rename_i e1
    simp only [List.cons.injEq, and_true] at e1
    subst e1
    cases hq
    rw [vr_val] at hx
    subst hx
    exact ⟨.tuple #[], w, by simp [Builtin.clear_, h0, run_und hu], B, BLe.refl B, ht B, hr, Kept.refl _ _, fun i b n hi hb => .inr ⟨i, n, hi, hb⟩, fun _ _ hz => .inl hz, fun k hk => .inl hk⟩
  · rename_i j off len k' cp cs objs e1 e2
    simp only [List.cons.injEq, and_true] at e1
    subst e1
    have e3 : [h j] = .cells false cs :: objs := e2
    rw [List.cons.injEq] at e3
    obtain ⟨hj, rfl⟩ := e3
    cases hq
    obtain ⟨rfl, hle⟩ := hc
    simp only [VR] at hx
    rcases hx with ⟨rfl, rfl, q0, rfl⟩ | ⟨b, sz, cap0, o, hb, rfl, q1, q2, q3, q4⟩
    · have hsame : updH h [(j, AObj.cells false (cs.take off ++ zeros 0 z ++ cs.drop (off + 0 * k')))] = h := by
        funext q
        simp only [updH, upd]
        split
        · rename_i e; subst e; rw [hj]; simp [zeros]
        · rfl
      refine ⟨.tuple #[], w, by cases q0 <;> simp [Builtin.clear_, h0, run_und hu], B, BLe.refl B, ht B, by rw [hsame]; exact hr, Kept.refl _ _, fun i b n hi hb => ?_, fun _ _ hz => .inl hz, fun k hk => .inl hk⟩
      rw [hsame] at hi
      exact .inr ⟨i, n, hi, hb⟩
    · rcases Nat.eq_zero_or_pos len with hl0 | hl0
      · subst hl0
        have hsame : updH h [(j, AObj.cells false (cs.take off ++ zeros 0 z ++ cs.drop (off + 0 * k')))] = h := by
          funext q
          simp only [updH, upd]
          split
          · rename_i e; subst e; rw [hj]; simp [zeros]
          · rfl
        refine ⟨.tuple #[], w, by simp [Builtin.clear_, h0, run_und hu], B, BLe.refl B, ht B, by rw [hsame]; exact hr, Kept.refl _ _, fun i b n hi hb => ?_, fun _ _ hz => .inl hz, fun k hk => .inl hk⟩
        rw [hsame] at hi
        exact .inr ⟨i, n, hi, hb⟩
      · have ho : o = off := q3.resolve_right (by omega)
        subst ho
        have hob := hr.obj j
        rw [hj] at hob
        rw [hb] at hob
        obtain ⟨arr, T', fz, hh, hsz, hv, h1c, hfz⟩ := OR.at_own hob
        have hcs : cs.length ≤ arr.size := by have := hv.length; simp at this; omega
        obtain ⟨zv, z1, z2, z3⟩ := run_zero hzt w
        have hzs : zv.cells.size = k' := by have := congrArg List.length z2; simp at this; omega
        have hze : (Builtin.zeroCells zv.cells len).toList = (List.replicate len z).flatten := by
          unfold Builtin.zeroCells
          rw [← z2, hzs]
          by_cases hk0 : len * k' = 0
          · have hk00 : k' = 0 := by rcases Nat.mul_eq_zero.1 hk0 with h | h; omega; exact h
            subst hk00
            rw [show zv.cells.toList = [] from List.length_eq_zero_iff.1 (by simpa using hzs)]
            simp
          · have := zeros_eq len k' zv.cells hzs (.inr (by rcases Nat.eq_zero_or_pos k' with h | h; (exfalso; exact hk0 (by rw [h]; simp)); exact h))
            rw [hzs] at this
            exact this
        obtain ⟨n1, n2⟩ := zeros_rel (B := B) len z3
        have hnl : (Builtin.zeroCells zv.cells len).toList.length = len * k' := by rw [hze]; simp [List.length_flatten, hzl]
        have hcl : (zeros len z).length = len * k' := by simp [zeros, List.length_flatten, hzl]
        obtain ⟨w', arr', s1, s2, s3, s4, s5, s6, s7, s8⟩ := cells_store (P := P) b T' fz (Builtin.zeroCells zv.cells len).toList o 0 arr w hh (by rw [hnl]; omega) (by rw [hze]; exact n2) (.inl hfz.1)
        have hasz : arr'.size = sz := by
          have := congrArg List.length s3
          simp only [List.length_append, List.length_take, List.length_drop, hnl, Array.length_toList] at this
          omega
        refine ⟨.tuple #[], w', ?_, B, BLe.refl B, ht B, ?_, ⟨s4, s5, s6, by rw [s7]; exact Nat.le_refl _, fun x hx hn => s8 x fun e => hn (.inr ⟨j, sz, by rw [hj]; rfl, by rw [e]; exact hb⟩)⟩, fun q bb nn hkk hbb => ?_, fun _ _ hz => .inl hz, fun q hkk => .inl hkk⟩
        · obtain ⟨m, rfl⟩ : ∃ m, len = m + 1 := ⟨len - 1, by omega⟩
          simp [Builtin.clear_, h0, run_und hu, z1, s1]
        · refine HR.write (h := h) hr (by rw [hj]; rfl) hb s8 ?_
          rw [← hasz]
          have hpre := mid_write (l := zeros len z) (o := o) (n := len * k') hcl (by omega) hnl (arr' := arr') (by rw [s3, hnl]; simp) hcs (hv := hv)
          refine OR_cells s2 hpre (VRs.append (VRs.append (VRs.take _ hv) (by rw [hze]; exact n1)) (VRs.drop _ hv)) ?_ hfz.1 (store_one s3 hfz.2 (by rw [hze]; exact n2))
          intro x hx
          rcases List.mem_append.1 hx with hx | hx
          · rcases List.mem_append.1 hx with hx | hx
            · exact h1c x (List.mem_of_mem_take hx)
            · rw [hze] at hx; exact n2 x hx
          · exact h1c x (List.mem_of_mem_drop hx)
        · by_cases e : q = j
          · subst e; rw [hb] at hbb; cases hbb; exact .inr ⟨q, sz, by rw [hj]; rfl, hb⟩
          · exact .inr ⟨q, nn, by simpa [updH, upd_ne _ _ e] using hkk, hbb⟩
  · cases hq
/-- Onto a slice so many zeros, no room. -/
theorem run_grow {us : Array TypeId} {R sT e U : TypeId} {kk : IntKind} {i : TypeInfo} {z : List Value} (h0 : us[0]? = some sT) (hu : P.underlying sT = some (.slice e)) (h1 : us[1]? = some U) (hU : P.underlying U = some (.int kk))
    (hi : P.info? e = some i) (hzt : zeroT P e = some z) (hzl : z.length = i.size) {base : Option Addr} {sLen sCap : Nat} {old : Array Value}
    (ho : ∀ w' : World, w'.heap = w.heap → (Builtin.firstCells i.size sLen (.slice base sLen sCap)).run P w' = .ok old w') (hos : old.size = sLen * i.size) {n : Int} (hn0 : 0 ≤ n) (hfit : ¬ sLen + n.toNat ≤ sCap) (hroom : appRoom (sLen + n.toNat) i.bytes) :
    ∃ cap new rest w', (Builtin.append_ us R #[.slice base sLen sCap, .int .i64 n]).run P w = .ok (.slice (some ⟨w.heap.size, 0, none⟩) (sLen + n.toNat) cap) w' ∧ sLen + n.toNat ≤ cap ∧ w'.heap[w.heap.size]? = some (.cells (old ++ new ++ rest) e (0, 0)) ∧
      (old ++ new ++ rest).size = cap * i.size ∧ new.size = n.toNat * i.size ∧ New w w' ∧ (∀ x ∈ new.toList, x.oneCell' = true) ∧ ∀ x ∈ rest.toList, x.oneCell' = true := by
  obtain ⟨zv, hz1, hz2, hz3⟩ := run_zero hzt w
  have hz1' : ∀ w' : World, (zeroValue e).run P w' = .ok zv w' := fun w' => by
    obtain ⟨zv', g1, g2, g3⟩ := run_zero hzt w'
    have : zv' = zv := by
      have r1 : (zeroValue e).run P w' = .ok zv w' := by
        unfold zeroValue at hz1 ⊢
        simp only [Sem.run_bind, run_info hi, Result.andThen_ok] at hz1 ⊢
        cases hzz : i.zero with
        | none => rw [hzz] at hz1; simp at hz1
        | some q => rw [hzz] at hz1; simp at hz1 ⊢; exact hz1
      rw [g1] at r1
      cases r1
      rfl
    rw [this] at g1
    exact g1
  have hk : sizeT P e = some i.size := by simp [sizeT, hi]
  obtain ⟨hr1, hr2⟩ := hroom
  obtain ⟨m, rfl⟩ : ∃ m : Nat, n = (m : Int) := ⟨n.toNat, by omega⟩
  simp only [Int.toNat_natCast] at hr1 hfit ⊢
  have hneed : sLen + m ≤ 140737488355328 := Nat.le_trans (Nat.le_mul_of_pos_right _ hr2) hr1
  have hw : IntKind.i64.wrap (m : Int) = m := wrap64 (by omega) (by omega)
  have g2 : ¬ (281474976710656 < Builtin.nextslicecap (sLen + m) sCap * i.bytes) := by
    have := growslice_fits (need := sLen + m) (old := sCap) (bytes := i.bytes) (by omega) hr1
    omega
  have g3 : ¬ ((m : Int) < 0) := by omega
  have g4 : ¬ (281474976710656 < (m : Int) * (i.bytes : Int)) := by
    have : ((m * i.bytes : Nat) : Int) ≤ ((140737488355328 : Nat) : Int) := Int.ofNat_le.2 (Nat.le_trans (Nat.mul_le_mul_right _ (by omega)) hr1)
    rw [Int.natCast_mul] at this
    omega
  have g5 : ¬ (9223372036854775807 < (sLen : Int) + (m : Int)) := by omega
  have hq : (Question.appendCap (sLen + m) sCap e).forced = false := rfl
  generalize hcap : (Question.appendCap (sLen + m) sCap e).cut (w.tape w.drawn (Question.appendCap (sLen + m) sCap e)) = cap
  have hcapge : sLen + m ≤ cap := by rw [← hcap]; simp only [Question.cut]; omega
  have hs := run_size (P := P) hk w
  have hzs : zv.cells.size = i.size := by have := congrArg List.length hz2; simp at this; omega
  have hrest := zeroCells_one (z := zv.cells) (by rw [hz2]; exact hz3) (cap - (sLen + m))
  have hrs : (Builtin.zeroCells zv.cells (cap - (sLen + m))).size = (cap - (sLen + m)) * i.size := by simp [Builtin.zeroCells, hzs]
  by_cases hms : m * i.size = 0
  · refine ⟨cap, #[], Builtin.zeroCells zv.cells (cap - (sLen + m)), { w.drew with heap := w.heap.push (.cells (old ++ #[] ++ Builtin.zeroCells zv.cells (cap - (sLen + m))) e) }, ?_, hcapge, heap_push w.drew _, ?_, by simp [hms], ?_, by simp, hrest⟩
    · simp [Builtin.append_, h0, h1, run_und hu, run_und hU, hs, run_info hi, hw, asInt, asIntOf, g2, g3, g4, g5, hfit, hq, hcap, hms, hz1' w.drew, newRow, ho w.drew rfl]
      rfl
    · rw [Array.size_append, Array.size_append, hrs, hos, Array.size_empty, Nat.sub_mul, Nat.add_mul, hms]
      have : (sLen + m) * i.size ≤ cap * i.size := Nat.mul_le_mul_right _ hcapge
      rw [Nat.add_mul, hms] at this
      omega
    · exact ⟨rfl, rfl, rfl, by simp, fun b hb => by simp [Array.getElem?_push, show b ≠ w.heap.size by omega]⟩
  · have hns : (Builtin.zeroCells zv.cells m).size = m * i.size := by simp [Builtin.zeroCells, hzs]
    refine ⟨cap, Builtin.zeroCells zv.cells m, Builtin.zeroCells zv.cells (cap - (sLen + m)), { w.drew with heap := w.heap.push (.cells (old ++ Builtin.zeroCells zv.cells m ++ Builtin.zeroCells zv.cells (cap - (sLen + m))) e) }, ?_, hcapge, heap_push w.drew _, ?_, hns, ?_, zeroCells_one (by rw [hz2]; exact hz3) _, hrest⟩
    · simp [Builtin.append_, h0, h1, run_und hu, run_und hU, hs, run_info hi, hw, asInt, asIntOf, g2, g3, g4, g5, hfit, hq, hcap, hms, hz1' w.drew, newRow, ho w.drew rfl]
      rfl
    · rw [Array.size_append, Array.size_append, hrs, hos, hns, ← Nat.add_mul, ← Nat.add_mul]
      congr 1
      omega
    · exact ⟨rfl, rfl, rfl, by simp, fun b hb => by simp [Array.getElem?_push, show b ≠ w.heap.size by omega]⟩
theorem vrs_any : ∀ (l : List Value), VRs B (List.replicate l.length .any) l
  | [] => by simp [VRs]
  | x :: l => by
    rw [List.length_cons, List.replicate_succ]
    simp only [VRs, VR, true_and]
    exact ⟨x, l, rfl, vrs_any l⟩
theorem ok_grow {h : Nat → AObj} (hr : HR B h w) {us : Array TypeId} {R sT e U : TypeId} {kk : IntKind} {i : TypeInfo} {z : List Value} (h0 : us[0]? = some sT) (hu : P.underlying sT = some (.slice e)) (h1 : us[1]? = some U) (hU : P.underlying U = some (.int kk))
    (hi : P.info? e = some i) (hzt : zeroT P e = some z) (hzl : z.length = i.size) {x y : AV} {vx vy : Value} (hx : VR B x vx) (hy : VR B y vy) {f : Nat} (hf : B f = none) {c : Prop} {v : AV} {ups : List (Nat × AObj)}
    (hq : effGrow i.size i.bytes f [x, y] ((idOf x).map h) = some (c, v, ups)) (hc : c) :
    ∃ r w', (Builtin.append_ us R #[vx, vy]).run P w = .ok r w' ∧ EffRes B h w f v ups r w' := by
  unfold effGrow at hq
  split at hq
  · rename_i n e1
    simp only [List.cons.injEq, and_true] at e1
    obtain ⟨rfl, rfl⟩ := e1
    rw [vr_val] at hx hy
    subst hx; subst hy
    cases hq
    obtain ⟨hn, hroom⟩ := hc
    rcases Int.lt_or_eq_of_le hn with hn0 | hn0
    · obtain ⟨cap, new, rest, w', k1, k2, k3, k4, k5, k6, k7, k8⟩ := run_grow (P := P) (R := R) (w := w) h0 hu h1 hU hi hzt hzl (base := none) (sLen := 0) (sCap := 0) (old := #[]) (fun _ _ => by simp [Builtin.firstCells]) (by simp) hn (by omega) (by simpa using hroom)
      refine ⟨_, w', k1, res_new hr hf k6 (OR_cells (cs := []) (vs := []) k3 (by simp) (by simp [VRs]) (by simp) (Nat.le_refl _) (app_one (app_one (by simp) k7) k8)) ?_⟩
      simp only [VR]
      exact .inr ⟨_, _, cap, 0, setB_same _ _ _, by simp, by simpa using k2, by rw [k4]; simp, .inl rfl, by simp⟩
    · subst hn0
      have k1 : (Builtin.append_ us R #[.slice none 0 0, .int .i64 0]).run P w = .ok (.slice none 0 0) w := by
        have hs := run_size (P := P) (show sizeT P e = some i.size by simp [sizeT, hi]) w
        have hw : IntKind.i64.wrap 0 = 0 := rfl
        simp [Builtin.append_, h0, h1, run_und hu, run_und hU, hs, run_info hi, hw, asInt, asIntOf]
      refine ⟨_, w, k1, B, BLe.refl B, by simp [VR], ⟨fun j => ?_, fun j k b n n' hjk hj hl hbj hbk => ?_, hr.zr.keep rfl (fun _ _ _ => rfl) fun j x m hj hx => ?_⟩, Kept.refl _ _, fun j b n hj hb => ?_, fun _ _ hz => .inl hz, fun k hk' => .inl hk'⟩
      · by_cases ej : j = f
        · subst ej; simp only [updH, upd_same, hf]; exact .inl ⟨rfl, rfl⟩
        · simp only [updH, upd_ne _ _ ej]; exact hr.obj j
      · by_cases ej : j = f
        · subst ej; rw [hf] at hbj; cases hbj
        · by_cases ek : k = f
          · subst ek; rw [hf] at hbk; cases hbk
          · simp only [updH, upd_ne _ _ ej] at hj
            simp only [updH, upd_ne _ _ ek] at hl
            exact hr.apart j k b n n' hjk hj hl hbj hbk
      · by_cases ej : j = f
        · subst ej; rw [hf] at hx; cases hx
        · simp only [updH, upd_ne _ _ ej] at hj
          exact hr.zr.free j x m hj hx
      · by_cases ej : j = f
        · subst ej; rw [hf] at hb; cases hb
        · simp only [updH, upd_ne _ _ ej] at hj
          exact .inr ⟨j, n, hj, hb⟩
  · rename_i j off len k' cp n ro cs objs e1 e2
    simp only [List.cons.injEq, and_true] at e1
    obtain ⟨rfl, rfl⟩ := e1
    have e3 : [h j] = .cells ro cs :: objs := e2
    rw [List.cons.injEq] at e3
    obtain ⟨hj, rfl⟩ := e3
    rw [vr_val] at hy
    subst hy
    cases hq
    obtain ⟨hn, hfit, rfl, hle, hroom, hna⟩ := hc
    simp only [VR] at hx
    rcases hx with ⟨-, h9, -⟩ | ⟨b, sz, cap0, o, hb, rfl, q1, q2, q3, q4⟩
    · cases h9
    obtain rfl := q4 cp rfl
    have hob := hr.obj j
    rw [hj] at hob
    rw [hb] at hob
    obtain ⟨arr, T', fz, hh, hsz, hv, h1c, hfz⟩ := OR.at_block hob
    have hcs : cs.length ≤ arr.size := by have := hv.length; simp at this; omega
    have hlen0 : len = 0 ∨ o = off := by rcases q3 with h3 | h3 <;> omega
    obtain ⟨old, ho1, ho2, ho3, ho4⟩ := old_ok (P := P) (k := i.size) (len := len) (cap := cap0) (cs := cs) hh hv (h1c.seg off _ hna (by have := hv.length; omega)) (o := o) (off := off) (by rcases hlen0 with h3 | h3 <;> omega) (by omega)
    obtain ⟨cap, new, rest, w', k1, k2, k3, k4, k5, k6, k7, k8⟩ := run_grow (P := P) (R := R) (w := w) h0 hu h1 hU hi hzt hzl (base := some ⟨b, o, none⟩) (sLen := len) (sCap := cap0) ho1 ho4 hn hfit hroom
    refine ⟨_, w', k1, ?_⟩
    have hnl : new.toList.length = n.toNat * i.size := by simpa using k5
    have hany : VRs B (List.replicate (n.toNat * i.size) .any) new.toList := by rw [← hnl]; exact vrs_any _
    have hsz' : (old ++ new ++ rest : Array Value).toList.take ((cs.drop off).take (len * i.size) ++ List.replicate (n.toNat * i.size) AV.any).length = old.toList ++ new.toList := by
      have hl := hany.length
      have hl2 := ho2.length
      rw [List.length_append, ← hl, ← hl2]
      simp only [Array.toList_append]
      rw [← List.length_append, List.take_left]
    exact res_new hr hf k6
      (OR_cells (vs := old.toList ++ new.toList) k3 hsz' (VRs.append (ho2.mono (BLe.setB hf)) (hany.mono (BLe.setB hf))) (fun x hx => by rcases List.mem_append.1 hx with hx | hx; exact ho3 x hx; exact k7 x hx) (Nat.le_refl _) (app_one (app_one ho3 k7) k8))
      (by simp only [VR]; exact .inr ⟨_, _, cap, 0, setB_same _ _ _, rfl, k2, by rw [k4]; omega, .inl rfl, by simp⟩)
  · cases hq
end
end Go.Am
/- Own theory, no program in sight: calls by contract. -/
namespace Go.Am
open Go Go.RowKit
set_option linter.unusedVariables false
set_option linter.unusedSimpArgs false
section
variable {P : Program} {B : BM} {w : World} {t : Nat → AV} {a : Act}

theorem newIds_get : ∀ (n f i : Nat), (newIds f n)[i]? = if i < n then some (f + i) else none
  | 0, f, i => by simp [newIds]
  | n + 1, f, 0 => by simp [newIds]
  | n + 1, f, i + 1 => by
    simp only [newIds, List.getElem?_cons_succ, newIds_get n (f + 1) i]
    by_cases h : i < n
    · rw [if_pos h, if_pos (by omega)]; congr 1; omega
    · rw [if_neg h, if_neg (by omega)]
theorem newUps_mem (ρ : List Nat) : ∀ (l : List AObj) (f k : Nat) (o : AObj), (k, o) ∈ newUps ρ f l ↔ ∃ i q, l[i]? = some q ∧ k = f + i ∧ o = renO ρ q
  | [], f, k, o => by simp [newUps]
  | q :: l, f, k, o => by
    simp only [newUps, List.mem_cons, Prod.mk.injEq, newUps_mem ρ l (f + 1) k o]
    constructor
    · rintro (⟨rfl, rfl⟩ | ⟨i, q', h1, rfl, rfl⟩)
      · exact ⟨0, q, rfl, rfl, rfl⟩
      · exact ⟨i + 1, q', by simpa using h1, by omega, rfl⟩
    · rintro ⟨i, q', h1, rfl, rfl⟩
      cases i with
      | zero => simp at h1; subst h1; exact .inl ⟨rfl, rfl⟩
      | succ i => exact .inr ⟨i, q', by simpa using h1, by omega, rfl⟩
theorem oldUps_mem (ρ : List Nat) : ∀ (is : List Nat) (ps qs : List AObj) (k : Nat) (o : AObj), (k, o) ∈ oldUps ρ is ps qs ↔ ∃ (i : Nat) (p q : AObj), is[i]? = some k ∧ ps[i]? = some p ∧ qs[i]? = some q ∧ p.own = true ∧ o = renO ρ q
  | [], ps, qs, k, o => by simp [oldUps]
  | i :: is, [], qs, k, o => by simp [oldUps]
  | i :: is, p :: ps, [], k, o => by simp [oldUps]
  | i :: is, p :: ps, q :: qs, k, o => by
    have ih := oldUps_mem ρ is ps qs k o
    simp only [oldUps]
    cases hp : p.own with
    | true =>
      simp only [List.mem_cons, Prod.mk.injEq, ih]
      constructor
      · rintro (⟨rfl, rfl⟩ | ⟨i', p', q', h1, h2, h3, h4, rfl⟩)
        · exact ⟨0, p, q, rfl, rfl, rfl, hp, rfl⟩
        · exact ⟨i' + 1, p', q', by simpa using h1, by simpa using h2, by simpa using h3, h4, rfl⟩
      · rintro ⟨i', p', q', h1, h2, h3, h4, rfl⟩
        cases i' with
        | zero => simp at h1 h2 h3; subst h1; subst h2; subst h3; exact .inl ⟨rfl, rfl⟩
        | succ i' => exact .inr ⟨i', p', q', by simpa using h1, by simpa using h2, by simpa using h3, h4, rfl⟩
    | false =>
      simp only [ih]
      constructor
      · rintro ⟨i', p', q', h1, h2, h3, h4, rfl⟩
        exact ⟨i' + 1, p', q', by simpa using h1, by simpa using h2, by simpa using h3, h4, rfl⟩
      · rintro ⟨i', p', q', h1, h2, h3, h4, rfl⟩
        cases i' with
        | zero => simp at h1 h2 h3; subst h2; rw [hp] at h4; cases h4
        | succ i' => exact ⟨i', p', q', by simpa using h1, by simpa using h2, by simpa using h3, h4, rfl⟩
theorem updH_cases (h : Nat → AObj) : ∀ (l : List (Nat × AObj)) (k : Nat), (k, updH h l k) ∈ l ∨ (k ∉ l.map (·.1) ∧ updH h l k = h k)
  | [], k => .inr ⟨by simp, rfl⟩
  | p :: l, k => by
    simp only [updH]
    by_cases e : k = p.1
    · subst e; rw [upd_same]; exact .inl (by simp)
    · rw [upd_ne _ _ e]
      rcases updH_cases h l k with h1 | ⟨h1, h2⟩
      · exact .inl (List.mem_cons_of_mem _ h1)
      · exact .inr ⟨by simp only [List.map_cons, List.mem_cons, not_or]; exact ⟨e, h1⟩, h2⟩
theorem asForL_get : ∀ (H os : List AObj) (i : Nat), H.length = os.length → (asForL H os)[i]? = match H[i]?, os[i]? with | some p, some o => some (asFor p o) | _, _ => none
  | [], [], i, _ => by simp [asForL]
  | p :: ps, o :: os, 0, h => by simp [asForL]
  | p :: ps, o :: os, i + 1, h => by
    simp only [asForL, List.getElem?_cons_succ]
    exact asForL_get ps os i (by simpa using h)
  | [], o :: os, i, h => by simp at h
  | p :: ps, [], i, h => by simp at h
theorem renOL_get (ρ : List Nat) : ∀ (H : List AObj) (i : Nat), (renOL ρ H)[i]? = (H[i]?).map (renO ρ)
  | [], i => by simp [renOL]
  | p :: ps, 0 => by simp [renOL]
  | p :: ps, i + 1 => by simp only [renOL, List.getElem?_cons_succ]; exact renOL_get ρ ps i
theorem alone_spec : ∀ {ids : List Nat} {H : List AObj}, aloneB ids H = true → ∀ {i j x y : Nat} {p q : AObj}, i ≠ j → ids[i]? = some x → ids[j]? = some y → H[i]? = some p → H[j]? = some q → p.own = true → q.live = true → x ≠ y
  | [], _, _, i, j, x, y, p, q, _, h1, _, _, _, _, _ => by simp at h1
  | _ :: _, [], _, i, j, x, y, p, q, _, _, _, h1, _, _, _ => by simp at h1
  | a :: is, r :: ps, h, i, j, x, y, p, q, hij, h1, h2, h3, h4, ho, hl => by
    simp only [aloneB, Bool.and_eq_true, List.all_eq_true] at h
    obtain ⟨hh, ht⟩ := h
    have zip : ∀ {k : Nat} {z : Nat} {s : AObj}, is[k]? = some z → ps[k]? = some s → (z, s) ∈ is.zip ps := fun {k z s} e1 e2 => by
      refine List.mem_of_getElem? (i := k) ?_
      rw [List.getElem?_zip_eq_some]
      exact ⟨e1, e2⟩
    cases i with
    | zero =>
      cases j with
      | zero => exact absurd rfl hij
      | succ j =>
        simp at h1 h2 h3 h4
        subst h1; subst h3
        have := hh (y, q) (zip h2 h4)
        intro e
        subst e
        simp [ho, hl, AObj.own_live ho] at this
    | succ i =>
      cases j with
      | zero =>
        simp at h1 h2 h3 h4
        subst h2; subst h4
        have := hh (x, p) (zip h1 h3)
        intro e
        subst e
        simp [ho, hl, AObj.own_live ho] at this
      | succ j => exact alone_spec ht (i := i) (j := j) (by omega) (by simpa using h1) (by simpa using h2) (by simpa using h3) (by simpa using h4) ho hl
theorem setRo_live (o : AObj) : (setRo o).live = o.live := by cases o <;> rfl
theorem OR_setRo {o : AObj} {p : Option (Nat × Nat)} (h : OR B o p w) : OR B (setRo o) p w := by
  cases o with
  | gone => trivial
  | cells ro cs =>
    rcases h with h | ⟨b, n, arr, T, fz, h1, h2, h3, h4, h6, h5⟩
    · exact .inl h
    · exact .inr ⟨b, n, arr, T, fz, h1, h2, h3, h4, (fun i a x ha hx => (h6 i a x ha hx).imp (fun h => ⟨rfl, h.2⟩) id), fun e => by cases e⟩
  | map ro es => exact h
theorem OR_asFor {p o : AObj} {q : Option (Nat × Nat)} (h : OR B o q w) : OR B (asFor p o) q w := by
  cases p with
  | gone => trivial
  | cells ro cs => cases ro <;> first | exact h | exact OR_setRo h
  | map ro cs => cases ro <;> first | exact h | exact OR_setRo h
theorem asFor_own {p o : AObj} (h : p.own = true) : asFor p o = o := by
  cases p with
  | gone => cases h
  | cells ro cs => cases ro <;> first | rfl | cases h
  | map ro cs => cases ro <;> first | rfl | cases h
theorem asFor_live {p o : AObj} (h : (asFor p o).live = true) : o.live = true := by
  cases p with
  | gone => cases h
  | cells ro cs => cases ro <;> simpa [asFor, setRo_live] using h
  | map ro cs => cases ro <;> simpa [asFor, setRo_live] using h
theorem Kept.mono' {m m' : Nat → Prop} {a b : World} (h : Kept m a b) (k : ∀ x, m x → m' x) : Kept m' a b := ⟨h.os, h.tape, h.output, h.size, fun x hx hn => h.block x hx fun e => hn (k x e)⟩
theorem listH_get (l : List AObj) (i : Nat) {o : AObj} (h : l[i]? = some o) : listH l i = o := by simp [listH, List.getD_eq_getElem?_getD, h]
theorem listH_none (l : List AObj) (i : Nat) (h : l.length ≤ i) : listH l i = .gone := by simp [listH, List.getD_eq_getElem?_getD, List.getElem?_eq_none h]

theorem call_ok {h : Nat → AObj} (hr : HR B h w) {g : FuncId} {xs : List AV} {ra : Array Value} (hx : VRs B xs ra.toList) {f : Nat} {ids : List Nat} {out : AV → List (Nat × AObj) → Prop}
    (hs : CallSpec P g xs f ids (ids.map h) out) (hf : ∀ k, f ≤ k → k < f + 16 → B k = none) :
    ∃ x, (x = false → entersB P g = true) ∧ CallsX P x g ra w fun e w' => ∃ v ups r, e = .returned r ∧ out v ups ∧ EffRes B h w f v ups r w' := by
  obtain ⟨args, H, R, ⟨x, hen, hcall⟩, hargs, hlen, hmatch, halone, hidlt, hcnt, hout⟩ := hs
  have fit : ∀ (i : Nat) (p : AObj), H[i]? = some p → ∃ x, ids[i]? = some x ∧ leO (asFor p (h x)) (renO ids p) := by
    intro i p hp
    have hi : i < ids.length := by rw [hlen]; exact (List.getElem?_eq_some_iff.1 hp).1
    obtain ⟨o, e, e'⟩ := leOL_get hmatch i (q := renO ids p) (by rw [renOL_get, hp]; rfl)
    rw [asForL_get _ _ _ (by simp [hlen]), hp] at e
    simp only [List.getElem?_map, Option.map_some] at e
    cases hx : ids[i]? with
    | none => rw [List.getElem?_eq_none_iff] at hx; omega
    | some x => rw [hx] at e; simp only [Option.map_some, Option.some.injEq] at e; rw [← e] at e'; exact ⟨x, rfl, e'⟩
  have ownUp : ∀ (i : Nat) (p : AObj), H[i]? = some p → p.own = true → ∃ x, ids[i]? = some x ∧ (h x).own = true := by
    intro i p hp ho
    obtain ⟨x, h1, h2⟩ := fit i p hp
    exact ⟨x, h1, by rw [asFor_own ho] at h2; exact leO_own h2 (by simpa using ho)⟩
  have liveUp : ∀ (i : Nat) (p : AObj), H[i]? = some p → p.live = true → ∃ x, ids[i]? = some x ∧ (h x).live = true := by
    intro i p hp ho
    obtain ⟨x, h1, h2⟩ := fit i p hp
    exact ⟨x, h1, asFor_live (p := p) (leO_live h2 (by simpa using ho))⟩
  have hget : ∀ (i : Nat), (listH H i).live = true → ∃ p : AObj, H[i]? = some p ∧ listH H i = p := by
    intro i hl
    cases hp : H[i]? with
    | none => rw [listH_none _ _ (by rw [List.getElem?_eq_none_iff] at hp; exact hp)] at hl; cases hl
    | some p => exact ⟨p, rfl, listH_get _ _ hp⟩
  have hr' : HR (under ids B) (listH H) w := by
    refine ⟨fun i => ?_, fun i j b n m hij hi hj hbi hbj => ?_, hr.zr.keep rfl (fun _ _ _ => rfl) fun i b n hi hbi => ?_⟩
    · cases hp : H[i]? with
      | none => rw [listH_none _ _ (by rw [List.getElem?_eq_none_iff] at hp; exact hp)]; trivial
      | some p =>
        rw [listH_get _ _ hp]
        obtain ⟨x, h1, h2⟩ := fit i p hp
        have h3 : OR B (renO ids p) (B x) w := leO_ok h2 (OR_asFor (hr.obj x))
        rw [OR_ren] at h3
        simpa [under, h1] using h3
    · obtain ⟨p, hp, ep⟩ := hget i (AObj.own_live hi)
      obtain ⟨q, hq, eq⟩ := hget j hj
      rw [ep] at hi
      rw [eq] at hj
      obtain ⟨x, h1, h2⟩ := ownUp i p hp hi
      obtain ⟨y, h3, h4⟩ := liveUp j q hq hj
      simp only [under, h1, h3, Option.bind_some] at hbi hbj
      exact hr.apart x y b n m (alone_spec halone hij h1 h3 hp hq hi hj) h2 h4 hbi hbj
    · obtain ⟨p, hp, ep⟩ := hget i (AObj.own_live hi)
      rw [ep] at hi
      obtain ⟨x, h1, h2⟩ := ownUp i p hp hi
      simp only [under, h1, Option.bind_some] at hbi
      exact hr.zr.free x b n h2 hbi
  refine ⟨x, hen, ?_⟩
  refine (hcall (under ids B) w ra ((VRs_ren ids B args _).1 (leAs_ok _ hargs hx)) hr' (fun i hi => by simp [under, List.getElem?_eq_none (show ids.length ≤ i by omega)])).mono ?_
  rintro e w' ⟨v, H', rv, Bf, rfl, hR, hHl, hB0, hv, hr2, hfr, hkept, hmine, ⟨hz1, hz2⟩, hro⟩
  have hcnt' := hcnt v H' hR
  generalize hcn : H'.length - H.length = cnt at *
  refine ⟨_, _, rv, rfl, hout v H' hR hHl, ?_⟩
  rw [hcn]
  generalize hρ : ids ++ newIds f cnt = ρ
  have ups_eq : upsOf ids f H H' = newUps ρ f (H'.drop H.length) ++ oldUps ρ ids H H' := by simp only [upsOf, hcn, hρ]
  let B' : BM := ⟨fun k => if f ≤ k ∧ k < f + cnt then Bf (H.length + (k - f)) else B k, Bf.z⟩
  have hBle : BLe B B' := ⟨fun k p hk => by
    have : ¬ (f ≤ k ∧ k < f + cnt) := fun hh => by rw [hf k hh.1 (by omega)] at hk; cases hk
    simp only [B', if_neg this]; exact hk, hz1⟩
  have rho_old : ∀ (i x : Nat), ids[i]? = some x → ρ[i]? = some x := fun i x hi => by
    rw [← hρ, List.getElem?_append_left (List.getElem?_eq_some_iff.1 hi).1]; exact hi
  have rho_new : ∀ i, H.length ≤ i → i < H'.length → ρ[i]? = some (f + (i - H.length)) := fun i h1 h2 => by
    rw [← hρ, List.getElem?_append_right (by omega), newIds_get, if_pos (by omega)]; congr 2; omega
  have Bnew : ∀ i, H.length ≤ i → i < H'.length → B' (f + (i - H.length)) = Bf i := fun i h1 h2 => by
    simp only [B']
    rw [if_pos (by omega)]
    congr 1
    omega
  have Bold : ∀ (i x : Nat) (p : Nat × Nat), ids[i]? = some x → Bf i = some p → B' x = some p := fun i x p hi hb => by
    have hil : i < H.length := by rw [← hlen]; exact (List.getElem?_eq_some_iff.1 hi).1
    rw [hB0 i hil] at hb
    simp only [under, hi, Option.bind_some] at hb
    exact hBle x p hb
  have hle2 : BLe Bf (under ρ B') := ⟨fun i p hb => by
    rcases Nat.lt_or_ge i H.length with h1 | h1
    · have hx : ∃ x, ids[i]? = some x := ⟨ids[i]'(by omega), by simp [hlen, h1]⟩
      obtain ⟨x, hx⟩ := hx
      simp only [under, rho_old i x hx, Option.bind_some]
      exact Bold i x p hx hb
    · rcases Nat.lt_or_ge i H'.length with h2 | h2
      · simp only [under, rho_new i h1 h2, Option.bind_some]
        rw [Bnew i h1 h2]; exact hb
      · rw [hfr i h2] at hb; exact absurd hb (by simp), fun _ _ h => h⟩
  have kinds : ∀ k, (∃ i, H.length ≤ i ∧ i < H'.length ∧ k = f + (i - H.length) ∧ updH h (upsOf ids f H H') k = renO ρ (listH H' i)) ∨
      (∃ (i : Nat) (p : AObj), ids[i]? = some k ∧ H[i]? = some p ∧ p.own = true ∧ i < H'.length ∧ updH h (upsOf ids f H H') k = renO ρ (listH H' i)) ∨
      ((¬ (f ≤ k ∧ k < f + cnt)) ∧ (∀ (i : Nat) (p : AObj), ids[i]? = some k → H[i]? = some p → p.own = false) ∧ updH h (upsOf ids f H H') k = h k) := by
    intro k
    rcases updH_cases h (upsOf ids f H H') k with h1 | ⟨h1, h2⟩
    · generalize updH h (upsOf ids f H H') k = o at *
      rw [ups_eq] at h1
      rcases List.mem_append.1 h1 with h1 | h1
      · obtain ⟨i, q, h2, rfl, rfl⟩ := (newUps_mem ρ _ f k o).1 h1
        rw [List.getElem?_drop] at h2
        have := (List.getElem?_eq_some_iff.1 h2).1
        exact .inl ⟨H.length + i, by omega, this, by omega, by rw [listH_get _ _ h2]⟩
      · obtain ⟨i, p, q, h2, h3, h4, h5, rfl⟩ := (oldUps_mem ρ ids H H' k o).1 h1
        exact .inr (.inl ⟨i, p, h2, h3, h5, (List.getElem?_eq_some_iff.1 h4).1, by rw [listH_get _ _ h4]⟩)
    · refine .inr (.inr ⟨fun hh => h1 ?_, fun i p h3 h4 => ?_, h2⟩)
      · rw [ups_eq, List.map_append]
        refine List.mem_append_left _ (List.mem_map.2 ⟨(k, renO ρ (listH H' (H.length + (k - f)))), (newUps_mem ρ _ f k _).2 ⟨k - f, listH H' (H.length + (k - f)), ?_, by omega, rfl⟩, rfl⟩)
        have hlt : H.length + (k - f) < H'.length := by omega
        rw [List.getElem?_drop, listH_get H' _ (List.getElem?_eq_getElem hlt)]
        exact List.getElem?_eq_getElem hlt
      · cases ho : p.own with
        | false => rfl
        | true =>
          exfalso
          refine h1 ?_
          rw [ups_eq, List.map_append]
          have hil : i < H'.length := by have := (List.getElem?_eq_some_iff.1 h4).1; omega
          exact List.mem_append_right _ (List.mem_map.2 ⟨(k, renO ρ (listH H' i)), (oldUps_mem ρ ids H H' k _).2 ⟨i, p, listH H' i, h3, h4, by rw [listH_get H' _ (List.getElem?_eq_getElem hil)]; exact List.getElem?_eq_getElem hil, ho, rfl⟩, rfl⟩)
  have mineUp : ∀ b, Mine (under ids B) (listH H) w b → Mine B h w b := by
    rintro b (hb | ⟨i, n, hi, hbi⟩)
    · exact .inl hb
    · obtain ⟨p, hp, ep⟩ := hget i (AObj.own_live hi)
      rw [ep] at hi
      obtain ⟨x, h1, h2⟩ := ownUp i p hp hi
      simp only [under, h1, Option.bind_some] at hbi
      exact .inr ⟨x, n, h2, hbi⟩
  have mineNot : ∀ {b k n}, Mine (under ids B) (listH H) w b → (h k).live = true → B k = some (b, n) → (∀ (i : Nat) (p : AObj), ids[i]? = some k → H[i]? = some p → p.own = false) → False := by
    rintro b k n (hb | ⟨i, m, hi, hbi⟩) hl hbk hno
    · have e1 := hr.obj k
      rw [hbk] at e1
      have := e1.block hl
      omega
    · obtain ⟨p, hp, ep⟩ := hget i (AObj.own_live hi)
      rw [ep] at hi
      obtain ⟨x, h1, h2⟩ := ownUp i p hp hi
      simp only [under, h1, Option.bind_some] at hbi
      by_cases e : x = k
      · subst e
        have := hno i p h1 hp
        rw [hi] at this
        cases this
      · exact hr.apart x k b m n e h2 hl hbi hbk
  have Bkeep : ∀ k, ¬ (f ≤ k ∧ k < f + cnt) → B' k = B k := fun k hk => by simp only [B', if_neg hk]
  have roNot : ∀ (i : Nat), (listH H' i).live = true → (listH H' i).own = false → (H.length ≤ i → False) ∧ ∀ (p : AObj), H[i]? = some p → p.own = false := by
    intro i hl ho
    have e := hro i hl ho
    refine ⟨fun hi => ?_, fun p hp => ?_⟩
    · rw [e, listH_none _ _ hi] at hl; cases hl
    · rw [e, listH_get _ _ hp] at ho; exact ho
  refine ⟨B', hBle, (VR_ren ρ B' v rv).2 (hv.mono hle2), ⟨fun k => ?_, fun j k b n m hjk hj hl hbj hbk => ?_, hr2.zr.keep rfl (fun _ _ _ => rfl) fun k b n hk hb => ?_⟩, hkept.trans (Kept.refl (fun _ => False) w') (fun _ _ hh => hh.elim) |>.mono' mineUp, fun k b n hk hb => ?_, fun b a hb => (hz2 b a hb).imp id (mineUp b), fun k hk => ?_⟩
  · rcases kinds k with ⟨i, h1, h2, rfl, e⟩ | ⟨i, p, h1, h2, h3, h4, e⟩ | ⟨h1, h2, e⟩
    · rw [e, Bnew i h1 h2, OR_ren]; exact (hr2.obj i).mono hle2
    · rw [e, OR_ren]
      have hil : i < H.length := (List.getElem?_eq_some_iff.1 h2).1
      have : B' k = Bf i := by
        rw [hB0 i hil]
        simp only [under, h1, Option.bind_some]
        exact Bkeep k (by have := hidlt k (List.mem_of_getElem? h1); omega)
      rw [this]
      exact (hr2.obj i).mono hle2
    · rw [e, Bkeep k h1]
      refine ((hr.obj k).mono hBle).congr fun hl b n hb => hkept.block b ?_ fun hm => mineNot hm hl hb h2
      have e1 := hr.obj k
      rw [hb] at e1
      exact e1.block hl
  · have cal : ∀ {j : Nat}, (updH h (upsOf ids f H H') j).live = true → ∀ {b n}, B' j = some (b, n) →
        (∃ i, updH h (upsOf ids f H H') j = renO ρ (listH H' i) ∧ Bf i = some (b, n) ∧ ((∃ p : AObj, ids[i]? = some j ∧ H[i]? = some p ∧ p.own = true) ∨ (H.length ≤ i ∧ j = f + (i - H.length)))) ∨
        (¬ (f ≤ j ∧ j < f + cnt) ∧ (∀ (i : Nat) (p : AObj), ids[i]? = some j → H[i]? = some p → p.own = false) ∧ updH h (upsOf ids f H H') j = h j ∧ B j = some (b, n)) := by
      intro j hl b n hb
      rcases kinds j with ⟨i, h1, h2, rfl, e⟩ | ⟨i, p, h1, h2, h3, h4, e⟩ | ⟨h1, h2, e⟩
      · exact .inl ⟨i, e, by rw [Bnew i h1 h2] at hb; exact hb, .inr ⟨h1, rfl⟩⟩
      · refine .inl ⟨i, e, ?_, .inl ⟨p, h1, h2, h3⟩⟩
        have hil : i < H.length := (List.getElem?_eq_some_iff.1 h2).1
        rw [hB0 i hil]
        simp only [under, h1, Option.bind_some]
        rw [← Bkeep j (by have := hidlt j (List.mem_of_getElem? h1); omega)]
        exact hb
      · exact .inr ⟨h1, h2, e, by rw [Bkeep j h1] at hb; exact hb⟩
    rcases cal (AObj.own_live hj) hbj with ⟨i, e, hbi, ki⟩ | ⟨h1, h2, e, hb1⟩ <;> rcases cal hl hbk with ⟨i', e', hbi', ki'⟩ | ⟨h1', h2', e', hb1'⟩
    · rw [e, renO_own] at hj
      rw [e', renO_live] at hl
      refine hr2.apart i i' b n m (fun hii => hjk ?_) hj hl hbi hbi'
      subst hii
      rcases ki with ⟨p, k1, k2, k3⟩ | ⟨k1, k2⟩ <;> rcases ki' with ⟨p', k1', k2', k3'⟩ | ⟨k1', k2'⟩
      · rw [k1] at k1'; cases k1'; rfl
      · have := (List.getElem?_eq_some_iff.1 k2).1; omega
      · have := (List.getElem?_eq_some_iff.1 k2').1; omega
      · rw [k2, k2']
    · rw [e, renO_own] at hj
      rw [e'] at hl
      exact mineNot (hmine i b n hj hbi) hl hb1' h2'
    · rw [e] at hj
      rw [e', renO_live] at hl
      cases ho : (listH H' i').own with
      | true => exact mineNot (hmine i' b m ho hbi') (AObj.own_live hj) hb1 h2
      | false =>
        obtain ⟨r1, r2⟩ := roNot i' hl ho
        rcases ki' with ⟨p', k1', k2', k3'⟩ | ⟨k1', k2'⟩
        · rw [r2 p' k2'] at k3'; cases k3'
        · exact r1 k1'
    · rw [e] at hj
      rw [e'] at hl
      exact hr.apart j k b n m hjk hj hl hb1 hb1'
  · show Bf.z b = none
    rcases kinds k with ⟨i, h1, h2, rfl, e⟩ | ⟨i, p, h1, h2, h3, h4, e⟩ | ⟨h1, h2, e⟩
    · rw [e, renO_own] at hk
      rw [Bnew i h1 h2] at hb
      exact hr2.zr.free i b n hk hb
    · rw [e, renO_own] at hk
      have hil : i < H.length := (List.getElem?_eq_some_iff.1 h2).1
      refine hr2.zr.free i b n hk ?_
      rw [hB0 i hil]
      simp only [under, h1, Option.bind_some]
      rw [← Bkeep k (by have := hidlt k (List.mem_of_getElem? h1); omega)]
      exact hb
    · rw [e] at hk
      rw [Bkeep k h1] at hb
      cases hz : Bf.z b with
      | none => rfl
      | some a =>
        rcases hz2 b a hz with h | h
        · have := hr.zr.free k b n hk hb
          rw [show (under ids B).z = B.z from rfl] at h
          rw [this] at h
          cases h
        · exact (mineNot h (AObj.own_live hk) hb h2).elim
  · rcases kinds k with ⟨i, h1, h2, rfl, e⟩ | ⟨i, p, h1, h2, h3, h4, e⟩ | ⟨h1, h2, e⟩
    · rw [e, renO_own] at hk
      rw [Bnew i h1 h2] at hb
      exact mineUp b (hmine i b n hk hb)
    · obtain ⟨x, e1, e2⟩ := ownUp i p h2 h3
      rw [h1] at e1
      cases e1
      rw [Bkeep k (by have := hidlt k (List.mem_of_getElem? h1); omega)] at hb
      exact .inr ⟨k, n, e2, hb⟩
    · rw [e] at hk
      rw [Bkeep k h1] at hb
      exact .inr ⟨k, n, hk, hb⟩
  · by_cases hh : f ≤ k ∧ k < f + cnt
    · right; omega
    · rw [Bkeep k hh] at hk; exact .inl hk
end
end Go.Am
/- Own theory, no program in sight: regions. -/
namespace Go.Am
open Go Go.RowKit
set_option linter.unusedVariables false
set_option linter.unusedSimpArgs false
section
variable {P : Program} {B : BM} {w : World} {t : Nat → AV} {a : Act}

theorem res_same {h : Nat → AObj} (hr : HR B h w) {f : Nat} {v : AV} {r : Value} (hv : VR B v r) : EffRes B h w f v [] r w :=
  ⟨B, BLe.refl B, hv, hr, Kept.refl _ _, fun i b n hi hb => .inr ⟨i, n, hi, hb⟩, fun _ _ hz => .inl hz, fun k hk => .inl hk⟩

/-- What the operation leaves, whatever way it ends. -/
def Left (B : BM) (h : Nat → AObj) (w : World) (f : Nat) (a : Act) (o : Oper) (out : AV → List (Nat × AObj) → Prop) (a' : Act) (w' : World) : Prop :=
  ∃ v ups r, out v ups ∧ a' = a.put o.dst r ∧ EffRes B h w f v ups r w'

theorem left_value {h : Nat → AObj} {f : Nat} {o : Oper} {out : AV → List (Nat × AObj) → Prop} {Q : Exit → Act → World → Prop} {v : AV} {ups : List (Nat × AObj)} (hv : out v ups)
    (h1 : ∃ r w', (execOp a.eval o).run P w = .ok (.value r) w' ∧ EffRes B h w f v ups r w') : o.wp P a w (Left B h w f a o out) Q := by
  obtain ⟨r, w', e, hres⟩ := h1
  unfold Oper.wp
  rw [e]
  exact ⟨v, ups, r, hv, rfl, hres⟩

theorem enter_of {g : FuncId} (hg : entersB P g = true) (args : Array Value) (w : World) : (callFunc g args).run P w = .ok (.enter g args) w := by
  unfold entersB at hg
  cases hf : P.funcs[g]? with
  | none => rw [hf] at hg; cases hg
  | some fn =>
    rw [hf] at hg
    simp only [Bool.and_eq_true, Bool.not_eq_true'] at hg
    unfold callFunc
    simp only [Sem.run_bind, run_program, Result.andThen_ok, hf, hg.1, Bool.false_eq_true, if_false, hg.2, Sem.run_pure]
theorem left_call {h : Nat → AObj} (hr : HR B h w) {f : Nat} (hf : ∀ k, f ≤ k → k < f + 16 → B k = none) {o : Oper} {out : AV → List (Nat × AObj) → Prop} {Q : Exit → Act → World → Prop} {g : FuncId} {xs : List AV} {ids : List Nat}
    {ra : Array Value} (hx : VRs B xs ra.toList) (hs : CallSpec P g xs f ids (ids.map h) out) (h1 : (execOp a.eval o).run P w = (callFunc g ra).run P w) : o.wp P a w (Left B h w f a o out) Q := by
  unfold Oper.wp
  rw [h1]
  obtain ⟨x, hen, hc⟩ := call_ok hr hx hs hf
  cases x with
  | false =>
    rw [enter_of (hen rfl)]
    refine Calls.mono hc ?_
    rintro e w' ⟨v, ups, r, rfl, ho, hres⟩
    exact ⟨v, ups, r, ho, rfl, hres⟩
  | true =>
    obtain ⟨r, w', g1, v, ups, r', e, ho, hres⟩ := hc
    cases e
    rw [g1]
    exact ⟨v, ups, r, ho, rfl, hres⟩

theorem eff_wp {h : Nat → AObj} (hr : HR B h w) {f : Nat} (hf : ∀ k, f ≤ k → k < f + 16 → B k = none) {o : Oper} {op : AOp} {xs : List Opd} (hcomp : compileOp P o = some (op, xs)) (ht : ∀ j, VR B (t j) (a.tmps.getD j undef))
    {ids : List Nat} {out : AV → List (Nat × AObj) → Prop} {Q : Exit → Act → World → Prop} (hs : Spec P op f (xs.map (evO t)) ids (ids.map h) out) :
    o.wp P a w (Left B h w f a o out) Q := by
  have hf0 : B f = none := hf f (Nat.le_refl _) (by omega)
  have quietCase : (∃ c v ups, (quiet op (xs.map (evO t)) ((ids.map h).headD .gone)).map (fun r => (r.1, r.2, ([] : List (Nat × AObj)))) = some (c, v, ups) ∧ c ∧ out v ups) → ids = eids op (xs.map (evO t)) → eids op (xs.map (evO t)) = (rid op (xs.map (evO t))).toList →
      o.wp P a w (Left B h w f a o out) Q := by
    rintro ⟨c, v, ups, hq, hc, ho⟩ hids he
    cases hqq : quiet op (xs.map (evO t)) ((ids.map h).headD .gone) with
    | none => rw [hqq] at hq; cases hq
    | some r =>
      rw [hqq] at hq
      cases hq
      obtain ⟨r', h1, h2⟩ := quiet_ok (w := w) hcomp ht hr.zr.held (fun i hi => by
        rw [hids, he, hi]
        exact hr.obj i) hqq hc
      exact left_value ho ⟨r', w, h1, res_same hr h2⟩
  by_cases hE : isEff op = false
  · have hs' := hs
    cases op <;> first | (cases hE; done) | exact quietCase hs.2 hs.1 rfl
  have nf : isEff op = true := by simpa using hE
  clear quietCase hE
  cases hop : o.op
  case store T x y =>
    simp only [compileOp, hop] at hcomp
    cases hz : sizeT P T with
    | none => rw [hz] at hcomp; cases hcomp
    | some n =>
      rw [hz] at hcomp
      simp only [Option.map_some, Option.some.injEq, Prod.mk.injEq] at hcomp
      obtain ⟨rfl, rfl⟩ := hcomp
      obtain ⟨rfl, c, v, ups, hq, hc, ho⟩ := hs
      obtain ⟨w', h1, h2⟩ := ok_store (P := P) hr hz (ev_rel ht x) (ev_rel ht y) (f := f) hq hc
      unfold Oper.wp
      have : (execOp a.eval o).run P w = .ok .skip w' := by simp [execOp, hop, h1]
      rw [this]
      exact ⟨v, ups, undef, ho, rfl, h2⟩
  case call cl =>
    have ex : execOp a.eval o = (do let d ← resolve a.eval cl o.type; invoke d.target d.args) := by simp only [execOp, hop]
    simp only [compileOp, hop] at hcomp
    unfold call? at hcomp
    split at hcomp
    · rename_i g hg
      simp only [Option.some.injEq, Prod.mk.injEq] at hcomp
      obtain ⟨rfl, rfl⟩ := hcomp
      have hx := evs_rel ht cl.args.toList
      rw [List.map_map] at hs
      refine left_call (ra := cl.args.map a.eval) hr hf (by simpa [Function.comp_def] using hx) hs ?_
      rw [ex]
      simp only [resolve, hg, Act.eval, Deferred.ofValue, Sem.run_bind, Sem.run_pure, Result.andThen_ok, invoke]
      congr 2
      simp
    · rename_i x hx0 hg
      simp only [Option.some.injEq, Prod.mk.injEq] at hcomp
      obtain ⟨rfl, rfl⟩ := hcomp
      simp only [Spec, List.map_cons] at hs
      split at hs
      · rename_i g first cap rest he
        rw [List.cons.injEq] at he
        obtain ⟨he, rfl⟩ := he
        have hxv := one_rel ht he
        simp only [VR] at hxv
        obtain ⟨fa, fc, hxv, hfa, hfc⟩ := hxv
        have hxs := evs_rel ht cl.args.toList
        refine left_call (ra := fa ++ cl.args.map a.eval ++ fc) hr hf ?_ hs ?_
        · simp only [Array.toList_append]
          refine VRs.append (VRs.append hfa ?_) hfc
          simpa [Function.comp_def] using hxs
        · rw [ex]
          simp only [resolve, hg, hxv, Deferred.ofValue, Sem.run_bind, Sem.run_pure, Result.andThen_ok, invoke]
      · exact hs.elim
    · cases hcomp
    · rename_i b hb
      have done : ∀ {s : Sem Value}, (∀ cs, builtin b cl.argTypes o.type cs (cl.args.map a.eval) = (do pure (.value (← s)))) → ∀ {v ups}, out v ups →
          (∃ r w', s.run P w = .ok r w' ∧ EffRes B h w f v ups r w') → o.wp P a w (Left B h w f a o out) Q := by
        intro s e v ups ho ⟨r, w', h1, h2⟩
        exact left_value ho ⟨r, w', by rw [ex]; exact callNext hb e h1, h2⟩
      have hat : ∀ {T : TypeId} {l : List TypeId}, cl.argTypes.toList = T :: l → cl.argTypes[0]? = some T := fun e => by
        rw [← Array.getElem?_toList, e]; rfl
      have hat1 : ∀ {T U : TypeId}, cl.argTypes.toList = [T, U] → cl.argTypes[1]? = some U := fun e => by
        rw [← Array.getElem?_toList, e]; rfl
      have har2 : ∀ {x y : Operand}, cl.args.toList = [x, y] → cl.args.map a.eval = #[a.eval x, a.eval y] := fun e => by
        apply Array.ext'; simp [e]
      split at hcomp
      case h_5 T U x y ets exs =>
        split at hcomp
        · rename_i r d hr0 hd
          obtain ⟨ks, bys, z⟩ := r
          obtain ⟨e, i, hu, hi, hz, hzl, hk1, hb1⟩ := elemT_spec hr0
          simp only at hk1 hb1
          subst hk1; subst hb1
          simp only at hz hzl
          have key : ∀ str, op = .append i.size i.bytes str → xs = [opd x, opd y] → (P.underlying U = some .string ∨ ∃ e', P.underlying U = some (.slice e')) → o.wp P a w (Left B h w f a o out) Q := by
            rintro str rfl rfl hU
            obtain ⟨rfl, c, v, ups, hq, hc, ho⟩ := hs
            exact done (s := Builtin.append_ cl.argTypes o.type #[a.eval x, a.eval y]) (fun cs => by rw [har2 exs]; rfl) ho
              (ok_append hr (hat ets) hu ⟨U, hat1 ets, hU⟩ hi hz hzl (ev_rel ht x) (ev_rel ht y) hf0 hq hc)
          split at hcomp
          · simp only [Option.some.injEq, Prod.mk.injEq] at hcomp; exact key _ hcomp.1.symm hcomp.2.symm (.inr ⟨_, hd⟩)
          · simp only [Option.some.injEq, Prod.mk.injEq] at hcomp; exact key _ hcomp.1.symm hcomp.2.symm (.inl hd)
          · simp only [Option.some.injEq, Prod.mk.injEq] at hcomp
            obtain ⟨rfl, rfl⟩ := hcomp
            obtain ⟨rfl, c, v, ups, hq, hc, ho⟩ := hs
            exact done (s := Builtin.append_ cl.argTypes o.type #[a.eval x, a.eval y]) (fun cs => by rw [har2 exs]; rfl) ho
              (ok_grow hr (hat ets) hu (hat1 ets) hd hi hz hzl (ev_rel ht x) (ev_rel ht y) hf0 hq hc)
          · cases hcomp
        · cases hcomp
      case h_6 T U x y ets exs =>
        split at hcomp
        · rename_i e hu
          cases hk : sizeT P e with
          | none => rw [hk] at hcomp; cases hcomp
          | some k =>
            rw [hk] at hcomp
            simp only [Option.map_some, Option.some.injEq, Prod.mk.injEq] at hcomp
            obtain ⟨rfl, rfl⟩ := hcomp
            obtain ⟨rfl, c, v, ups, hq, hc, ho⟩ := hs
            exact done (s := Builtin.copy_ cl.argTypes o.type #[a.eval x, a.eval y]) (fun cs => by rw [har2 exs]; rfl) ho
              (ok_copy hr (hat ets) hu hk (ev_rel ht x) (ev_rel ht y) hq hc)
        · cases hcomp
      case h_7 T x ets exs =>
        split at hcomp
        · rename_i r hr0
          obtain ⟨ks, bys, z⟩ := r
          obtain ⟨e, i, hu, hi, hz, hzl, hk1, hb1⟩ := elemT_spec hr0
          simp only [Option.some.injEq, Prod.mk.injEq] at hcomp
          obtain ⟨rfl, rfl⟩ := hcomp
          obtain ⟨rfl, c, v, ups, hq, hc, ho⟩ := hs
          simp only at hz hzl hk1
          exact done (s := Builtin.clear_ cl.argTypes o.type #[a.eval x]) (fun cs => by rw [show cl.args.map a.eval = #[a.eval x] by apply Array.ext'; simp [exs]]; rfl) ho
            (ok_clear hr (hat ets) hu hz (by rw [hzl, hk1]) (ev_rel ht x) hq hc)
        · cases hcomp
      case h_8 T U x y ets exs =>
        split at hcomp
        · rename_i kt e hu
          cases hk : keyL P kt with
          | none => rw [hk] at hcomp; cases hcomp
          | some l =>
            rw [hk] at hcomp
            simp only [Option.map_some, Option.some.injEq, Prod.mk.injEq] at hcomp
            obtain ⟨rfl, rfl⟩ := hcomp
            obtain ⟨rfl, c, v, ups, hq, hc, ho⟩ := hs
            exact done (s := Builtin.delete_ cl.argTypes o.type #[a.eval x, a.eval y]) (fun cs => by rw [har2 exs]; rfl) ho
              (ok_delete hr (hat ets) hu hk (ev_rel ht x) (ev_rel ht y) hq hc)
        · cases hcomp
      all_goals
        exfalso
        (repeat' split at hcomp) <;> first
          | (cases hcomp; done)
          | (simp only [Option.some.injEq, Prod.mk.injEq] at hcomp; obtain ⟨rfl, rfl⟩ := hcomp; simp [isEff] at nf; done)
          | (simp only [Option.some.injEq, Prod.mk.injEq] at hcomp; obtain ⟨rfl, rfl⟩ := hcomp; simp [Spec, effD, quiet] at hs; done)
          | (cases hz : keyL P _ <;> rw [hz] at hcomp <;> simp at hcomp <;> obtain ⟨rfl, rfl⟩ := hcomp <;> simp [Spec, effD, quiet] at hs; done)
  case makeMap T r =>
    exfalso
    cases r with
    | none =>
      simp only [compileOp, hop, Option.some.injEq, Prod.mk.injEq] at hcomp
      obtain ⟨rfl, rfl⟩ := hcomp
      cases nf
    | some n =>
      simp only [compileOp, hop] at hcomp
      split at hcomp
      · simp only [Option.some.injEq, Prod.mk.injEq] at hcomp
        obtain ⟨rfl, rfl⟩ := hcomp
        cases nf
      · cases hcomp
  case mapUpdate T m k x =>
    simp only [compileOp, hop] at hcomp
    split at hcomp
    · rename_i kt e hu
      cases hz : keyL P kt with
      | none => rw [hz] at hcomp; cases hcomp
      | some l =>
        rw [hz] at hcomp
        simp only [Option.map_some, Option.some.injEq, Prod.mk.injEq] at hcomp
        obtain ⟨rfl, rfl⟩ := hcomp
        obtain ⟨rfl, c, v, ups, hq, hc, ho⟩ := hs
        obtain ⟨w', h1, h2⟩ := ok_mapUpd (P := P) hr hu hz (ev_rel ht m) (ev_rel ht k) (ev_rel ht x) (f := f) hq hc
        unfold Oper.wp
        have : (execOp a.eval o).run P w = .ok .skip w' := by simp [execOp, hop, h1]
        rw [this]
        exact ⟨v, ups, undef, ho, rfl, h2⟩
    · cases hcomp
  case binOp bop T x y yT =>
    exfalso
    have : (∃ neg, (eqOp P neg T).map (fun op => (op, [opd x, opd y])) = some (op, xs)) ∨ some (AOp.bin bop, [opd x, opd y]) = some (op, xs) := by
      unfold compileOp at hcomp
      rw [hop] at hcomp
      cases bop <;> first | exact .inr hcomp | exact .inl ⟨_, hcomp⟩
    rcases this with ⟨neg, h1⟩ | h1
    · cases he : eqOp P neg T with
      | none => rw [he] at h1; cases h1
      | some q => rw [he] at h1; simp only [Option.map_some, Option.some.injEq, Prod.mk.injEq] at h1; obtain ⟨rfl, rfl⟩ := h1; rw [(eqOp_kind he).2] at nf; cases nf
    · simp only [Option.some.injEq, Prod.mk.injEq] at h1; obtain ⟨rfl, rfl⟩ := h1; cases nf
  all_goals
    exfalso
    simp only [compileOp, hop] at hcomp
    (repeat' split at hcomp) <;> first
      | (cases hcomp; done)
      | (simp only [Option.some.injEq, Prod.mk.injEq] at hcomp; obtain ⟨rfl, rfl⟩ := hcomp; simp [isEff] at nf; done)
      | (cases hz : sizeT P _ <;> rw [hz] at hcomp <;> simp at hcomp <;> obtain ⟨rfl, rfl⟩ := hcomp <;> simp [isEff] at nf; done)
      | (cases hz : zeroT P _ <;> rw [hz] at hcomp <;> simp at hcomp <;> obtain ⟨rfl, rfl⟩ := hcomp <;> simp [isEff] at nf; done)
      | (cases hz : lay P _ <;> rw [hz] at hcomp <;> simp at hcomp <;> obtain ⟨rfl, rfl⟩ := hcomp <;> simp [isEff] at nf; done)
      | (cases hz : keyL P _ <;> rw [hz] at hcomp <;> simp at hcomp <;> obtain ⟨rfl, rfl⟩ := hcomp <;> simp [Spec, effD, quiet] at hs; done)
      | (cases hz : partsOf _ _ <;> rw [hz] at hcomp <;> simp at hcomp <;> obtain ⟨rfl, rfl⟩ := hcomp <;> simp [isEff] at nf; done)
end
end Go.Am
/- Own theory, no program in sight: regions of code, and code. -/
namespace Go.Am
open Go Go.RowKit
set_option linter.unusedVariables false
set_option linter.unusedSimpArgs false

/-- A map's iterator: made, stepped on, looked at. -/
def isIt : AOp → Bool
  | .itR => true
  | .itN => true
  | .itE => true
  | _ => false
def compD (P : Program) (o : Oper) : AOp × List Opd :=
  match compileOp P o with
  | some x => match isIt x.1 with
    | true => (.other, [])
    | false => x
  | none => (.other, [])
def compOp (P : Program) (o : Oper) : AOp × List Opd :=
  match o.op with
  | .range t x => match P.underlying t with
    | some (.map _ _) => (.itR, [opd x])
    | _ => (.other, [])
  | .next x b => match b with
    | true => (.other, [])
    | false => (.itN, [opd x])
  | .entry x => (.itE, [opd x])
  | _ => compD P o
def offB : AOp → Bool
  | .itR => true
  | .itN => true
  | .itE => true
  | .other => true
  | _ => false
theorem compD_or (P : Program) (o : Oper) : compileOp P o = some (compD P o) ∨ offB (compD P o).1 = true := by
  unfold compD
  cases h : compileOp P o with
  | none => exact .inr rfl
  | some x =>
    simp only
    cases h2 : isIt x.1 with
    | true => exact .inr rfl
    | false => exact .inl rfl
theorem compOp_or (P : Program) (o : Oper) : compileOp P o = some (compOp P o) ∨ offB (compOp P o).1 = true := by
  unfold compOp
  split
  · split <;> exact .inr rfl
  · split <;> exact .inr rfl
  · exact .inr rfl
  · exact compD_or P o
def compO (P : Program) (N : Nat) (ops : Array Oper) (o : Oper) : Option AOper :=
  if (match o.dst with | some d => Nat.blt d N | none => true) then some ⟨o.dst, (compOp P o).1, (compOp P o).2, o.guard.map fun g => ((ops[g.1]?).bind (·.dst), g.2)⟩ else none
def compL (P : Program) (N : Nat) (ops : Array Oper) : List Oper → Option (List AOper)
  | [] => some []
  | o :: l => match compO P N ops o, compL P N ops l with
    | some x, some r => some (x :: r)
    | _, _ => none
def compOps (P : Program) (N : Nat) (ops : Array Oper) : Option (List AOper) := compL P N ops ops.toList

section
variable {P : Program} {N : Nat}

theorem compL_get {ops : Array Oper} : ∀ {l : List Oper} {r : List AOper}, compL P N ops l = some r → l.length = r.length ∧ ∀ (i : Nat) (o : Oper), l[i]? = some o → ∃ x, r[i]? = some x ∧ compO P N ops o = some x
  | [], r, h => by simp only [compL, Option.some.injEq] at h; subst h; exact ⟨rfl, fun i o e => by simp at e⟩
  | o :: l, r, h => by
    simp only [compL] at h
    split at h
    · rename_i x r' h1 h2
      cases h
      obtain ⟨e1, e2⟩ := compL_get h2
      refine ⟨by simp [e1], fun i o' e => ?_⟩
      cases i with
      | zero => simp at e; subst e; exact ⟨x, rfl, h1⟩
      | succ i => simpa using e2 i o' (by simpa using e)
    · cases h

structure Inv (md : Md) (D : Nat → Prop) (C : Ctx) (N : Nat) (B : BM) (s : S) (a : Act) (w : World) : Prop where
  sim : Sim C N B s a w
  ok : md.ok s.h
  fr : ∀ k, md.base ≤ k → ¬ D ((k - md.base) / 16) → B k = none
  base : C.n ≤ md.base
  rl : ∀ k, md.base ≤ k → (findH md.R k).live = false

theorem wants_ok {ops : Array Oper} {o : Oper} {B : BM} {t : Nat → AV} {a : Act} (ht : ∀ j, VR B (t j) (a.tmps.getD j undef)) {b : Bool} (h : wants (o.guard.map fun g => ((ops[g.1]?).bind (·.dst), g.2)) t = some b) :
    Region.wanted o (yielded ops a.tmps) = b := by
  unfold Region.wanted
  cases hg : o.guard with
  | none => rw [hg] at h; simp [wants] at h; simp [h]
  | some g =>
    obtain ⟨j, want⟩ := g
    rw [hg] at h
    simp only [Option.map_some] at h
    unfold yielded
    cases hd : (ops[j]?).bind (·.dst) with
    | none => rw [hd] at h; simp [wants] at h
    | some d =>
      rw [hd] at h
      simp only [wants] at h
      have hj := ht d
      have hcell : a.tmps.getD d undef = (a.tmps[d]?).getD undef := by simp [Array.getD_eq_getD_getElem?]
      rw [hcell] at hj
      simp only [hd, Option.bind_some]
      split at h
      · rename_i x e
        rw [e, vr_val] at hj
        simp only [Option.some.injEq] at h
        subst h
        cases hc : a.tmps[d]? with
        | none => rw [hc] at hj; simp [undef] at hj
        | some v => rw [hc] at hj; simp at hj; subst hj; cases x <;> cases want <;> simp only [hc] <;> rfl
      · rename_i x e
        rw [e, vr_val] at hj
        simp only [Option.some.injEq] at h
        subst h
        cases hc : a.tmps[d]? with
        | none => simp only [hc]; rfl
        | some v => rw [hc] at hj; simp at hj; subst hj; simp only [hc]; rfl
      · cases h

theorem Mine.up {C : Ctx} {B : BM} {s : S} {a : Act} {w : World} (hs : Sim C N B s a w) {b : Nat} (h : Mine B s.h w b) : C.mine b := by
  rcases h with h | ⟨i, n, h1, h2⟩
  · exact C.new b (Nat.le_trans hs.kept.size h)
  · exact hs.mine i b n h1 h2

theorem inv_step {md : Md} {D : Nat → Prop} {C : Ctx} {B : BM} {s : S} {a : Act} {w : World} {i : Nat} (hi : Inv md D C N B s a w) (hD : ¬ D i) {dst : Option Nat} (hd : ∀ d, dst = some d → d < N)
    {v : AV} {ups : List (Nat × AObj)} {r : Value} {w' : World} (hres : EffRes B s.h w (md.id i) v ups r w') (hok : md.ok (updH s.h ups)) :
    ∃ B', Inv md (fun j => D j ∨ j = i) C N B' ⟨put s.t dst v, updH s.h ups⟩ (a.put dst r) w' := by
  obtain ⟨B', h1, h2, h3, h4, h5, h5z, h6⟩ := hres
  have hs := hi.sim
  refine ⟨B', ⟨by cases dst <;> simp [Act.put, hs.size], by cases dst <;> exact hs.dfr, put_rel hs.size hd (fun j => (hs.t j).mono h1) h2, h3, fun k b n hk hb => Mine.up hs (h5 k b n hk hb),
    hs.kept.trans (h4.mono' fun b hb => Mine.up hs hb) (fun _ _ h => h), fun k hk => ?_, fun b a hb => h1.z b a (hs.ancz b a hb), fun b a hb => ?_⟩, hok, fun k hk hn => ?_, hi.base, hi.rl⟩
  · rw [← hs.anc k hk]
    cases hb : B k with
    | some p => exact h1 k p hb
    | none =>
      cases hb' : B' k with
      | none => rfl
      | some p =>
        exfalso
        rcases h6 k (by rw [hb']; simp) with h | ⟨h, _⟩
        · exact h hb
        · have := hi.base; unfold Md.id at h; omega
  · rcases h5z b a hb with h | h
    · exact hs.zmine b a h
    · exact .inr (Mine.up hs h)
  · have hn1 : ¬ D ((k - md.base) / 16) := fun h => hn (.inl h)
    have hn2 : (k - md.base) / 16 ≠ i := fun h => hn (.inr h)
    have := hi.fr k hk hn1
    cases hb' : B' k with
    | none => rfl
    | some p =>
      exfalso
      rcases h6 k (by rw [hb']; simp) with h | ⟨h, h'⟩
      · exact h this
      · unfold Md.id at h h'
        apply hn2
        omega

theorem step_ok {md : Md} {D : Nat → Prop} {C : Ctx} {B : BM} {s : S} {a : Act} {w : World} {ops : Array Oper} {i : Nat} {o : Oper} {ao : AOper} {K : S → Prop} {Q : Exit → Act → World → Prop}
    (ho : ops[i]? = some o) (hc : compO P N ops o = some ao) (hi : Inv md D C N B s a w) (hD : ¬ D i) (h : Step P md i ao K s) :
    wpOp P ops Q i (fun a' w' => ∃ B' s', K s' ∧ Inv md (fun j => D j ∨ j = i) C N B' s' a' w') a w := by
  have hs := hi.sim
  unfold compO at hc
  have hco : compileOp P o = some (compOp P o) ∨ offB (compOp P o).1 = true := compOp_or P o
  generalize compOp P o = ox at hc hco
  obtain ⟨op, xs⟩ := ox
  · by_cases hdst : (match o.dst with | some d => Nat.blt d N | none => true) = true
    · rw [if_pos hdst] at hc
      cases hc
      have hd : ∀ d, o.dst = some d → d < N := fun d e => by rw [e] at hdst; simpa using hdst
      have hfr : ∀ k, md.id i ≤ k → k < md.id i + 16 → B k = none := fun k h1 h2 => by
        unfold Md.id at h1 h2
        refine hi.fr k (by omega) ?_
        rw [show (k - md.base) / 16 = i by omega]
        exact hD
      unfold wpOp
      simp only [ho]
      unfold Step at h
      simp only at h
      split at h
      · exact h.elim
      · rename_i hw
        rw [wants_ok hs.t hw]
        simp only [Bool.false_eq_true, if_false]
        obtain ⟨B', hinv⟩ := inv_step hi hD hd (v := .val undef) (ups := []) (r := undef) (res_same hs.hr (by rw [vr_val])) hi.ok
        exact ⟨B', _, h, hinv⟩
      · rename_i hw
        rw [wants_ok hs.t hw]
        simp only [if_true]
        refine .inl ?_
        have hcomp : compileOp P o = some (op, xs) := by
          rcases hco with h' | h'
          · exact h'
          · exfalso
            simp only at h'
            cases op <;> first | (simp [offB] at h'; done) | skip
            all_goals
              split at h
              · obtain ⟨ids, out, hspec, _⟩ := h
                simp [Spec, effD, quiet] at hspec
              · obtain ⟨c, v, ups, hq, _⟩ := h
                simp [simple, isFresh, quiet] at hq
        split at h
        · -- an effect
          obtain ⟨ids, out, hspec, hu, hne, hk⟩ := h
          refine Oper.wp_mono (fun a' w' hleft => ?_) (eff_wp (w := w) (Q := Q) hs.hr hfr hcomp hs.t hspec)
          obtain ⟨v, ups, r, hout, rfl, hres⟩ := hleft
          obtain ⟨_, hok, hK⟩ := hk v ups hout
          obtain ⟨B', hinv⟩ := inv_step hi hD hd hres hok
          exact ⟨B', _, hK, hinv⟩
        · obtain ⟨c, v, ups, hq, hcc, hK⟩ := h
          unfold simple at hq
          split at hq
          · rename_i hfresh
            cases hfx : fresh op (xs.map (evO s.t)) (md.id i) with
            | none => rw [hfx] at hq; cases hq
            | some q =>
              rw [hfx] at hq
              cases hq
              obtain ⟨r, w', h1, h2⟩ := fresh_ok hs.hr hcomp hs.t (hfr _ (Nat.le_refl _) (by omega)) hfx hcc
              unfold Oper.wp
              rw [h1]
              have hok : md.ok (updH s.h [(md.id i, q.2.2)]) := by
                intro hdr k hl
                have e := hi.ok hdr k hl
                have : k ≠ md.id i := fun e' => by
                  rw [hi.rl k (by rw [e']; unfold Md.id; omega)] at hl
                  cases hl
                simp only [updH]
                rw [upd_ne _ _ this]
                exact e
              obtain ⟨B', hinv⟩ := inv_step hi hD hd h2 hok
              exact ⟨B', _, hK, hinv⟩
          · generalize hob : lookO (md.lookI i s.h) (rid op (xs.map (evO s.t))) = ob at hq
            cases hqx : quiet op (xs.map (evO s.t)) ob with
            | none => rw [hqx] at hq; cases hq
            | some q =>
              rw [hqx] at hq
              cases hq
              obtain ⟨r, h1, h2⟩ := quiet_ok (w := w) hcomp hs.t (ob := ob) hs.hr.zr.held (fun j hj => by
                rw [hj] at hob
                subst hob
                unfold lookO Md.lookI
                simp only
                cases hlo : lOf md.L i with
                | some u =>
                  simp only [one1]
                  cases Nat.beq u j with
                  | true => exact hs.hr.obj j
                  | false => trivial
                | none =>
                simp only [Md.look]
                cases hdr : md.draw with
                | false => exact hs.hr.obj j
                | true =>
                  simp only [cond_true]
                  cases hl : (findH md.R j).live with
                  | true => rw [← hi.ok hdr j hl]; exact hs.hr.obj j
                  | false => cases hg : findH md.R j <;> rw [hg] at hl <;> first | trivial | cases hl) hqx hcc
              unfold Oper.wp
              rw [h1]
              obtain ⟨B', hinv⟩ := inv_step hi hD hd (res_same hs.hr h2) hi.ok
              exact ⟨B', _, hK, hinv⟩
    · rw [if_neg hdst] at hc; cases hc

theorem Inv.mono {md : Md} {D D' : Nat → Prop} {C : Ctx} {B : BM} {s : S} {a : Act} {w : World} (h : Inv md D C N B s a w) (hd : ∀ j, D j → D' j) : Inv md D' C N B s a w :=
  ⟨h.sim, h.ok, fun k hk hn => h.fr k hk fun e => hn (hd _ e), h.base, h.rl⟩

theorem wpOps_of {md : Md} {C : Ctx} {ops : Array Oper} {aops : List AOper} {K : S → Prop} {Q : Exit → Act → World → Prop} (hc : compOps P N ops = some aops)
    (hQ : ∀ B s a w, K s → Inv md (fun j => j < ops.size) C N B s a w → Q .normal a w) :
    ∀ (m k : Nat) (B : BM) (s : S) (a : Act) (w : World), k + m = ops.size → runP P md (numberA k (aops.drop k)) K s → Inv md (fun j => j < k) C N B s a w → wpOps P ops Q (List.range' k m) a w := by
  obtain ⟨hlen, hget⟩ := compL_get hc
  intro m
  induction m with
  | zero =>
    intro k B s a w hk h hi
    have : aops.drop k = [] := List.drop_of_length_le (by rw [← hlen]; simp; omega)
    rw [this] at h
    exact hQ B s a w h (hi.mono fun j hj => by omega)
  | succ m ih =>
    intro k B s a w hk h hi
    have hks : k < ops.size := by omega
    obtain ⟨ao, h1, h2⟩ := hget k ops[k] (by simp [hks])
    have hkl : k < aops.length := by rw [← hlen]; simpa using hks
    rw [List.drop_eq_getElem_cons hkl] at h
    have hao : aops[k] = ao := by rw [List.getElem?_eq_getElem hkl] at h1; cases h1; rfl
    rw [hao] at h
    simp only [numberA, runP] at h
    rw [List.range'_succ, wpOps_cons]
    refine wpOp_mono (fun a' w' ⟨B', s', hK, hinv⟩ => ih (k + 1) B' s' a' w' (by omega) hK (hinv.mono fun j hj => ?_)) (step_ok (show ops[k]? = some ops[k] by simp [hks]) h2 hi (by omega) h)
    rcases hj with hj | hj <;> omega

theorem Inv.tail {md : Md} {D : Nat → Prop} {C : Ctx} {B : BM} {s : S} {a : Act} {w : World} (h : Inv md D C N B s a w) : Inv md.tail D C N B s a w :=
  ⟨h.sim, fun hd => (by cases hd), h.fr, h.base, fun _ _ => rfl⟩
theorem Inv.back {md : Md} (hR : ∀ k, md.base ≤ k → (findH md.R k).live = false) {D : Nat → Prop} {C : Ctx} {B : BM} {s : S} {a : Act} {w : World} (h : Inv md.tail D C N B s a w) (hok : md.ok s.h) : Inv md D C N B s a w :=
  ⟨h.sim, hok, h.fr, h.base, hR⟩
theorem wpAny_of {md : Md} (hR : ∀ k, md.base ≤ k → (findH md.R k).live = false) {late : Nat} {C : Ctx} {mo : Region.Mode} {ops : Array Oper} {aops : List AOper} {K : S → Prop} {Q : Exit → Act → World → Prop} (hc : compOps P N ops = some aops)
    (hQ : ∀ B s a w, K s → Inv md.tail (fun j => j < ops.size) C N B s a w → Q .normal a w) :
    ∀ (fuel : Nat) (listed : Array Bool) (B : BM) (s : S) (a : Act) (w : World), listed.size = ops.size → (∀ j, late ≤ j → listed.getD j false = true → ∀ i, i < j → listed.getD i false = true) → anyP P mo ops aops md late K fuel listed s →
      Inv md.tail (fun j => listed.getD j false = true) C N B s a w → ((∀ j, late ≤ j → listed.getD j false = false) → md.ok s.h) → wpAny P mo ops Q fuel listed a w := by
  obtain ⟨hlen, hget⟩ := compL_get hc
  have top : ∀ {listed : Array Bool} {B s a w}, listed.size = ops.size → Inv md.tail (fun j => listed.getD j false = true) C N B s a w → Inv md.tail (fun j => j < ops.size) C N B s a w := fun {listed B s a w} hsz hi => hi.mono fun j hj => by
    rcases Nat.lt_or_ge j listed.size with h | h
    · omega
    · simp [Array.getElem?_eq_none h] at hj
  intro fuel
  induction fuel with
  | zero => intro listed B s a w hsz hch h hi hok; exact ⟨h.1, hQ B s a w h.2 (top hsz hi)⟩
  | succ fuel ih =>
    intro listed B s a w hsz hch h hi hok
    refine ⟨fun hr => hQ B s a w (h.1 hr) (top hsz hi), fun i hir => ?_⟩
    obtain ⟨hi0, o, ho, _⟩ := mem_ready.1 hir
    obtain ⟨hall, ao, h1, h2⟩ := h.2 i hir
    obtain ⟨ao', h3, h4⟩ := hget i o (by simpa using ho)
    rw [h1] at h3
    cases h3
    have his : i < listed.size := by rw [hsz]; exact (Array.getElem?_eq_some_iff.1 ho).1
    have hn : ¬ (listed.getD i false = true) := by simp [his] at hi0 ⊢; exact hi0
    have hch' : ∀ j, late ≤ j → (listed.setIfInBounds i true).getD j false = true → ∀ k, k < j → (listed.setIfInBounds i true).getD k false = true := by
      intro j hj hl k hk
      by_cases e : i = j
      · subst e; exact getD_set_true (hall hj k hk)
      · rw [getD_set_ne false e] at hl
        exact getD_set_true (hch j hj hl k hk)
    have himp : ∀ j, (listed.getD j false = true ∨ j = i) → (listed.setIfInBounds i true).getD j false = true := by
      intro j hj
      rcases hj with hj | rfl
      · exact getD_set_true hj
      · simp [his]
    rcases Nat.lt_or_ge i late with hil | hil
    · rw [Md.at_lt hil] at h2
      have hno : ∀ j, late ≤ j → listed.getD j false = false := by
        intro j hj
        cases e : listed.getD j false with
        | false => rfl
        | true => exact absurd (hch j hj e i (by omega)) hn
      refine wpOp_mono (fun a' w' ⟨B', s', hK, hinv⟩ => ih (listed.setIfInBounds i true) B' s' a' w' (by simpa using hsz) hch' hK (hinv.tail.mono himp) (fun _ => hinv.ok)) (step_ok ho h4 (hi.back hR (hok hno)) hn h2)
    · rw [Md.at_ge hil] at h2
      refine wpOp_mono (fun a' w' ⟨B', s', hK, hinv⟩ => ih (listed.setIfInBounds i true) B' s' a' w' (by simpa using hsz) hch' hK (hinv.mono himp) (fun hno => ?_)) (step_ok ho h4 hi hn h2)
      have h9 := hno i hil
      rw [himp i (.inr rfl)] at h9
      cases h9

/-! ### Code -/
structure St where
  s : S
  n : Nat
structure Sms (C : Ctx) (N : Nat) (B : BM) (x : St) (a : Act) (w : World) : Prop where
  sim : Sim C N B x.s a w
  fr : ∀ k, x.n ≤ k → B k = none
  base : C.n ≤ x.n
/-- Code, run in an abstract state, comes to an end that is Q. -/
structure NN where
  n : Nat
  ok : Ctx → Prop
def NN.fits (nn : NN) (C : Ctx) : Prop := C.n = nn.n ∧ nn.ok C
def NN.plain (n : Nat) : NN := ⟨n, fun _ => True⟩
theorem NN.plain_n (n : Nat) : (NN.plain n).n = n := rfl
def AWp (P : Program) (N : Nat) (nn : NN) (c : Code) (Q : Exit → St → Prop) (x : St) : Prop :=
  ∀ (C : Ctx) (B : BM) (a : Act) (w : World), nn.fits C → Sms C N B x a w → c.wp P (fun e a' w' => ∃ B' x', Q e x' ∧ Sms C N B' x' a' w') a w

variable {nn : NN}
theorem AWp.mono {c : Code} {Q Q' : Exit → St → Prop} {x : St} (h : AWp P N nn c Q x) (hq : ∀ e x, Q e x → Q' e x) : AWp P N nn c Q' x :=
  fun C B a w hn hs => wp_mono (h C B a w hn hs) fun _ _ _ ⟨B', x', h1, h2⟩ => ⟨B', x', hq _ _ h1, h2⟩
theorem AWp.region {id : Nat} {ops : Array Oper} {aops : List AOper} {Q : Exit → St → Prop} {x : St} (hc : compOps P N ops = some aops)
    (h : runP P ⟨false, x.n, [], [], [], []⟩ (numberA 0 aops) (fun s => Q .normal ⟨s, x.n + 16 * aops.length⟩) x.s) : AWp P N nn (.region id ops false) Q x := by
  intro C B a w hn hs
  obtain ⟨hlen, _⟩ := compL_get hc
  refine wp_region ?_
  rw [List.range_eq_range']
  refine wpOps_of (md := ⟨false, x.n, [], [], [], []⟩) (C := C) hc (K := fun s => Q .normal ⟨s, x.n + 16 * aops.length⟩) (fun B s a w hK hi => ⟨B, _, hK, hi.sim, fun k hk => hi.fr k (by show x.n ≤ k; simp only at hk; omega) ?_, by have := hi.base; simp only at this ⊢; omega⟩) ops.size 0 B x.s a w (by omega) (by simpa using h)
    ⟨hs.sim, fun hd => (by cases hd), fun k hk _ => hs.fr k hk, hs.base, fun _ _ => rfl⟩
  simp only [Array.length_toList] at hlen
  simp only at hk ⊢
  omega
theorem runP_mono {md : Md} {K K' : S → Prop} (hk : ∀ s, K s → K' s) : ∀ (l : List (Nat × AOper)) (s : S), runP P md l K s → runP P md l K' s
  | [], s, h => hk s h
  | (i, o) :: l, s, h => Step.mono (fun s' h' => runP_mono hk l s' h') h
theorem numberA_app : ∀ (l m : List AOper) (k : Nat), numberA k (l ++ m) = numberA k l ++ numberA (k + l.length) m
  | [], m, k => by simp [numberA]
  | o :: l, m, k => by
    simp only [List.cons_append, numberA, numberA_app l m (k + 1), List.length_cons]
    rw [show k + 1 + l.length = k + (l.length + 1) by omega]
theorem AWp.draw {id : Nat} {ops : Array Oper} {aops tl : List AOper} {Q : Exit → St → Prop} {x : St} {L : List (Nat × Nat)} (hm : P.follows .mixedOrders = true) (hc : compOps P N ops = some (aops ++ tl)) (R : List (Nat × AObj)) (E : List Nat) (F : List (Nat × Nat))
    (hB : orderB ops (aops ++ tl) aops.length E F = true) (hR0 : ∀ j, (findH R j).live = true → x.s.h j = findH R j) (hR : ∀ k, x.n ≤ k → (findH R k).live = false)
    (hLo : LOk ⟨true, x.n, R, E, F, L⟩ (numberA 0 (aops ++ tl)))
    (h : runP P ⟨true, x.n, R, E, F, L⟩ (numberA 0 aops) (runP P ⟨false, x.n, [], [], [], []⟩ (numberA aops.length tl) (fun s => Q .normal ⟨s, x.n + 16 * (aops.length + tl.length)⟩)) x.s) : AWp P N nn (.region id ops true) Q x := by
  intro C B a w hn hs
  obtain ⟨hlen, _⟩ := compL_get hc
  have hs' : Sms C N B x a { w with drawn := w.drawn + 1 } := by
    obtain ⟨⟨h1, h2, h3, h4, h5, h6, h7, hza, hzm⟩, h8, h9⟩ := hs
    exact ⟨⟨h1, h2, h3, h4.heap rfl, h5, ⟨h6.os, h6.tape, h6.output, h6.size, h6.block⟩, h7, hza, hzm⟩, h8, h9⟩
  have hrun : runX P ⟨true, x.n, R, E, F, L⟩ aops.length (numberA 0 (aops ++ tl)) (fun s => Q .normal ⟨s, x.n + 16 * (aops.length + tl.length)⟩) x.s := by
    rw [numberA_app, Nat.zero_add]
    refine runX_lt _ _ (fun p hp => ?_) (runP_mono (fun s hk => runX_ge _ s (fun p hp => (numberA_get _ _ p hp).1) hk) _ _ h)
    have h2 := (numberA_get _ _ p hp).2
    have := (List.getElem?_eq_some_iff.1 h2).1
    omega
  refine wp_region_any hm ?_
  refine wpAny_of (md := ⟨true, x.n, R, E, F, L⟩) hR (late := aops.length) (C := C) hc (K := fun s => Q .normal ⟨s, x.n + 16 * (aops.length + tl.length)⟩) (fun B s a w hK hi => ⟨B, _, hK, hi.sim, fun k hk => hi.fr k (by show x.n ≤ k; simp only at hk; omega) ?_, by have := hi.base; simp only [Md.tail] at this ⊢; omega⟩) ops.size _ B x.s a _ (by simp)
    (fun j _ hl => ?_) (any_of_text (md := ⟨true, x.n, R, E, F, L⟩) rfl hR hB hLo hrun)
    ⟨hs'.sim, fun hd => (by cases hd), fun k hk _ => hs'.fr k hk, hs'.base, fun _ _ => rfl⟩ (fun _ _ j hl => hR0 j hl)
  · exfalso
    rcases Nat.lt_or_ge j ops.size with h' | h'
    · simp [h'] at hl
    · simp [h'] at hl
  · simp only [Array.length_toList, List.length_append] at hlen
    simp only [Md.tail] at hk ⊢
    omega
end
end Go.Am
