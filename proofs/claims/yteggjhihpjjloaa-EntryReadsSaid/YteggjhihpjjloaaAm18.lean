/- Own theory, no program in sight: states as lists; running. -/
import Derived.Test.YteggjhihpjjloaaAm17
namespace Go.Am
set_option linter.unusedSimpArgs false
set_option linter.unusedVariables false
set_option maxHeartbeats 4000000
open Go Go.RowKit
set_option linter.unusedVariables false
set_option linter.unusedSimpArgs false

/-- Slots: those of a list, the others by a base. -/
def fT : List (Nat × AV) → (Nat → AV) → Nat → AV
  | [], b, n => b n
  | (k, v) :: l, b, n => match Nat.beq k n with | true => v | false => fT l b n
def fH : List (Nat × AObj) → (Nat → AObj) → Nat → AObj
  | [], b, n => b n
  | (k, v) :: l, b, n => match Nat.beq k n with | true => v | false => fH l b n
def args0 (l : List AV) (i : Nat) : AV := l.getD i (.val undef)
def none0 (_ : Nat) : AV := .any
def gone0 (_ : Nat) : AObj := .gone
def mk (T : List (Nat × AV)) (b : Nat → AV) (H : List (Nat × AObj)) (hb : Nat → AObj) (n : Nat) : St := ⟨⟨fT T b, fH H hb⟩, n⟩
def dput (d : Option Nat) (v : AV) (T : List (Nat × AV)) : List (Nat × AV) :=
  match d with
  | some d => (d, v) :: T
  | none => T
theorem put_fT (T : List (Nat × AV)) (b : Nat → AV) (d : Option Nat) (v : AV) : put (fT T b) d v = fT (dput d v T) b := by
  cases d with
  | none => rfl
  | some d =>
    funext j
    simp only [put, dput, fT]
    cases h : Nat.beq d j with
    | true => have := Nat.eq_of_beq_eq_true h; simp [this]
    | false => have := Nat.ne_of_beq_eq_false h; simp [Ne.symm this]
theorem updH_fH (H : List (Nat × AObj)) (hb : Nat → AObj) : ∀ ups : List (Nat × AObj), updH (fH H hb) ups = fH (ups ++ H) hb
  | [] => rfl
  | p :: l => by
    funext j
    simp only [updH, updH_fH H hb l, upd, List.cons_append, fH]
    cases h : Nat.beq p.1 j with
    | true => have := Nat.eq_of_beq_eq_true h; simp [this]
    | false => have := Nat.ne_of_beq_eq_false h; simp [Ne.symm this]

def okU (R : List (Nat × AObj)) : List (Nat × AObj) → Prop
  | [] => True
  | p :: l => (match findH R p.1 with | .gone => True | o => o = p.2) ∧ okU R l
def notIn (u : Nat) : List Nat → Prop
  | [] => True
  | i :: l => Nat.beq u i = false ∧ notIn u l
def noneIn : List Nat → List Nat → Prop
  | [], _ => True
  | u :: us, l => notIn u l ∧ noneIn us l
theorem notIn_iff {u : Nat} : ∀ {l : List Nat}, notIn u l → u ∉ l
  | [], _ => by simp
  | i :: l, h => by
    simp only [notIn] at h
    simp only [List.mem_cons, not_or]
    exact ⟨Nat.ne_of_beq_eq_false h.1, notIn_iff h.2⟩
theorem noneIn_iff : ∀ {us l : List Nat}, noneIn us l → ∀ u ∈ us, u ∉ l
  | [], _, _, u, hu => by simp at hu
  | u :: us, l, h, v, hv => by
    simp only [noneIn] at h
    rcases List.mem_cons.1 hv with rfl | hv
    · exact notIn_iff h.1
    · exact noneIn_iff h.2 v hv
theorem okU_ok {md : Md} {h : Nat → AObj} (hk : md.ok h) : ∀ {ups : List (Nat × AObj)}, okU md.R ups → md.ok (updH h ups)
  | [], _ => hk
  | p :: l, ho => by
    simp only [okU] at ho
    have ih := okU_ok hk ho.2
    intro hd j hl
    simp only [updH]
    by_cases e : j = p.1
    · subst e
      rw [upd_same]
      have := ho.1
      cases hf : findH md.R p.1 with
      | gone => rw [hf] at hl; cases hl
      | cells ro cs => rw [hf] at this; exact this.symm
      | map ro es => rw [hf] at this; exact this.symm
    · rw [upd_ne _ _ e]; exact ih hd j hl

/-- One step, if the operation is no call. -/
def stepL (md : Md) (b : Nat → AV) (hb : Nat → AObj) (i : Nat) (o : AOper) (T : List (Nat × AV)) (H : List (Nat × AObj)) : Option (Prop × AV × List (Nat × AObj)) :=
  match isEff o.op || hasB md.E i with
  | false => simple md i o.op (o.xs.map (evO (fT T b))) (fH H hb)
  | true => match effD o.op (md.id i) (o.xs.map (evO (fT T b))) ((eids o.op (o.xs.map (evO (fT T b)))).map (fH H hb)) with
    | none => none
    | some r => match md.draw with
      | false => some r
      | true => some (r.1 ∧ okU md.R r.2.2 ∧ noneIn (md.U i) (eids o.op (o.xs.map (evO (fT T b)))) ∧ noneIn (md.U i) (r.2.2.map (·.1)), r.2)

inductive Stop where
  | done
  | call (i : Nat) (dst : Option Nat) (g : FuncId) (xs : List AV) (rest : List (Nat × AOper))
  | at_ (l : List (Nat × AOper))

def stopAt (b : Nat → AV) (T : List (Nat × AV)) (i : Nat) (o : AOper) (l : List (Nat × AOper)) : Stop :=
  match o.op with
  | .call g => .call i o.dst g (o.xs.map (evO (fT T b))) l
  | .callv => match o.xs.map (evO (fT T b)) with
    | .fn g first cap :: args => .call i o.dst g (first ++ args ++ cap) l
    | _ => .at_ ((i, o) :: l)
  | _ => .at_ ((i, o) :: l)
def runL (md : Md) (b : Nat → AV) (hb : Nat → AObj) : List (Nat × AOper) → List (Nat × AV) → List (Nat × AObj) → Prop → Prop × List (Nat × AV) × List (Nat × AObj) × Stop
  | [], T, H, C => (C, T, H, .done)
  | (i, o) :: l, T, H, C => match wants o.guard (fT T b) with
    | none => (C, T, H, .at_ ((i, o) :: l))
    | some false => runL md b hb l (dput o.dst (.val undef) T) H C
    | some true => match stepL md b hb i o T H with
      | some r => runL md b hb l (dput o.dst r.2.1 T) (r.2.2 ++ H) (C ∧ r.1)
      | none => (C, T, H, stopAt b T i o l)

abbrev RunRes := Prop × List (Nat × AV) × List (Nat × AObj) × Stop
def contL (md : Md) (b : Nat → AV) (hb : Nat → AObj) (r : Option (Prop × AV × List (Nat × AObj))) (i : Nat) (o : AOper) (l : List (Nat × AOper)) (T : List (Nat × AV)) (H : List (Nat × AObj)) (C : Prop) : RunRes :=
  match r with
  | some r => runL md b hb l (dput o.dst r.2.1 T) (r.2.2 ++ H) (C ∧ r.1)
  | none => (C, T, H, stopAt b T i o l)
def gateL (md : Md) (b : Nat → AV) (hb : Nat → AObj) (g : Option Bool) (i : Nat) (o : AOper) (l : List (Nat × AOper)) (T : List (Nat × AV)) (H : List (Nat × AObj)) (C : Prop) : RunRes :=
  match g with
  | none => (C, T, H, .at_ ((i, o) :: l))
  | some false => runL md b hb l (dput o.dst (.val undef) T) H C
  | some true => contL md b hb (stepL md b hb i o T H) i o l T H C
theorem runL_nil (md : Md) (b : Nat → AV) (hb : Nat → AObj) (T : List (Nat × AV)) (H : List (Nat × AObj)) (C : Prop) : runL md b hb [] T H C = (C, T, H, .done) := rfl
theorem runL_cons (md : Md) (b : Nat → AV) (hb : Nat → AObj) (i : Nat) (o : AOper) (l : List (Nat × AOper)) (T : List (Nat × AV)) (H : List (Nat × AObj)) (C : Prop) : runL md b hb ((i, o) :: l) T H C = gateL md b hb (wants o.guard (fT T b)) i o l T H C := by
  simp only [runL, gateL, contL]
theorem gateL_none (md : Md) (b : Nat → AV) (hb : Nat → AObj) (i : Nat) (o : AOper) (l : List (Nat × AOper)) (T : List (Nat × AV)) (H : List (Nat × AObj)) (C : Prop) : gateL md b hb none i o l T H C = (C, T, H, .at_ ((i, o) :: l)) := rfl
theorem gateL_false (md : Md) (b : Nat → AV) (hb : Nat → AObj) (i : Nat) (o : AOper) (l : List (Nat × AOper)) (T : List (Nat × AV)) (H : List (Nat × AObj)) (C : Prop) : gateL md b hb (some false) i o l T H C = runL md b hb l (dput o.dst (.val undef) T) H C := rfl
theorem gateL_true (md : Md) (b : Nat → AV) (hb : Nat → AObj) (i : Nat) (o : AOper) (l : List (Nat × AOper)) (T : List (Nat × AV)) (H : List (Nat × AObj)) (C : Prop) : gateL md b hb (some true) i o l T H C = contL md b hb (stepL md b hb i o T H) i o l T H C := rfl
theorem contL_some (md : Md) (b : Nat → AV) (hb : Nat → AObj) (r : Prop × AV × List (Nat × AObj)) (i : Nat) (o : AOper) (l : List (Nat × AOper)) (T : List (Nat × AV)) (H : List (Nat × AObj)) (C : Prop) : contL md b hb (some r) i o l T H C = runL md b hb l (dput o.dst r.2.1 T) (r.2.2 ++ H) (C ∧ r.1) := rfl
theorem contL_none (md : Md) (b : Nat → AV) (hb : Nat → AObj) (i : Nat) (o : AOper) (l : List (Nat × AOper)) (T : List (Nat × AV)) (H : List (Nat × AObj)) (C : Prop) : contL md b hb none i o l T H C = (C, T, H, stopAt b T i o l) := rfl
theorem usOf_nil (base k : Nat) : usOf base [] k = [] := rfl
theorem usOf_cons (base j i : Nat) (l : List (Nat × Nat)) (k : Nat) : usOf base ((j, i) :: l) k = match Nat.beq j k with | true => (base + 16 * i) :: usOf base l k | false => usOf base l k := by
  cases h : Nat.beq j k <;> simp [usOf, h]
theorem beq_tt : (true == true) = true := rfl
theorem beq_tf : (true == false) = false := rfl
theorem beq_ft : (false == true) = false := rfl
theorem beq_ff : (false == false) = true := rfl

section
variable {P : Program} {N : Nat} {nn : NN} {Q : Exit → St → Prop}

/-- A call, its arguments at hand. -/
def CallG (P : Program) (md : Md) (b : Nat → AV) (hb : Nat → AObj) (K : St → Prop) (n' : Nat) (i : Nat) (dst : Option Nat) (g : FuncId) (xs : List AV) (rest : List (Nat × AOper)) (T : List (Nat × AV)) (H : List (Nat × AObj)) : Prop :=
  ∃ ids out, CallSpec P g xs (md.id i) ids (ids.map (fH H hb)) out ∧ (md.draw = true → noneIn (md.U i) ids) ∧ (md.draw = true → ∃ v ups, out v ups) ∧
    ∀ v ups, out v ups → (md.draw = true → noneIn (md.U i) (ups.map (·.1)) ∧ okU md.R ups) ∧ runP P md rest (fun s => K ⟨s, n'⟩) ⟨fT (dput dst v T) b, fH (ups ++ H) hb⟩
def RunAt (P : Program) (md : Md) (b : Nat → AV) (hb : Nat → AObj) (K : St → Prop) (n' : Nat) (l : List (Nat × AOper)) (T : List (Nat × AV)) (H : List (Nat × AObj)) : Prop :=
  runP P md l (fun s => K ⟨s, n'⟩) ⟨fT T b, fH H hb⟩
def After (P : Program) (md : Md) (b : Nat → AV) (hb : Nat → AObj) (K : St → Prop) (n' : Nat) (T : List (Nat × AV)) (H : List (Nat × AObj)) : Stop → Prop
  | .done => K (mk T b H hb n')
  | .call i dst g xs rest => CallG P md b hb K n' i dst g xs rest T H
  | .at_ l => RunAt P md b hb K n' l T H

/-- The conditions, and what comes behind the run. -/
def Runs (P : Program) (md : Md) (b : Nat → AV) (hb : Nat → AObj) (K : St → Prop) (n' : Nat) (r : RunRes) : Prop := r.1 ∧ After P md b hb K n' r.2.1 r.2.2.1 r.2.2.2
theorem Runs.out (P : Program) (md : Md) (b : Nat → AV) (hb : Nat → AObj) (K : St → Prop) (n' : Nat) (C : Prop) (T : List (Nat × AV)) (H : List (Nat × AObj)) (s : Stop) : Runs P md b hb K n' (C, T, H, s) = (C ∧ After P md b hb K n' T H s) := rfl
/-- A guard that nobody knows. -/
theorem Runs.part {md : Md} {b : Nat → AV} {hb : Nat → AObj} {K : St → Prop} {n' : Nat} {g w : Bool} {i : Nat} {o : AOper} {l : List (Nat × AOper)} {T : List (Nat × AV)} {H : List (Nat × AObj)} {C : Prop}
    (ht : g = true → Runs P md b hb K n' (gateL md b hb (some (true == w)) i o l T H C)) (hf : g = false → Runs P md b hb K n' (gateL md b hb (some (false == w)) i o l T H C)) : Runs P md b hb K n' (gateL md b hb (some (g == w)) i o l T H C) := by
  cases g with
  | true => exact ht rfl
  | false => exact hf rfl
theorem Runs.kt {md : Md} {b : Nat → AV} {hb : Nat → AObj} {K : St → Prop} {n' : Nat} {g w : Bool} {i : Nat} {o : AOper} {l : List (Nat × AOper)} {T : List (Nat × AV)} {H : List (Nat × AObj)} {C : Prop} (hg : g = true)
    (h : g = true → Runs P md b hb K n' (gateL md b hb (some (true == w)) i o l T H C)) : Runs P md b hb K n' (gateL md b hb (some (g == w)) i o l T H C) := by
  have e : g = true := by simp [hg]
  have h := h e
  rw [← e] at h
  exact h
theorem Runs.kf {md : Md} {b : Nat → AV} {hb : Nat → AObj} {K : St → Prop} {n' : Nat} {g w : Bool} {i : Nat} {o : AOper} {l : List (Nat × AOper)} {T : List (Nat × AV)} {H : List (Nat × AObj)} {C : Prop} (hg : g = false)
    (h : g = false → Runs P md b hb K n' (gateL md b hb (some (false == w)) i o l T H C)) : Runs P md b hb K n' (gateL md b hb (some (g == w)) i o l T H C) := by
  have e : g = false := by simp [hg]
  have h := h e
  rw [← e] at h
  exact h
theorem Runs.nt {md : Md} {b : Nat → AV} {hb : Nat → AObj} {K : St → Prop} {n' : Nat} {g w : Bool} {i : Nat} {o : AOper} {l : List (Nat × AOper)} {T : List (Nat × AV)} {H : List (Nat × AObj)} {C : Prop} (hg : g = false)
    (h : (!g) = true → Runs P md b hb K n' (gateL md b hb (some (true == w)) i o l T H C)) : Runs P md b hb K n' (gateL md b hb (some ((!g) == w)) i o l T H C) := by
  have e : (!g) = true := by simp [hg]
  have h := h e
  rw [← e] at h
  exact h
theorem Runs.nf {md : Md} {b : Nat → AV} {hb : Nat → AObj} {K : St → Prop} {n' : Nat} {g w : Bool} {i : Nat} {o : AOper} {l : List (Nat × AOper)} {T : List (Nat × AV)} {H : List (Nat × AObj)} {C : Prop} (hg : g = true)
    (h : (!g) = false → Runs P md b hb K n' (gateL md b hb (some (false == w)) i o l T H C)) : Runs P md b hb K n' (gateL md b hb (some ((!g) == w)) i o l T H C) := by
  have e : (!g) = false := by simp [hg]
  have h := h e
  rw [← e] at h
  exact h
theorem call_step {md : Md} (hF : md.draw = false → md.F = []) {b : Nat → AV} {hb : Nat → AObj} {K : St → Prop} {n' : Nat} {i : Nat} {o : AOper} {g : FuncId} {rest : List (Nat × AOper)} {T : List (Nat × AV)} {H : List (Nat × AObj)}
    (hok : md.ok (fH H hb)) (hw : wants o.guard (fT T b) = some true) (he : isEff o.op = true) {xs : List AV} (hs : ∀ ids out, CallSpec P g xs (md.id i) ids (ids.map (fH H hb)) out → Spec P o.op (md.id i) (o.xs.map (evO (fT T b))) ids (ids.map (fH H hb)) out)
    (h : CallG P md b hb K n' i o.dst g xs rest T H) : Step P md i o (runP P md rest (fun s => K ⟨s, n'⟩)) ⟨fT T b, fH H hb⟩ := by
  have hU : md.draw = false → md.U i = [] := fun hd => by unfold Md.U; rw [hF hd]; rfl
  rw [Step.eff hw (by rw [he]; rfl)]
  obtain ⟨ids, out, h1, h2, h3, h4⟩ := h
  refine ⟨ids, out, hs ids out h1, fun u hu => ?_, h3, fun v ups hv => ⟨fun u hu => ?_, ?_, ?_⟩⟩
  · cases hd : md.draw with
    | true => exact noneIn_iff (h2 hd) u hu
    | false => rw [hU hd] at hu; simp at hu
  · cases hd : md.draw with
    | true => exact noneIn_iff ((h4 v ups hv).1 hd).1 u hu
    | false => rw [hU hd] at hu; simp at hu
  · cases hd : md.draw with
    | true => exact okU_ok hok ((h4 v ups hv).1 hd).2
    | false => intro hd'; rw [hd] at hd'; cases hd'
  · have := (h4 v ups hv).2
    rw [put_fT, updH_fH]
    exact this

theorem run_ok {md : Md} (hF : md.draw = false → md.F = []) (hR : ∀ k, md.base ≤ k → (findH md.R k).live = false) {b : Nat → AV} {hb : Nat → AObj} {K : St → Prop} {n' : Nat} : ∀ (l : List (Nat × AOper)) (T : List (Nat × AV)) (H : List (Nat × AObj)) (C : Prop), md.ok (fH H hb) →
    ((runL md b hb l T H C).1 → C) ∧ ((runL md b hb l T H C).1 → After P md b hb K n' (runL md b hb l T H C).2.1 (runL md b hb l T H C).2.2.1 (runL md b hb l T H C).2.2.2 → runP P md l (fun s => K ⟨s, n'⟩) ⟨fT T b, fH H hb⟩)
  | [], T, H, C, hok => ⟨fun h => h, fun _ h => h⟩
  | (i, o) :: l, T, H, C, hok => by
    have hU : md.draw = false → md.U i = [] := fun hd => by unfold Md.U; rw [hF hd]; rfl
    simp only [runL]
    cases hw : wants o.guard (fT T b) with
    | none => exact ⟨fun h => h, fun _ h => h⟩
    | some w =>
      cases w with
      | false =>
        obtain ⟨h1, h2⟩ := run_ok hF hR l (dput o.dst (.val undef) T) H C hok
        refine ⟨h1, fun hc ha => ?_⟩
        simp only [runP]
        rw [Step.skip hw]
        simp only [put_fT]
        exact h2 hc ha
      | true =>
        simp only
        cases hs : stepL md b hb i o T H with
        | some r =>
          simp only
          obtain ⟨c, v, ups⟩ := r
          have hok' : c → md.ok (fH (ups ++ H) hb) ∧ (runP P md l (fun s => K ⟨s, n'⟩) ⟨fT (dput o.dst v T) b, fH (ups ++ H) hb⟩ → Step P md i o (runP P md l (fun s => K ⟨s, n'⟩)) ⟨fT T b, fH H hb⟩) := by
            intro hc
            unfold stepL at hs
            split at hs
            · rename_i he
              have hok2 : md.ok (fH (ups ++ H) hb) := by
                rw [← updH_fH]
                rcases simple_ups hs with ⟨_, rfl⟩ | ⟨_, o', rfl⟩
                · exact hok
                · exact (ok_upd hR o').2 hok
              refine ⟨hok2, fun hk => ?_⟩
              rw [Step.sim hw he]
              exact ⟨c, v, ups, hs, hc, by rw [put_fT, updH_fH]; exact hk⟩
            · rename_i he
              split at hs
              · cases hs
              · rename_i r hr
                have fin : r.1 → r.2 = (v, ups) → (md.draw = true → okU md.R ups ∧ noneIn (md.U i) (eids o.op (o.xs.map (evO (fT T b)))) ∧ noneIn (md.U i) (ups.map (·.1))) →
                    md.ok (fH (ups ++ H) hb) ∧ (runP P md l (fun s => K ⟨s, n'⟩) ⟨fT (dput o.dst v T) b, fH (ups ++ H) hb⟩ → Step P md i o (runP P md l (fun s => K ⟨s, n'⟩)) ⟨fT T b, fH H hb⟩) := by
                  intro g1 g2 g3
                  obtain ⟨rc, rv, ru⟩ := r
                  cases g2
                  have hok2 : md.ok (updH (fH H hb) ups) := by
                    cases hd : md.draw with
                    | true => exact okU_ok hok (g3 hd).1
                    | false => intro hd'; rw [hd] at hd'; cases hd'
                  refine ⟨by rw [← updH_fH]; exact hok2, fun hk => ?_⟩
                  rw [Step.eff hw he]
                  refine ⟨eids o.op (o.xs.map (evO (fT T b))), fun v' ups' => v' = v ∧ ups' = ups, ?_, fun u hu => ?_, fun _ => ⟨v, ups, rfl, rfl⟩, ?_⟩
                  · unfold Spec
                    split
                    · rename_i g hg; rw [hg] at hr; simp [effD] at hr
                    · rename_i hg; rw [hg] at hr; simp [effD] at hr
                    · exact ⟨rfl, rc, v, ups, hr, g1, rfl, rfl⟩
                  · cases hd : md.draw with
                    | true => exact noneIn_iff (g3 hd).2.1 u hu
                    | false => rw [hU hd] at hu; simp at hu
                  · rintro v' ups' ⟨rfl, rfl⟩
                    refine ⟨fun u hu => ?_, hok2, by rw [put_fT, updH_fH]; exact hk⟩
                    cases hd : md.draw with
                    | true => exact noneIn_iff (g3 hd).2.2 u hu
                    | false => rw [hU hd] at hu; simp at hu
                split at hs
                · rename_i hd
                  cases hs
                  exact fin hc rfl (fun h => by rw [hd] at h; cases h)
                · rename_i hd
                  simp only [Option.some.injEq, Prod.mk.injEq] at hs
                  obtain ⟨rfl, h2⟩ := hs
                  have hru : r.2.2 = ups := by rw [h2]
                  refine fin hc.1 h2 (fun _ => ?_)
                  rw [← hru]
                  exact hc.2
          refine ⟨fun h => ?_, fun h ha => ?_⟩
          · by_cases hc : c
            · exact ((run_ok (K := K) (n' := n') hF hR l (dput o.dst v T) (ups ++ H) (C ∧ c) (hok' hc).1).1 h).1
            · exfalso
              have : ∀ (l : List (Nat × AOper)) (T : List (Nat × AV)) (H : List (Nat × AObj)) (C : Prop), (runL md b hb l T H C).1 → C := by
                intro l
                induction l with
                | nil => intro T H C h; exact h
                | cons p l ih =>
                  intro T H C h
                  obtain ⟨i, o⟩ := p
                  simp only [runL] at h
                  split at h
                  · exact h
                  · exact ih _ _ _ h
                  · split at h
                    · exact (ih _ _ _ h).1
                    · exact h
              exact hc (this _ _ _ _ h).2
          · have hc : c := by
              have : ∀ (l : List (Nat × AOper)) (T : List (Nat × AV)) (H : List (Nat × AObj)) (C : Prop), (runL md b hb l T H C).1 → C := by
                intro l
                induction l with
                | nil => intro T H C h; exact h
                | cons p l ih =>
                  intro T H C h
                  obtain ⟨i, o⟩ := p
                  simp only [runL] at h
                  split at h
                  · exact h
                  · exact ih _ _ _ h
                  · split at h
                    · exact (ih _ _ _ h).1
                    · exact h
              exact (this _ _ _ _ h).2
            exact (hok' hc).2 ((run_ok hF hR l (dput o.dst v T) (ups ++ H) (C ∧ c) (hok' hc).1).2 h ha)
        | none =>
          simp only
          refine ⟨fun h => h, fun _ ha => ?_⟩
          unfold stopAt at ha
          split at ha
          · rename_i g hg
            exact call_step hF hok hw (by rw [hg]; rfl) (fun ids out hh => by unfold Spec; rw [hg]; exact hh) ha
          · rename_i hg
            split at ha
            · rename_i g first cap args hx
              exact call_step hF hok hw (by rw [hg]; rfl) (fun ids out hh => by unfold Spec; rw [hg]; simp only; rw [hx]; exact hh) ha
            · exact ha
          · exact ha

def keepT (b : Nat → AV) (T : List (Nat × AV)) : List Nat → List (Nat × AV)
  | [] => []
  | k :: ks => (k, fT T b k) :: keepT b T ks
theorem keepT_get (b : Nat → AV) (T : List (Nat × AV)) : ∀ (ks : List Nat) (j : Nat), fT (keepT b T ks) none0 j = .any ∨ fT (keepT b T ks) none0 j = fT T b j
  | [], j => .inl rfl
  | k :: ks, j => by
    simp only [keepT, fT]
    cases h : Nat.beq k j with
    | true => have := Nat.eq_of_beq_eq_true h; subst this; exact .inr rfl
    | false => exact keepT_get b T ks j
theorem Sms.forget {C : Ctx} {B : BM} {x x0 : St} {a : Act} {w : World} (hs : Sms C N B x a w) (ht : ∀ j, x0.s.t j = .any ∨ x0.s.t j = x.s.t j) (hh : ∀ i, x0.s.h i = .gone ∨ x0.s.h i = x.s.h i) (hn : x.n ≤ x0.n) : Sms C N B x0 a w := by
  obtain ⟨⟨h1, h2, h3, h4, h5, h6, h7⟩, h8, h9⟩ := hs
  refine ⟨⟨h1, h2, fun j => ?_, ⟨fun i => ?_, fun i j b n m hij hi hj => ?_⟩, fun i b n hi => ?_, h6, h7⟩, fun k hk => h8 k (by omega), by omega⟩
  · rcases ht j with h | h
    · rw [h]; simp [VR]
    · rw [h]; exact h3 j
  · rcases hh i with h | h
    · rw [h]; trivial
    · rw [h]; exact h4.obj i
  · rcases hh i with h | h
    · rw [h] at hi; cases hi
    · rcases hh j with k | k
      · rw [k] at hj; cases hj
      · exact h4.apart i j b n m hij (by rw [← h]; exact hi) (by rw [← k]; exact hj)
  · rcases hh i with h | h
    · rw [h] at hi; cases hi
    · exact h5 i b n (by rw [← h]; exact hi)

theorem AWp.forgetPost {c : Code} {x : St} {f : St → St} (hf : ∀ (C : Ctx) B x a w, Sms C N B x a w → Sms C N B (f x) a w) (h : AWp P N nn c (fun e x => match e with | .normal => Q .normal (f x) | e => Q e x) x) : AWp P N nn c Q x := by
  intro C B a w hn hs
  refine wp_mono (h C B a w hn hs) ?_
  rintro e a' w' ⟨B', x', hq, hs'⟩
  cases e with
  | normal => exact ⟨B', f x', hq, hf C B' x' a' w' hs'⟩
  | _ => exact ⟨B', x', hq, hs'⟩
/-- Only some slots are kept. -/
theorem AWp.keep {c : Code} {T : List (Nat × AV)} {b : Nat → AV} {H : List (Nat × AObj)} {hb : Nat → AObj} {n : Nat} (ks : List Nat) (h : AWp P N nn c Q (mk (keepT b T ks) none0 H hb n)) : AWp P N nn c Q (mk T b H hb n) :=
  fun C B a w hn hs => h C B a w hn (hs.forget (keepT_get b T ks) (fun i => .inr rfl) (Nat.le_refl _))
theorem AWp.regionL {id : Nat} {ops : Array Oper} {aops : List AOper} {T : List (Nat × AV)} {b : Nat → AV} {H : List (Nat × AObj)} {hb : Nat → AObj} {n : Nat} {r : Prop × List (Nat × AV) × List (Nat × AObj) × Stop} (hc : compOps P N ops = some aops)
    (hr : runL ⟨false, n, [], [], []⟩ b hb (numberA 0 aops) T H True = r)
    (h : Runs P ⟨false, n, [], [], []⟩ b hb (Q .normal) (n + 16 * aops.length) r) : AWp P N nn (.region id ops false) Q (mk T b H hb n) := by
  subst hr
  exact AWp.region hc ((run_ok (fun _ => rfl) (fun _ _ => rfl) (numberA 0 aops) T H True (fun h => by cases h)).2 h.1 h.2)
def subR (H : List (Nat × AObj)) (hb : Nat → AObj) : List (Nat × AObj) → Prop
  | [] => True
  | p :: l => fH H hb p.1 = p.2 ∧ subR H hb l
def ltR (n : Nat) : List (Nat × AObj) → Prop
  | [] => True
  | p :: l => p.1 < n ∧ ltR n l
theorem subR_ok {H : List (Nat × AObj)} {hb : Nat → AObj} : ∀ {R : List (Nat × AObj)}, subR H hb R → ∀ j, (findH R j).live = true → fH H hb j = findH R j
  | [], _, j, hl => by simp [findH, AObj.live] at hl
  | p :: l, h, j, hl => by
    simp only [subR] at h
    simp only [findH] at hl ⊢
    cases e : Nat.beq p.1 j with
    | true => have := Nat.eq_of_beq_eq_true e; subst this; exact h.1
    | false => rw [e] at hl; exact subR_ok h.2 j hl
theorem ltR_ok {n : Nat} : ∀ {R : List (Nat × AObj)}, ltR n R → ∀ k, n ≤ k → (findH R k).live = false
  | [], _, k, _ => rfl
  | p :: l, h, k, hk => by
    simp only [ltR] at h
    simp only [findH]
    cases e : Nat.beq p.1 k with
    | true => have := Nat.eq_of_beq_eq_true e
              subst this
              have h1 : p.1 < n := h.1
              omega
    | false => exact ltR_ok h.2 k hk
/-- What a region that draws may read: all that it does not write. -/
def restr (X : List Nat) : List (Nat × AObj) → List (Nat × AObj)
  | [] => []
  | p :: l => match hasB X p.1 with
    | true => restr X l
    | false => p :: restr (p.1 :: X) l
theorem restr_gone : ∀ (l : List (Nat × AObj)) {X : List Nat} {j : Nat}, hasB X j = true → findH (restr X l) j = .gone
  | [], _, _, _ => rfl
  | q :: l, X, j, h => by
    simp only [restr]
    cases hq : hasB X q.1 with
    | true => exact restr_gone l h
    | false =>
      simp only [findH]
      cases e : Nat.beq q.1 j with
      | true => have := Nat.eq_of_beq_eq_true e; rw [this, h] at hq; cases hq
      | false => exact restr_gone l (by simp only [hasB, e, h, cond_false])
theorem restr_ok {hb : Nat → AObj} : ∀ {H : List (Nat × AObj)} {X : List Nat} (j : Nat) (hl : (findH (restr X H) j).live = true), fH H hb j = findH (restr X H) j
  | [], X, j, hl => by simp [restr, findH, AObj.live] at hl
  | p :: l, X, j, hl => by
    simp only [restr] at hl ⊢
    cases hx : hasB X p.1 with
    | true =>
      rw [hx] at hl
      simp only at hl ⊢
      simp only [fH]
      cases e : Nat.beq p.1 j with
      | true =>
        have := Nat.eq_of_beq_eq_true e
        subst this
        rw [restr_gone l hx] at hl
        cases hl
      | false => exact restr_ok j hl
    | false =>
      rw [hx] at hl
      simp only at hl ⊢
      simp only [fH, findH] at hl ⊢
      cases e : Nat.beq p.1 j with
      | true => rfl
      | false => rw [e] at hl; exact restr_ok j hl
/-- The rest of a region that drew: as its text goes. -/
def TailK (P : Program) (n k : Nat) (tl : List AOper) (K : St → Prop) (x : St) : Prop := runP P ⟨false, n, [], [], []⟩ (numberA k tl) (fun s => K ⟨s, x.n⟩) x.s
theorem TailK.nil {n k : Nat} {K : St → Prop} {x : St} : TailK P n k [] K x = K x := rfl
theorem TailK.go {n k : Nat} {tl : List AOper} {K : St → Prop} {T : List (Nat × AV)} {b : Nat → AV} {H : List (Nat × AObj)} {hb : Nat → AObj} {n' : Nat} {r : Prop × List (Nat × AV) × List (Nat × AObj) × Stop}
    (hr : runL ⟨false, n, [], [], []⟩ b hb (numberA k tl) T H True = r) (h : Runs P ⟨false, n, [], [], []⟩ b hb K n' r) : TailK P n k tl K (mk T b H hb n') := by
  subst hr
  exact (run_ok (fun _ => rfl) (fun _ _ => rfl) (numberA k tl) T H True (fun h => by cases h)).2 h.1 h.2
theorem AWp.drawX {id : Nat} {ops : Array Oper} {aops tl : List AOper} {T : List (Nat × AV)} {b : Nat → AV} {H : List (Nat × AObj)} {hb : Nat → AObj} {n : Nat} {R : List (Nat × AObj)} {r : Prop × List (Nat × AV) × List (Nat × AObj) × Stop} (X : List Nat) (E : List Nat) (F : List (Nat × Nat))
    (hm : P.follows .mixedOrders = true) (hc : compOps P N ops = some (aops ++ tl)) (hB : orderB ops (aops ++ tl) aops.length E F = true) (hRe : restr X H = R) (hl : ltR n R)
    (hr : runL ⟨true, n, R, E, F⟩ b hb (numberA 0 aops) T H True = r)
    (h : Runs P ⟨true, n, R, E, F⟩ b hb (TailK P n aops.length tl (Q .normal)) (n + 16 * (aops.length + tl.length)) r) : AWp P N nn (.region id ops true) Q (mk T b H hb n) := by
  subst hRe
  subst hr
  exact AWp.draw hm hc _ E F hB restr_ok (ltR_ok hl) ((run_ok (md := ⟨true, n, restr X H, E, F⟩) (K := TailK P n aops.length tl (Q .normal)) (fun h => by cases h) (ltR_ok hl) (numberA 0 aops) T H True (fun _ j hj => restr_ok j hj)).2 h.1 h.2)
/-- Behind a call, the run goes on. -/
theorem run_on {md : Md} {b : Nat → AV} {hb : Nat → AObj} {K : St → Prop} {n' : Nat} {l : List (Nat × AOper)} {T : List (Nat × AV)} {H : List (Nat × AObj)} {r : Prop × List (Nat × AV) × List (Nat × AObj) × Stop}
    (hr : runL md b hb l T H True = r) (hF : md.draw = false → md.F = []) (hR : ∀ k, md.base ≤ k → (findH md.R k).live = false) (hok : md.ok (fH H hb)) (h : r.1 ∧ After P md b hb K n' r.2.1 r.2.2.1 r.2.2.2) : runP P md l (fun s => K ⟨s, n'⟩) ⟨fT T b, fH H hb⟩ := by
  subst hr
  exact (run_ok hF hR l T H True hok).2 h.1 h.2

/-- One outcome alone. -/
def Det (v : AV) (H : List AObj) : AV → List AObj → Prop := fun v' H' => v' = v ∧ H' = H
def ltAll : List Nat → Nat → Bool
  | [], _ => true
  | i :: l, n => decide (i < n) && ltAll l n
theorem ltAll_ok : ∀ {l : List Nat} {n : Nat}, ltAll l n = true → ∀ k ∈ l, k < n
  | [], _, _, k, hk => by simp at hk
  | i :: l, n, h, k, hk => by
    simp only [ltAll, Bool.and_eq_true] at h
    rcases List.mem_cons.1 hk with rfl | hk
    · simpa using h.1
    · exact ltAll_ok h.2 k hk
theorem CallG.plain {n : Nat} {b : Nat → AV} {hb : Nat → AObj} {K : St → Prop} {n' : Nat} {i : Nat} {dst : Option Nat} {g : FuncId} {xs : List AV} {rest : List (Nat × AOper)} {T : List (Nat × AV)} {H : List (Nat × AObj)}
    {args : List AV} {Hc H1 : List AObj} {v : AV} {r : Prop × List (Nat × AV) × List (Nat × AObj) × Stop} (ids : List Nat) (hc : ACall P g args Hc (Det v H1)) (hx : leAs xs (renL ids args)) (hm : leOL (asForL Hc (ids.map (fH H hb))) (renOL ids Hc)) (hl : ids.length = Hc.length) (ha : aloneB ids Hc = true)
    (hn : H1.length ≤ Hc.length + 16 ∧ ltAll ids (n + 16 * i) = true)
    (hr : runL ⟨false, n, [], [], []⟩ b hb rest (dput dst (ren (ids ++ newIds (n + 16 * i) (H1.length - Hc.length)) v) T) (upsOf ids (n + 16 * i) Hc H1 ++ H) True = r)
    (h : Runs P ⟨false, n, [], [], []⟩ b hb K n' r) : CallG P ⟨false, n, [], [], []⟩ b hb K n' i dst g xs rest T H := by
  refine ⟨ids, fun v' ups' => v' = ren (ids ++ newIds (n + 16 * i) (H1.length - Hc.length)) v ∧ ups' = upsOf ids (n + 16 * i) Hc H1, ⟨args, Hc, Det v H1, hc, hx, hl, hm, ha, ltAll_ok hn.2, fun v' H' hd => by rw [hd.2]; exact hn.1, fun v' H' hd _ => by rw [hd.1, hd.2]; exact ⟨rfl, rfl⟩⟩, fun h => (by cases h), fun h => (by cases h), ?_⟩
  rintro v' ups' ⟨rfl, rfl⟩
  refine ⟨fun h => (by cases h), ?_⟩
  exact run_on hr (fun _ => rfl) (fun _ _ => rfl) (fun h => by cases h) h
theorem CallG.draw {n : Nat} {R : List (Nat × AObj)} {E : List Nat} {F : List (Nat × Nat)} {b : Nat → AV} {hb : Nat → AObj} {K : St → Prop} {n' : Nat} {i : Nat} {dst : Option Nat} {g : FuncId} {xs : List AV} {rest : List (Nat × AOper)} {T : List (Nat × AV)} {H : List (Nat × AObj)}
    {args : List AV} {Hc H1 : List AObj} {v : AV} {r : Prop × List (Nat × AV) × List (Nat × AObj) × Stop} (ids : List Nat) (hc : ACall P g args Hc (Det v H1)) (hx : leAs xs (renL ids args)) (hm : leOL (asForL Hc (ids.map (fH H hb))) (renOL ids Hc)) (hl : ids.length = Hc.length) (ha : aloneB ids Hc = true)
    (hn : H1.length ≤ Hc.length + 16 ∧ ltAll ids (n + 16 * i) = true) (hU : noneIn (usOf n F i) ids ∧ noneIn (usOf n F i) ((upsOf ids (n + 16 * i) Hc H1).map (·.1)) ∧ okU R (upsOf ids (n + 16 * i) Hc H1)) (hlt : ltR n R) (hsub : subR (upsOf ids (n + 16 * i) Hc H1 ++ H) hb R)
    (hr : runL ⟨true, n, R, E, F⟩ b hb rest (dput dst (ren (ids ++ newIds (n + 16 * i) (H1.length - Hc.length)) v) T) (upsOf ids (n + 16 * i) Hc H1 ++ H) True = r)
    (h : Runs P ⟨true, n, R, E, F⟩ b hb K n' r) : CallG P ⟨true, n, R, E, F⟩ b hb K n' i dst g xs rest T H := by
  refine ⟨ids, fun v' ups' => v' = ren (ids ++ newIds (n + 16 * i) (H1.length - Hc.length)) v ∧ ups' = upsOf ids (n + 16 * i) Hc H1, ⟨args, Hc, Det v H1, hc, hx, hl, hm, ha, ltAll_ok hn.2, fun v' H' hd => by rw [hd.2]; exact hn.1, fun v' H' hd _ => by rw [hd.1, hd.2]; exact ⟨rfl, rfl⟩⟩, fun _ => hU.1, fun _ => ⟨_, _, rfl, rfl⟩, ?_⟩
  rintro v' ups' ⟨rfl, rfl⟩
  refine ⟨fun _ => hU.2, ?_⟩
  exact run_on hr (fun h => by cases h) (ltR_ok hlt) (fun _ j hj => subR_ok hsub j hj) h

/-- All side conditions in one. -/
theorem CallG.plain1 {n : Nat} {b : Nat → AV} {hb : Nat → AObj} {K : St → Prop} {n' : Nat} {i : Nat} {dst : Option Nat} {g : FuncId} {xs : List AV} {rest : List (Nat × AOper)} {T : List (Nat × AV)} {H : List (Nat × AObj)}
    {args : List AV} {Hc H1 : List AObj} {v : AV} {r : Prop × List (Nat × AV) × List (Nat × AObj) × Stop} (ids : List Nat) (hc : ACall P g args Hc (Det v H1))
    (hs : leAs xs (renL ids args) ∧ leOL (asForL Hc (ids.map (fH H hb))) (renOL ids Hc) ∧ ids.length = Hc.length ∧ aloneB ids Hc = true ∧ H1.length ≤ Hc.length + 16 ∧ ltAll ids (n + 16 * i) = true)
    (hr : runL ⟨false, n, [], [], []⟩ b hb rest (dput dst (ren (ids ++ newIds (n + 16 * i) (H1.length - Hc.length)) v) T) (upsOf ids (n + 16 * i) Hc H1 ++ H) True = r)
    (h : Runs P ⟨false, n, [], [], []⟩ b hb K n' r) : CallG P ⟨false, n, [], [], []⟩ b hb K n' i dst g xs rest T H :=
  CallG.plain ids hc hs.1 hs.2.1 hs.2.2.1 hs.2.2.2.1 hs.2.2.2.2 hr h
theorem CallG.draw1 {n : Nat} {R : List (Nat × AObj)} {E : List Nat} {F : List (Nat × Nat)} {b : Nat → AV} {hb : Nat → AObj} {K : St → Prop} {n' : Nat} {i : Nat} {dst : Option Nat} {g : FuncId} {xs : List AV} {rest : List (Nat × AOper)} {T : List (Nat × AV)} {H : List (Nat × AObj)}
    {args : List AV} {Hc H1 : List AObj} {v : AV} {r : Prop × List (Nat × AV) × List (Nat × AObj) × Stop} (ids : List Nat) (hc : ACall P g args Hc (Det v H1))
    (hs : leAs xs (renL ids args) ∧ leOL (asForL Hc (ids.map (fH H hb))) (renOL ids Hc) ∧ ids.length = Hc.length ∧ aloneB ids Hc = true ∧ H1.length ≤ Hc.length + 16 ∧ ltAll ids (n + 16 * i) = true ∧
      noneIn (usOf n F i) ids ∧ noneIn (usOf n F i) ((upsOf ids (n + 16 * i) Hc H1).map (·.1)) ∧ okU R (upsOf ids (n + 16 * i) Hc H1) ∧ ltR n R ∧ subR (upsOf ids (n + 16 * i) Hc H1 ++ H) hb R)
    (hr : runL ⟨true, n, R, E, F⟩ b hb rest (dput dst (ren (ids ++ newIds (n + 16 * i) (H1.length - Hc.length)) v) T) (upsOf ids (n + 16 * i) Hc H1 ++ H) True = r)
    (h : Runs P ⟨true, n, R, E, F⟩ b hb K n' r) : CallG P ⟨true, n, R, E, F⟩ b hb K n' i dst g xs rest T H := by
  obtain ⟨h1, h2, h3, h4, h5, h6, h7, h8, h9, h10, h11⟩ := hs
  exact CallG.draw ids hc h1 h2 h3 h4 ⟨h5, h6⟩ ⟨h7, h8, h9⟩ h10 h11 hr h
/-- The end, one outcome. -/
def zipI : Nat → List AObj → List (Nat × AObj)
  | _, [] => []
  | i, o :: l => (i, o) :: zipI (i + 1) l
def sameR (ρ : List Nat) (H : List (Nat × AObj)) (hb : Nat → AObj) : List Nat → List AObj → Prop
  | _, [] => True
  | [], _ :: _ => False
  | j :: js, q :: qs => (q = .gone ∨ leO (fH H hb j) (renO ρ q)) ∧ sameR ρ H hb js qs
theorem sameR_spec {ρ : List Nat} {H : List (Nat × AObj)} {hb : Nat → AObj} : ∀ {js : List Nat} {qs : List AObj}, sameR ρ H hb js qs → ∀ i, listH qs i = .gone ∨ ∃ j, js[i]? = some j ∧ leO (fH H hb j) (renO ρ (listH qs i))
  | _, [], _, i => .inl (by simp [listH])
  | [], _ :: _, h, _ => h.elim
  | j :: js, q :: qs, h, 0 => by
    simp only [sameR] at h
    rcases h.1 with h | h
    · exact .inl (by simp [listH, h])
    · exact .inr ⟨j, rfl, by simpa [listH] using h⟩
  | j :: js, q :: qs, h, i + 1 => by
    simp only [sameR] at h
    rcases sameR_spec h.2 i with h | ⟨k, h1, h2⟩
    · exact .inl (by simpa [listH] using h)
    · exact .inr ⟨k, by simpa using h1, by simpa [listH] using h2⟩
def ancB (ρ : List Nat) : Nat → Bool
  | 0 => true
  | n + 1 => (match ρ[n]? with | some k => Nat.beq k n | none => false) && ancB ρ n
theorem ancB_spec {ρ : List Nat} : ∀ {n : Nat}, ancB ρ n = true → ∀ k, k < n → ρ[k]? = some k
  | 0, _, k, hk => by omega
  | n + 1, h, k, hk => by
    simp only [ancB, Bool.and_eq_true] at h
    rcases Nat.lt_or_eq_of_le (Nat.lt_succ_iff.1 hk) with h' | h'
    · exact ancB_spec h.2 k h'
    · subst h'
      cases e : ρ[k]? with
      | none => rw [e] at h; cases h.1
      | some j => rw [e] at h; have := Nat.eq_of_beq_eq_true h.1; rw [this]
theorem alone_inj {ρ : List Nat} {qs : List AObj} (h : aloneB ρ qs = true) (hl : qs.length ≤ ρ.length) : ∀ i j, i ≠ j → (listH qs i).own = true → (listH qs j).live = true → ρ[i]? ≠ ρ[j]? := by
  intro i j hij hi hj e
  have get : ∀ k, (listH qs k).live = true → ∃ q, qs[k]? = some q ∧ listH qs k = q := fun k hk => by
    cases hq : qs[k]? with
    | none => rw [listH_none _ _ (by rw [List.getElem?_eq_none_iff] at hq; exact hq)] at hk; cases hk
    | some q => exact ⟨q, rfl, listH_get _ _ hq⟩
  obtain ⟨p, hp, ep⟩ := get i (AObj.own_live hi)
  obtain ⟨q, hq, eq⟩ := get j hj
  have h1 : i < ρ.length := Nat.lt_of_lt_of_le (List.getElem?_eq_some_iff.1 hp).1 hl
  have h2 : j < ρ.length := Nat.lt_of_lt_of_le (List.getElem?_eq_some_iff.1 hq).1 hl
  rw [List.getElem?_eq_getElem h1, List.getElem?_eq_getElem h2] at e
  exact alone_spec h hij (List.getElem?_eq_getElem h1) (List.getElem?_eq_getElem h2) hp hq (by rw [← ep]; exact hi) (by rw [← eq]; exact hj) (Option.some.inj e)
theorem Ret.mk {rs : List (Nat × Option (Bool × Nat))} {H0 : List AObj} {R : AV → List AObj → Prop} {T : List (Nat × AV)} {b : Nat → AV} {H : List (Nat × AObj)} {hb : Nat → AObj} {n : Nat} (ρ : List Nat) {v : AV} {H' : List AObj} {c : Prop} {vs : List AV} (hv : resAll ⟨fT T b, fH H hb⟩ rs = some (c, vs)) (hc : c)
    (ht : leA (tupOf vs) (ren ρ v)) (hs : sameR ρ H hb ρ H') (hal : aloneB ρ H' = true) (hl : H'.length = ρ.length) (han : ancB ρ nn.n = true) (hle : H0.length ≤ H'.length) (hro : roOk H0 H') (hR : R v H') : Ret nn rs H0 R (Am.mk T b H hb n) :=
  ⟨ρ, v, H', c, vs, hR, hv, hc, ht, ⟨fun j => by simp [ren, leA], sameR_spec hs, alone_inj hal (by omega), ancB_spec han, by simp only; omega⟩, hle, hro⟩

theorem zipI_fH : ∀ (l : List AObj) (k j : Nat), fH (zipI k l) gone0 (k + j) = l.getD j .gone
  | [], k, j => by simp [zipI, fH, gone0]
  | o :: l, k, 0 => by simp [zipI, fH]
  | o :: l, k, j + 1 => by
    have h : Nat.beq k (k + (j + 1)) = false := by
      cases e : Nat.beq k (k + (j + 1)) with
      | false => rfl
      | true => have := Nat.eq_of_beq_eq_true e; omega
    simp only [zipI, fH, h]
    have := zipI_fH l (k + 1) j
    rw [show k + 1 + j = k + (j + 1) by omega] at this
    simpa using this
theorem ACall.start {g : FuncId} {fn : Func} {c : Code} {args : List AV} {H : List AObj} {R : AV → List AObj → Prop} {rs : List (Nat × Option (Bool × Nat))} {N nn : Nat} {H1 : List (Nat × AObj)} (hf : P.funcs[g]? = some fn) (hb : fn.body = some c) (hN0 : fn.ntmps = N) (hen : entersB P g = true)
    (hrs : fn.results.toList.mapM (resC P) = some rs) (hN : Nat.ble args.length N = true) (hnn : H.length = nn) (hz : zipI 0 H = H1)
    (h : AWp P N (NN.plain nn) c (RetPost (NN.plain nn) rs H R) (mk [] (args0 args) H1 gone0 nn)) : ACall P g args H R := by
  subst hN0
  subst hnn
  subst hz
  have e : fH (zipI 0 H) gone0 = listH H := by
    funext j
    have := zipI_fH H 0 j
    rw [Nat.zero_add] at this
    rw [this]
    rfl
  refine ACall.intro hf hb hen hrs (Nat.le_of_ble_eq_true hN) ?_
  have h' : AWp P fn.ntmps (NN.plain H.length) c (RetPost (NN.plain H.length) rs H R) ⟨⟨fT [] (args0 args), fH (zipI 0 H) gone0⟩, H.length⟩ := h
  rw [e] at h'
  exact h'
/-- The end, with one outcome. -/
theorem Ret.of {rs : List (Nat × Option (Bool × Nat))} {H0 : List AObj} {R : AV → List AObj → Prop} {T : List (Nat × AV)} {b : Nat → AV} {H : List (Nat × AObj)} {hb : Nat → AObj} {n : Nat} (ρ : List Nat) (v : AV) (H' : List AObj) {c : Prop} {vs : List AV} {e : Exit} (he : e = .ret ∨ e = .normal)
    (hv : resAll ⟨fT T b, fH H hb⟩ rs = some (c, vs)) (hR : R v H') (h : c ∧ leA (tupOf vs) (ren ρ v) ∧ sameR ρ H hb ρ H' ∧ aloneB ρ H' = true ∧ H'.length = ρ.length ∧ ancB ρ nn.n = true ∧ Nat.ble H0.length H'.length = true ∧ roOk H0 H') : RetPost nn rs H0 R e (Am.mk T b H hb n) := by
  obtain ⟨h1, h2, h3, h4, h5, h6, h7, h8⟩ := h
  have := Ret.mk (nn := nn) (n := n) ρ hv h1 h2 h3 h4 h5 h6 (Nat.le_of_ble_eq_true h7) h8 hR
  rcases he with rfl | rfl <;> exact this
theorem Ret.det {rs : List (Nat × Option (Bool × Nat))} {H0 : List AObj} {T : List (Nat × AV)} {b : Nat → AV} {H : List (Nat × AObj)} {hb : Nat → AObj} {n : Nat} (ρ : List Nat) {v : AV} {H' : List AObj} {c : Prop} {vs : List AV} {e : Exit} (he : e = .ret ∨ e = .normal)
    (hv : resAll ⟨fT T b, fH H hb⟩ rs = some (c, vs)) (h : c ∧ leA (tupOf vs) (ren ρ v) ∧ sameR ρ H hb ρ H' ∧ aloneB ρ H' = true ∧ H'.length = ρ.length ∧ ancB ρ nn.n = true ∧ Nat.ble H0.length H'.length = true ∧ roOk H0 H') : RetPost nn rs H0 (Det v H') e (Am.mk T b H hb n) :=
  Ret.of ρ v H' he hv ⟨rfl, rfl⟩ h

/-- A guard that nobody knows. -/
theorem RunAt.part {md : Md} {b : Nat → AV} {hb : Nat → AObj} {K : St → Prop} {n' : Nat} {l : List (Nat × AOper)} {T : List (Nat × AV)} {H : List (Nat × AObj)} {g : Bool} {d : Nat} (hg : fT T b d = .val (.bool g)) (ht : g = true → RunAt P md b hb K n' l T H) (hf : g = false → RunAt P md b hb K n' l T H) : RunAt P md b hb K n' l T H := by
  cases g with
  | true => exact ht rfl
  | false => exact hf rfl
theorem RunAt.plain {n : Nat} {b : Nat → AV} {hb : Nat → AObj} {K : St → Prop} {n' : Nat} {l : List (Nat × AOper)} {T : List (Nat × AV)} {H : List (Nat × AObj)} {r : Prop × List (Nat × AV) × List (Nat × AObj) × Stop} (hr : runL ⟨false, n, [], [], []⟩ b hb l T H True = r)
    (h : Runs P ⟨false, n, [], [], []⟩ b hb K n' r) : RunAt P ⟨false, n, [], [], []⟩ b hb K n' l T H :=
  run_on hr (fun _ => rfl) (fun _ _ => rfl) (fun h => by cases h) h
theorem RunAt.drawn {n : Nat} {R : List (Nat × AObj)} {E : List Nat} {F : List (Nat × Nat)} {b : Nat → AV} {hb : Nat → AObj} {K : St → Prop} {n' : Nat} {l : List (Nat × AOper)} {T : List (Nat × AV)} {H : List (Nat × AObj)} {r : Prop × List (Nat × AV) × List (Nat × AObj) × Stop} (hlt : ltR n R) (hsub : subR H hb R) (hr : runL ⟨true, n, R, E, F⟩ b hb l T H True = r)
    (h : Runs P ⟨true, n, R, E, F⟩ b hb K n' r) : RunAt P ⟨true, n, R, E, F⟩ b hb K n' l T H :=
  run_on hr (fun h => by cases h) (ltR_ok hlt) (fun _ j hj => subR_ok hsub j hj) h
end

section
variable {P : Program} {N : Nat} {nn : NN} {Q : Exit → St → Prop} {x : St} {c : Code}
theorem AWp.once (h : AWp P N nn c (AThen (fun _ => False) Q) x) : AWp P N nn (.loop c) Q x := by
  intro C B a w hn hs
  refine wp_loop_once (wp_mono (h C B a w hn hs) ?_)
  rintro e a' w' ⟨B', x', hq, hs'⟩
  cases e with
  | normal => exact hq.elim
  | exit id => exact ⟨B', x', hq, hs'⟩
  | goto l => exact ⟨B', x', hq, hs'⟩
  | ret => exact ⟨B', x', hq, hs'⟩
  | panic c => exact ⟨B', x', hq, hs'⟩
  | outgrown => exact ⟨B', x', hq, hs'⟩
/-- At most so many rounds, one by one. -/
def ARounds (P : Program) (N : Nat) (nn : NN) (c : Code) (Q : Exit → St → Prop) : Nat → St → Prop
  | 0, _ => False
  | n + 1, x => AWp P N nn c (AThen (ARounds P N nn c Q n) Q) x
theorem ARounds.succ {n : Nat} (h : AWp P N nn c (AThen (ARounds P N nn c Q n) Q) x) : ARounds P N nn c Q (n + 1) x := h
theorem AWp.rounds (n : Nat) (h : ARounds P N nn c Q n x) : AWp P N nn (.loop c) Q x := by
  intro C B a w hn hs
  refine wp_loop_rounds n ?_
  induction n generalizing x B a w with
  | zero => exact h.elim
  | succ n ih =>
    rw [rounds_succ]
    refine wp_mono (h C B a w hn hs) ?_
    rintro e a' w' ⟨B', x', hq, hs'⟩
    cases e with
    | normal => exact ih hq B' a' w' hs'
    | exit id => exact ⟨B', x', hq, hs'⟩
    | goto l => exact ⟨B', x', hq, hs'⟩
    | ret => exact ⟨B', x', hq, hs'⟩
    | panic c => exact ⟨B', x', hq, hs'⟩
    | outgrown => exact ⟨B', x', hq, hs'⟩
end
/-! ### What evaluates -/
theorem hasB_nil (i : Nat) : hasB [] i = false := rfl
theorem hasB_cons (k : Nat) (l : List Nat) (i : Nat) : hasB (k :: l) i = (match Nat.beq k i with | true => true | false => hasB l i) := by
  cases h : Nat.beq k i <;> simp [hasB, h]
theorem leA_self (v : AV) : leA v v = True := eq_true (leA_rfl v)
theorem leAs_self (l : List AV) : leAs l l = True := eq_true (leAs_rfl l)
theorem leO_self (o : AObj) : leO o o = True := eq_true (leO_rfl o)
theorem mk_t (T : List (Nat × AV)) (b : Nat → AV) (H : List (Nat × AObj)) (hb : Nat → AObj) (n d : Nat) : (mk T b H hb n).s.t d = fT T b d := rfl
theorem imp_ff (P : Prop) : (false = true → P) = True := by simp
theorem imp_tt (P : Prop) : (true = true → P) = P := by simp
attribute [go_sem] Int.cast_ofNat_Int eq_self ge_iff_le gt_iff_lt bne_self_eq_false List.zip_nil_left List.zip_nil_right List.zip_cons_cons Int.natCast_add
theorem ba_self (s : ByteArray) : (s == s) = true := by
  show (s.data == s.data) = true
  simp
attribute [go_sem] Int.zero_add Int.add_zero Int.sub_zero
attribute [go_sem] undef ba_self
attribute [go_sem] imp_ff imp_tt noAny_nil noAny_cons noAny_vals noAny_vals0
attribute [go_sem] NN.plain_n mk_t leA leAs leO leOL leA_self leAs_self leO_self ltAll
attribute [go_sem] restr
attribute [go_sem] opd absV resC
attribute [go_sem] TailK.nil numberA runL_nil runL_cons gateL_none gateL_false gateL_true contL_some contL_none Runs.out beq_tt beq_tf beq_ft beq_ff wants stepL simple isFresh isEff hasB_nil hasB_cons lookO Md.look Md.id quiet qMove qPick qUn qBin qEqB qEqP qEqS qEqM qEqF qEqA eqCells eqLeaf qConv qStr qAddr qFld qIxS qIxA qIxV qIxStr qBuild qExt qSlS qSlStr qSlA qLen qLenS qCap qMin qMax qNil qLoad qToStr ints8 int8?
attribute [go_sem] fT fH args0 none0 gone0 listH dput evO rid eids effD effStore effAppend effCopy srcCells idOf fresh cellsA fillA zeros binV intBin strBin unV isShift sepB bounds takeI cutAt minA maxA stopAt Md.U usOf_nil usOf_cons okU noneIn notIn findH
attribute [go_sem] After AThen ABlock keepT subR ltR sameR ancB aloneB roOk resAll resOne tupOf ren renL renO renOL renE asFor asForL setRo newIds newUps oldUps upsOf AObj.own AObj.live zipI appRoom
attribute [go_sem] Value.oneCell' List.map_cons List.map_nil Option.map_some Option.map_none Option.toList Option.isSome Option.isNone List.append_nil List.nil_append List.cons_append List.all_cons List.all_nil Bool.and_true Bool.true_and Bool.and_false Bool.false_and
attribute [go_sem] Bool.or_false Bool.or_true Bool.false_or Bool.true_or cond_true cond_false Bool.false_eq_true Bool.not_true Bool.not_false Option.getD_some Option.getD_none Bool.true_eq_false beq_self_eq_true ite_true ite_false dite_true dite_false if_true if_false
attribute [go_sem] List.getElem?_toArray List.getElem?_cons_zero List.getElem?_cons_succ List.getElem?_nil Option.bind_some Option.bind_none List.size_toArray List.length_cons List.length_nil
attribute [go_sem] List.getD_cons_zero List.getD_cons_succ List.getD_nil List.take_succ_cons List.take_zero List.drop_succ_cons List.drop_zero List.take_nil List.drop_nil List.replicate_succ List.replicate_zero List.flatten_cons List.flatten_nil List.headD_cons List.headD_nil
attribute [go_sem] Nat.add_zero Nat.zero_add and_true true_and and_self decide_true decide_false Int.toNat_natCast Int.toNat_zero Nat.mul_one Nat.one_mul Nat.mul_zero Nat.zero_mul List.mapM_cons List.mapM_nil Nat.sub_zero Nat.sub_self or_true true_or or_false false_or imp_self not_true_eq_false not_false_eq_true
end Go.Am
