/- Own theory, no program in sight: calls by contract. -/
import Derived.Test.YteggjhihpjjloaaAm13
namespace Go.Am
set_option linter.unusedSimpArgs false
set_option linter.unusedVariables false
set_option maxHeartbeats 4000000
open Go Go.RowKit
set_option linter.unusedVariables false
set_option linter.unusedSimpArgs false
section
variable {P : Program} {B : BM} {w : World} {t : Nat → AV} {a : Act}

theorem newIds_get : ∀ (n f i : Nat), (newIds f n)[i]? = if i < n then some (f + i) else none
  | 0, f, i => by simp [newIds]
  | n + 1, f, 0 => by simp [newIds]
  | n + 1, f, i + 1 => by
    simp only [newIds, List.getElem?_cons_succ, newIds_get n (f + 1) i]
    by_cases h : i < n
    · rw [if_pos h, if_pos (by omega)]; congr 1; omega
    · rw [if_neg h, if_neg (by omega)]
theorem newIds_len : ∀ (n f : Nat), (newIds f n).length = n
  | 0, f => rfl
  | n + 1, f => by simp [newIds, newIds_len n]
theorem newUps_mem (ρ : List Nat) : ∀ (l : List AObj) (f k : Nat) (o : AObj), (k, o) ∈ newUps ρ f l ↔ ∃ i q, l[i]? = some q ∧ k = f + i ∧ o = renO ρ q
  | [], f, k, o => by simp [newUps]
  | q :: l, f, k, o => by
    simp only [newUps, List.mem_cons, Prod.mk.injEq, newUps_mem ρ l (f + 1) k o]
    constructor
    · rintro (⟨rfl, rfl⟩ | ⟨i, q', h1, rfl, rfl⟩)
      · exact ⟨0, q, rfl, rfl, rfl⟩
      · exact ⟨i + 1, q', by simpa using h1, by omega, rfl⟩
    · rintro ⟨i, q', h1, rfl, rfl⟩
      cases i with
      | zero => simp at h1; subst h1; exact .inl ⟨rfl, rfl⟩
      | succ i => exact .inr ⟨i, q', by simpa using h1, by omega, rfl⟩
theorem oldUps_mem (ρ : List Nat) : ∀ (is : List Nat) (ps qs : List AObj) (k : Nat) (o : AObj), (k, o) ∈ oldUps ρ is ps qs ↔ ∃ (i : Nat) (p q : AObj), is[i]? = some k ∧ ps[i]? = some p ∧ qs[i]? = some q ∧ p.own = true ∧ o = renO ρ q
  | [], ps, qs, k, o => by simp [oldUps]
  | i :: is, [], qs, k, o => by simp [oldUps]
  | i :: is, p :: ps, [], k, o => by simp [oldUps]
  | i :: is, p :: ps, q :: qs, k, o => by
    have ih := oldUps_mem ρ is ps qs k o
    simp only [oldUps]
    cases hp : p.own with
    | true =>
      simp only [List.mem_cons, Prod.mk.injEq, ih]
      constructor
      · rintro (⟨rfl, rfl⟩ | ⟨i', p', q', h1, h2, h3, h4, rfl⟩)
        · exact ⟨0, p, q, rfl, rfl, rfl, hp, rfl⟩
        · exact ⟨i' + 1, p', q', by simpa using h1, by simpa using h2, by simpa using h3, h4, rfl⟩
      · rintro ⟨i', p', q', h1, h2, h3, h4, rfl⟩
        cases i' with
        | zero => simp at h1 h2 h3; subst h1; subst h2; subst h3; exact .inl ⟨rfl, rfl⟩
        | succ i' => exact .inr ⟨i', p', q', by simpa using h1, by simpa using h2, by simpa using h3, h4, rfl⟩
    | false =>
      simp only [ih]
      constructor
      · rintro ⟨i', p', q', h1, h2, h3, h4, rfl⟩
        exact ⟨i' + 1, p', q', by simpa using h1, by simpa using h2, by simpa using h3, h4, rfl⟩
      · rintro ⟨i', p', q', h1, h2, h3, h4, rfl⟩
        cases i' with
        | zero => simp at h1 h2 h3; subst h2; rw [hp] at h4; cases h4
        | succ i' => exact ⟨i', p', q', by simpa using h1, by simpa using h2, by simpa using h3, h4, rfl⟩
theorem updH_cases (h : Nat → AObj) : ∀ (l : List (Nat × AObj)) (k : Nat), (k, updH h l k) ∈ l ∨ (k ∉ l.map (·.1) ∧ updH h l k = h k)
  | [], k => .inr ⟨by simp, rfl⟩
  | p :: l, k => by
    simp only [updH]
    by_cases e : k = p.1
    · subst e; rw [upd_same]; exact .inl (by simp)
    · rw [upd_ne _ _ e]
      rcases updH_cases h l k with h1 | ⟨h1, h2⟩
      · exact .inl (List.mem_cons_of_mem _ h1)
      · exact .inr ⟨by simp only [List.map_cons, List.mem_cons, not_or]; exact ⟨e, h1⟩, h2⟩
theorem asForL_get : ∀ (H os : List AObj) (i : Nat), H.length = os.length → (asForL H os)[i]? = match H[i]?, os[i]? with | some p, some o => some (asFor p o) | _, _ => none
  | [], [], i, _ => by simp [asForL]
  | p :: ps, o :: os, 0, h => by simp [asForL]
  | p :: ps, o :: os, i + 1, h => by
    simp only [asForL, List.getElem?_cons_succ]
    exact asForL_get ps os i (by simpa using h)
  | [], o :: os, i, h => by simp at h
  | p :: ps, [], i, h => by simp at h
theorem renOL_get (ρ : List Nat) : ∀ (H : List AObj) (i : Nat), (renOL ρ H)[i]? = (H[i]?).map (renO ρ)
  | [], i => by simp [renOL]
  | p :: ps, 0 => by simp [renOL]
  | p :: ps, i + 1 => by simp only [renOL, List.getElem?_cons_succ]; exact renOL_get ρ ps i
theorem alone_spec : ∀ {ids : List Nat} {H : List AObj}, aloneB ids H = true → ∀ {i j x y : Nat} {p q : AObj}, i ≠ j → ids[i]? = some x → ids[j]? = some y → H[i]? = some p → H[j]? = some q → p.own = true → q.live = true → x ≠ y
  | [], _, _, i, j, x, y, p, q, _, h1, _, _, _, _, _ => by simp at h1
  | _ :: _, [], _, i, j, x, y, p, q, _, _, _, h1, _, _, _ => by simp at h1
  | a :: is, r :: ps, h, i, j, x, y, p, q, hij, h1, h2, h3, h4, ho, hl => by
    simp only [aloneB, Bool.and_eq_true, List.all_eq_true] at h
    obtain ⟨hh, ht⟩ := h
    have zip : ∀ {k : Nat} {z : Nat} {s : AObj}, is[k]? = some z → ps[k]? = some s → (z, s) ∈ is.zip ps := fun {k z s} e1 e2 => by
      refine List.mem_of_getElem? (i := k) ?_
      rw [List.getElem?_zip_eq_some]
      exact ⟨e1, e2⟩
    cases i with
    | zero =>
      cases j with
      | zero => exact absurd rfl hij
      | succ j =>
        simp at h1 h2 h3 h4
        subst h1; subst h3
        have := hh (y, q) (zip h2 h4)
        intro e
        subst e
        simp [ho, hl, AObj.own_live ho] at this
    | succ i =>
      cases j with
      | zero =>
        simp at h1 h2 h3 h4
        subst h2; subst h4
        have := hh (x, p) (zip h1 h3)
        intro e
        subst e
        simp [ho, hl, AObj.own_live ho] at this
      | succ j => exact alone_spec ht (i := i) (j := j) (by omega) (by simpa using h1) (by simpa using h2) (by simpa using h3) (by simpa using h4) ho hl
theorem setRo_live (o : AObj) : (setRo o).live = o.live := by cases o <;> rfl
theorem setRo_own (o : AObj) : (setRo o).own = false := by cases o <;> rfl
theorem OR_setRo {o : AObj} {p : Option (Nat × Nat)} (h : OR B o p w) : OR B (setRo o) p w := by
  cases o with
  | gone => trivial
  | cells ro cs =>
    rcases h with h | ⟨b, n, arr, T, fz, h1, h2, h3, h4, h6, h5⟩
    · exact .inl h
    · exact .inr ⟨b, n, arr, T, fz, h1, h2, h3, h4, (fun i a x ha hx => (h6 i a x ha hx).imp (fun h => ⟨rfl, h.2⟩) id), fun e => by cases e⟩
  | map ro es => exact h
theorem OR_asFor {p o : AObj} {q : Option (Nat × Nat)} (h : OR B o q w) : OR B (asFor p o) q w := by
  cases p with
  | gone => trivial
  | cells ro cs => cases ro <;> first | exact h | exact OR_setRo h
  | map ro cs => cases ro <;> first | exact h | exact OR_setRo h
theorem asFor_own {p o : AObj} (h : p.own = true) : asFor p o = o := by
  cases p with
  | gone => cases h
  | cells ro cs => cases ro <;> first | rfl | cases h
  | map ro cs => cases ro <;> first | rfl | cases h
theorem asFor_live {p o : AObj} (h : (asFor p o).live = true) : o.live = true := by
  cases p with
  | gone => cases h
  | cells ro cs => cases ro <;> simpa [asFor, setRo_live] using h
  | map ro cs => cases ro <;> simpa [asFor, setRo_live] using h
theorem Kept.mono' {m m' : Nat → Prop} {a b : World} (h : Kept m a b) (k : ∀ x, m x → m' x) : Kept m' a b := ⟨h.os, h.tape, h.output, h.size, fun x hx hn => h.block x hx fun e => hn (k x e)⟩
theorem VR_le {B B' : BM} (h : BLe B B') {x : AV} {v : Value} (e : VR B x v) : VR B' x v := e.mono h

theorem listH_get (l : List AObj) (i : Nat) {o : AObj} (h : l[i]? = some o) : listH l i = o := by simp [listH, List.getD_eq_getElem?_getD, h]
theorem listH_none (l : List AObj) (i : Nat) (h : l.length ≤ i) : listH l i = .gone := by simp [listH, List.getD_eq_getElem?_getD, List.getElem?_eq_none h]

theorem call_ok {h : Nat → AObj} (hr : HR B h w) {g : FuncId} {xs : List AV} {ra : Array Value} (hx : VRs B xs ra.toList) {f : Nat} {ids : List Nat} {out : AV → List (Nat × AObj) → Prop}
    (hs : CallSpec P g xs f ids (ids.map h) out) (hf : ∀ k, f ≤ k → k < f + 16 → B k = none) :
    Calls P g ra w fun e w' => ∃ v ups r, e = .returned r ∧ out v ups ∧ EffRes B h w f v ups r w' := by
  obtain ⟨args, H, R, hcall, hargs, hlen, hmatch, halone, hidlt, hcnt, hout⟩ := hs
  -- the callee's footprint
  have fit : ∀ (i : Nat) (p : AObj), H[i]? = some p → ∃ x, ids[i]? = some x ∧ leO (asFor p (h x)) (renO ids p) := by
    intro i p hp
    have hi : i < ids.length := by rw [hlen]; exact (List.getElem?_eq_some_iff.1 hp).1
    obtain ⟨o, e, e'⟩ := leOL_get hmatch i (q := renO ids p) (by rw [renOL_get, hp]; rfl)
    rw [asForL_get _ _ _ (by simp [hlen]), hp] at e
    simp only [List.getElem?_map, Option.map_some] at e
    cases hx : ids[i]? with
    | none => rw [List.getElem?_eq_none_iff] at hx; omega
    | some x => rw [hx] at e; simp only [Option.map_some, Option.some.injEq] at e; rw [← e] at e'; exact ⟨x, rfl, e'⟩
  have ownUp : ∀ (i : Nat) (p : AObj), H[i]? = some p → p.own = true → ∃ x, ids[i]? = some x ∧ (h x).own = true := by
    intro i p hp ho
    obtain ⟨x, h1, h2⟩ := fit i p hp
    exact ⟨x, h1, by rw [asFor_own ho] at h2; exact leO_own h2 (by simpa using ho)⟩
  have liveUp : ∀ (i : Nat) (p : AObj), H[i]? = some p → p.live = true → ∃ x, ids[i]? = some x ∧ (h x).live = true := by
    intro i p hp ho
    obtain ⟨x, h1, h2⟩ := fit i p hp
    exact ⟨x, h1, asFor_live (p := p) (leO_live h2 (by simpa using ho))⟩
  have hget : ∀ (i : Nat), (listH H i).live = true → ∃ p : AObj, H[i]? = some p ∧ listH H i = p := by
    intro i hl
    cases hp : H[i]? with
    | none => rw [listH_none _ _ (by rw [List.getElem?_eq_none_iff] at hp; exact hp)] at hl; cases hl
    | some p => exact ⟨p, rfl, listH_get _ _ hp⟩
  have hr' : HR (under ids B) (listH H) w := by
    refine ⟨fun i => ?_, fun i j b n m hij hi hj hbi hbj => ?_⟩
    · cases hp : H[i]? with
      | none => rw [listH_none _ _ (by rw [List.getElem?_eq_none_iff] at hp; exact hp)]; trivial
      | some p =>
        rw [listH_get _ _ hp]
        obtain ⟨x, h1, h2⟩ := fit i p hp
        have h3 : OR B (renO ids p) (B x) w := leO_ok h2 (OR_asFor (hr.obj x))
        rw [OR_ren] at h3
        simpa [under, h1] using h3
    · obtain ⟨p, hp, ep⟩ := hget i (AObj.own_live hi)
      obtain ⟨q, hq, eq⟩ := hget j hj
      rw [ep] at hi
      rw [eq] at hj
      obtain ⟨x, h1, h2⟩ := ownUp i p hp hi
      obtain ⟨y, h3, h4⟩ := liveUp j q hq hj
      simp only [under, h1, h3, Option.bind_some] at hbi hbj
      exact hr.apart x y b n m (alone_spec halone hij h1 h3 hp hq hi hj) h2 h4 hbi hbj
  refine (hcall.2 (under ids B) w ra ((VRs_ren ids B args _).1 (leAs_ok _ hargs hx)) hr' (fun i hi => by simp [under, List.getElem?_eq_none (show ids.length ≤ i by omega)])).mono ?_
  rintro e w' ⟨v, H', rv, Bf, rfl, hR, hHl, hB0, hv, hr2, hfr, hkept, hmine, hro⟩
  have hcnt' := hcnt v H' hR
  generalize hcn : H'.length - H.length = cnt at *
  refine ⟨_, _, rv, rfl, hout v H' hR hHl, ?_⟩
  rw [hcn]
  generalize hρ : ids ++ newIds f cnt = ρ
  have ups_eq : upsOf ids f H H' = newUps ρ f (H'.drop H.length) ++ oldUps ρ ids H H' := by simp only [upsOf, hcn, hρ]
  let B' : BM := fun k => if f ≤ k ∧ k < f + cnt then Bf (H.length + (k - f)) else B k
  have hBle : BLe B B' := fun k p hk => by
    have : ¬ (f ≤ k ∧ k < f + cnt) := fun hh => by rw [hf k hh.1 (by omega)] at hk; cases hk
    simp only [B', if_neg this]; exact hk
  have rho_old : ∀ (i x : Nat), ids[i]? = some x → ρ[i]? = some x := fun i x hi => by
    rw [← hρ, List.getElem?_append_left (List.getElem?_eq_some_iff.1 hi).1]; exact hi
  have rho_new : ∀ i, H.length ≤ i → i < H'.length → ρ[i]? = some (f + (i - H.length)) := fun i h1 h2 => by
    rw [← hρ, List.getElem?_append_right (by omega), newIds_get, if_pos (by omega)]; congr 2; omega
  have Bnew : ∀ i, H.length ≤ i → i < H'.length → B' (f + (i - H.length)) = Bf i := fun i h1 h2 => by
    simp only [B']
    rw [if_pos (by omega)]
    congr 1
    omega
  have Bold : ∀ (i x : Nat) (p : Nat × Nat), ids[i]? = some x → Bf i = some p → B' x = some p := fun i x p hi hb => by
    have hil : i < H.length := by rw [← hlen]; exact (List.getElem?_eq_some_iff.1 hi).1
    rw [hB0 i hil] at hb
    simp only [under, hi, Option.bind_some] at hb
    exact hBle x p hb
  have hle2 : BLe Bf (under ρ B') := fun i p hb => by
    rcases Nat.lt_or_ge i H.length with h1 | h1
    · have hx : ∃ x, ids[i]? = some x := ⟨ids[i]'(by omega), by simp [hlen, h1]⟩
      obtain ⟨x, hx⟩ := hx
      simp only [under, rho_old i x hx, Option.bind_some]
      exact Bold i x p hx hb
    · rcases Nat.lt_or_ge i H'.length with h2 | h2
      · simp only [under, rho_new i h1 h2, Option.bind_some]
        rw [Bnew i h1 h2]; exact hb
      · rw [hfr i h2] at hb; cases hb
  -- the three kinds of ids
  have kinds : ∀ k, (∃ i, H.length ≤ i ∧ i < H'.length ∧ k = f + (i - H.length) ∧ updH h (upsOf ids f H H') k = renO ρ (listH H' i)) ∨
      (∃ (i : Nat) (p : AObj), ids[i]? = some k ∧ H[i]? = some p ∧ p.own = true ∧ i < H'.length ∧ updH h (upsOf ids f H H') k = renO ρ (listH H' i)) ∨
      ((¬ (f ≤ k ∧ k < f + cnt)) ∧ (∀ (i : Nat) (p : AObj), ids[i]? = some k → H[i]? = some p → p.own = false) ∧ updH h (upsOf ids f H H') k = h k) := by
    intro k
    rcases updH_cases h (upsOf ids f H H') k with h1 | ⟨h1, h2⟩
    · generalize updH h (upsOf ids f H H') k = o at *
      rw [ups_eq] at h1
      rcases List.mem_append.1 h1 with h1 | h1
      · obtain ⟨i, q, h2, rfl, rfl⟩ := (newUps_mem ρ _ f k o).1 h1
        rw [List.getElem?_drop] at h2
        have := (List.getElem?_eq_some_iff.1 h2).1
        exact .inl ⟨H.length + i, by omega, this, by omega, by rw [listH_get _ _ h2]⟩
      · obtain ⟨i, p, q, h2, h3, h4, h5, rfl⟩ := (oldUps_mem ρ ids H H' k o).1 h1
        exact .inr (.inl ⟨i, p, h2, h3, h5, (List.getElem?_eq_some_iff.1 h4).1, by rw [listH_get _ _ h4]⟩)
    · refine .inr (.inr ⟨fun hh => h1 ?_, fun i p h3 h4 => ?_, h2⟩)
      · rw [ups_eq, List.map_append]
        refine List.mem_append_left _ (List.mem_map.2 ⟨(k, renO ρ (listH H' (H.length + (k - f)))), (newUps_mem ρ _ f k _).2 ⟨k - f, listH H' (H.length + (k - f)), ?_, by omega, rfl⟩, rfl⟩)
        have hlt : H.length + (k - f) < H'.length := by omega
        rw [List.getElem?_drop, listH_get H' _ (List.getElem?_eq_getElem hlt)]
        exact List.getElem?_eq_getElem hlt
      · cases ho : p.own with
        | false => rfl
        | true =>
          exfalso
          refine h1 ?_
          rw [ups_eq, List.map_append]
          have hil : i < H'.length := by have := (List.getElem?_eq_some_iff.1 h4).1; omega
          exact List.mem_append_right _ (List.mem_map.2 ⟨(k, renO ρ (listH H' i)), (oldUps_mem ρ ids H H' k _).2 ⟨i, p, listH H' i, h3, h4, by rw [listH_get H' _ (List.getElem?_eq_getElem hil)]; exact List.getElem?_eq_getElem hil, ho, rfl⟩, rfl⟩)
  have mineUp : ∀ b, Mine (under ids B) (listH H) w b → Mine B h w b := by
    rintro b (hb | ⟨i, n, hi, hbi⟩)
    · exact .inl hb
    · obtain ⟨p, hp, ep⟩ := hget i (AObj.own_live hi)
      rw [ep] at hi
      obtain ⟨x, h1, h2⟩ := ownUp i p hp hi
      simp only [under, h1, Option.bind_some] at hbi
      exact .inr ⟨x, n, h2, hbi⟩
  -- a block of the callee's is none of those that were left alone
  have mineNot : ∀ {b k n}, Mine (under ids B) (listH H) w b → (h k).live = true → B k = some (b, n) → (∀ (i : Nat) (p : AObj), ids[i]? = some k → H[i]? = some p → p.own = false) → False := by
    rintro b k n (hb | ⟨i, m, hi, hbi⟩) hl hbk hno
    · have e1 := hr.obj k
      rw [hbk] at e1
      have := e1.block hl
      omega
    · obtain ⟨p, hp, ep⟩ := hget i (AObj.own_live hi)
      rw [ep] at hi
      obtain ⟨x, h1, h2⟩ := ownUp i p hp hi
      simp only [under, h1, Option.bind_some] at hbi
      by_cases e : x = k
      · subst e
        have := hno i p h1 hp
        rw [hi] at this
        cases this
      · exact hr.apart x k b m n e h2 hl hbi hbk
  have Bkeep : ∀ k, ¬ (f ≤ k ∧ k < f + cnt) → B' k = B k := fun k hk => by simp only [B', if_neg hk]
  -- live, not owned, behind the call: as it was; so neither new nor owned
  have roNot : ∀ (i : Nat), (listH H' i).live = true → (listH H' i).own = false → (H.length ≤ i → False) ∧ ∀ (p : AObj), H[i]? = some p → p.own = false := by
    intro i hl ho
    have e := hro i hl ho
    refine ⟨fun hi => ?_, fun p hp => ?_⟩
    · rw [e, listH_none _ _ hi] at hl; cases hl
    · rw [e, listH_get _ _ hp] at ho; exact ho
  refine ⟨B', hBle, (VR_ren ρ B' v rv).2 (hv.mono hle2), ⟨fun k => ?_, fun j k b n m hjk hj hl hbj hbk => ?_⟩, hkept.trans (Kept.refl (fun _ => False) w') (fun _ _ hh => hh.elim) |>.mono' mineUp, fun k b n hk hb => ?_, fun k hk => ?_⟩
  · rcases kinds k with ⟨i, h1, h2, rfl, e⟩ | ⟨i, p, h1, h2, h3, h4, e⟩ | ⟨h1, h2, e⟩
    · rw [e, Bnew i h1 h2, OR_ren]; exact (hr2.obj i).mono hle2
    · rw [e, OR_ren]
      have hil : i < H.length := (List.getElem?_eq_some_iff.1 h2).1
      have : B' k = Bf i := by
        rw [hB0 i hil]
        simp only [under, h1, Option.bind_some]
        exact Bkeep k (by have := hidlt k (List.mem_of_getElem? h1); omega)
      rw [this]
      exact (hr2.obj i).mono hle2
    · rw [e, Bkeep k h1]
      refine ((hr.obj k).mono hBle).congr fun hl b n hb => hkept.block b ?_ fun hm => mineNot hm hl hb h2
      have e1 := hr.obj k
      rw [hb] at e1
      exact e1.block hl
  · have cal : ∀ {j : Nat}, (updH h (upsOf ids f H H') j).live = true → ∀ {b n}, B' j = some (b, n) →
        (∃ i, updH h (upsOf ids f H H') j = renO ρ (listH H' i) ∧ Bf i = some (b, n) ∧ ((∃ p : AObj, ids[i]? = some j ∧ H[i]? = some p ∧ p.own = true) ∨ (H.length ≤ i ∧ j = f + (i - H.length)))) ∨
        (¬ (f ≤ j ∧ j < f + cnt) ∧ (∀ (i : Nat) (p : AObj), ids[i]? = some j → H[i]? = some p → p.own = false) ∧ updH h (upsOf ids f H H') j = h j ∧ B j = some (b, n)) := by
      intro j hl b n hb
      rcases kinds j with ⟨i, h1, h2, rfl, e⟩ | ⟨i, p, h1, h2, h3, h4, e⟩ | ⟨h1, h2, e⟩
      · exact .inl ⟨i, e, by rw [Bnew i h1 h2] at hb; exact hb, .inr ⟨h1, rfl⟩⟩
      · refine .inl ⟨i, e, ?_, .inl ⟨p, h1, h2, h3⟩⟩
        have hil : i < H.length := (List.getElem?_eq_some_iff.1 h2).1
        rw [hB0 i hil]
        simp only [under, h1, Option.bind_some]
        rw [← Bkeep j (by have := hidlt j (List.mem_of_getElem? h1); omega)]
        exact hb
      · exact .inr ⟨h1, h2, e, by rw [Bkeep j h1] at hb; exact hb⟩
    rcases cal (AObj.own_live hj) hbj with ⟨i, e, hbi, ki⟩ | ⟨h1, h2, e, hb1⟩ <;> rcases cal hl hbk with ⟨i', e', hbi', ki'⟩ | ⟨h1', h2', e', hb1'⟩
    · rw [e, renO_own] at hj
      rw [e', renO_live] at hl
      refine hr2.apart i i' b n m (fun hii => hjk ?_) hj hl hbi hbi'
      subst hii
      rcases ki with ⟨p, k1, k2, k3⟩ | ⟨k1, k2⟩ <;> rcases ki' with ⟨p', k1', k2', k3'⟩ | ⟨k1', k2'⟩
      · rw [k1] at k1'; cases k1'; rfl
      · have := (List.getElem?_eq_some_iff.1 k2).1; omega
      · have := (List.getElem?_eq_some_iff.1 k2').1; omega
      · rw [k2, k2']
    · rw [e, renO_own] at hj
      rw [e'] at hl
      exact mineNot (hmine i b n hj hbi) hl hb1' h2'
    · rw [e] at hj
      rw [e', renO_live] at hl
      cases ho : (listH H' i').own with
      | true => exact mineNot (hmine i' b m ho hbi') (AObj.own_live hj) hb1 h2
      | false =>
        obtain ⟨r1, r2⟩ := roNot i' hl ho
        rcases ki' with ⟨p', k1', k2', k3'⟩ | ⟨k1', k2'⟩
        · rw [r2 p' k2'] at k3'; cases k3'
        · exact r1 k1'
    · rw [e] at hj
      rw [e'] at hl
      exact hr.apart j k b n m hjk hj hl hb1 hb1'
  · rcases kinds k with ⟨i, h1, h2, rfl, e⟩ | ⟨i, p, h1, h2, h3, h4, e⟩ | ⟨h1, h2, e⟩
    · rw [e, renO_own] at hk
      rw [Bnew i h1 h2] at hb
      exact mineUp b (hmine i b n hk hb)
    · obtain ⟨x, e1, e2⟩ := ownUp i p h2 h3
      rw [h1] at e1
      cases e1
      rw [Bkeep k (by have := hidlt k (List.mem_of_getElem? h1); omega)] at hb
      exact .inr ⟨k, n, e2, hb⟩
    · rw [e] at hk
      rw [Bkeep k h1] at hb
      exact .inr ⟨k, n, hk, hb⟩
  · by_cases hh : f ≤ k ∧ k < f + cnt
    · right; omega
    · rw [Bkeep k hh] at hk; exact .inl hk
end
end Go.Am
