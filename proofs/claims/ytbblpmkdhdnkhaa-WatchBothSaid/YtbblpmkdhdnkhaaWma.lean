/- Plain law: the newest entry of each key; maps of lists that are joined, turned, mapped again. -/
import Derived.Test.YtbblpmkdhdnkhaaWm6
import Derived.Test.YtbblpmkdhdnkhaaWm2
namespace Go.Proofs.Ytbblpmkdhdnkhaa
set_option linter.unusedSimpArgs false
set_option linter.unusedVariables false
set_option maxHeartbeats 4000000
open Go Go.Am Go.RowKit
set_option maxRecDepth 100000
theorem nw_irr (a : En) : newerB a a = false := by unfold newerB eqSt laterB; grind
theorem nw_asym (a b : En) : newerB a b = true → newerB b a = false := by unfold newerB eqSt laterB; grind
theorem nw_trans (a b c : En) : newerB a b = true → newerB b c = true → newerB a c = true := by unfold newerB eqSt laterB; grind
theorem nw_neg (a b c : En) : newerB a b = false → newerB b c = false → newerB a c = false := by unfold newerB eqSt laterB; grind
theorem nw_same (a b : En) : newerB a b = false → newerB b a = false → a.st = b.st ∧ a.act = b.act := by
  obtain ⟨a1, a2, a3, ⟨a4, a5⟩, ⟨a6, a7⟩, a8, a9⟩ := a
  obtain ⟨b1, b2, b3, ⟨b4, b5⟩, ⟨b6, b7⟩, b8, b9⟩ := b
  unfold newerB eqSt laterB; simp only [St.mk.injEq]; grind
theorem nw_later (a b : En) : newerB a b = false → laterB a.st b.st = false := by unfold newerB eqSt laterB; grind
/-- The newest of two, the first one if neither is. -/
def mg : Option En → Option En → Option En
  | none, y => y
  | some x, none => some x
  | some x, some y => if newerB y x = true then some y else some x
theorem mg_none (x : Option En) : mg x none = x := by cases x <;> rfl
theorem mg_or {x y : Option En} {z : En} (h : mg x y = some z) : x = some z ∨ y = some z := by
  cases x with
  | none => exact .inr h
  | some x =>
    cases y with
    | none => exact .inl h
    | some y =>
      simp only [mg] at h
      by_cases hb : newerB y x = true
      · rw [if_pos hb] at h; exact .inr h
      · rw [if_neg hb] at h; exact .inl h
theorem mg_assoc (x y z : Option En) : mg (mg x y) z = mg x (mg y z) := by
  cases x with
  | none => rfl
  | some x =>
    cases y with
    | none => rfl
    | some y =>
      cases z with
      | none => rw [mg_none, mg_none]
      | some z =>
        have k1 := nw_neg z y x
        have k2 := nw_trans z y x
        simp only [mg]
        cases h1 : newerB y x <;> cases h2 : newerB z y <;> cases h3 : newerB z x <;> simp_all [mg]
theorem mg_comm {x y : Option En} (h : ∀ a b, x = some a → y = some b → a.st = b.st → a.act = b.act → a = b) : mg x y = mg y x := by
  cases x with
  | none => rw [mg_none]; rfl
  | some x =>
    cases y with
    | none => rfl
    | some y =>
      simp only [mg]
      cases h1 : newerB y x with
      | true => rw [nw_asym y x h1]; rfl
      | false =>
        cases h2 : newerB x y with
        | true => rfl
        | false =>
          obtain ⟨h3, h4⟩ := nw_same x y h2 h1
          rw [h x y rfl rfl h3 h4]
theorem mg_new {x : En} {y : Option En} : ∃ z, mg (some x) y = some z ∧ newerB x z = false := by
  cases y with
  | none => exact ⟨x, rfl, nw_irr x⟩
  | some y =>
    simp only [mg]
    cases h1 : newerB y x with
    | true => exact ⟨y, rfl, nw_asym y x h1⟩
    | false => exact ⟨x, rfl, nw_irr x⟩
/-- The newest entry of a key. -/
def bs : List En → ByteArray → Option En
  | [], _ => none
  | e :: l, k => mg (if e.key = k then some e else none) (bs l k)
theorem bs_app (k : ByteArray) : ∀ l m : List En, bs (l ++ m) k = mg (bs l k) (bs m k)
  | [], _ => rfl
  | e :: l, m => by rw [List.cons_append, bs, bs, bs_app k l m, mg_assoc]
theorem bs_mem {k : ByteArray} {x : En} : ∀ {l : List En}, bs l k = some x → x ∈ l ∧ x.key = k
  | [], h => by cases h
  | e :: l, h => by
    rw [bs] at h
    rcases mg_or h with h | h
    · split at h
      · rename_i hk
        cases h
        exact ⟨List.mem_cons_self, hk⟩
      · cases h
    · exact ⟨List.mem_cons_of_mem _ (bs_mem h).1, (bs_mem h).2⟩
theorem bs_nd {x : En} : ∀ {l : List En}, (l.map (·.key)).Nodup → x ∈ l → bs l x.key = some x
  | [], _, h => by cases h
  | e :: l, hn, h => by
    simp only [List.map_cons, List.nodup_cons] at hn
    rw [bs]
    rcases List.mem_cons.1 h with rfl | h
    · rw [if_pos rfl]
      cases hb : bs l x.key with
      | none => rfl
      | some y => exact absurd ((bs_mem hb).2 ▸ List.mem_map_of_mem (bs_mem hb).1) hn.1
    · rw [if_neg fun e2 => hn.1 (by rw [e2]; exact List.mem_map_of_mem h), bs_nd hn.2 h]
      rfl
/-- Each entry has a newest one of its key, which it isn't newer than. -/
theorem bs_has {x : En} : ∀ {l : List En}, x ∈ l → ∃ z, bs l x.key = some z ∧ newerB x z = false
  | [], h => by cases h
  | e :: l, h => by
    rw [bs]
    rcases List.mem_cons.1 h with rfl | h
    · rw [if_pos rfl]; exact mg_new
    · obtain ⟨z, h1, h2⟩ := bs_has h
      rw [h1]
      by_cases hk : e.key = x.key
      · rw [if_pos hk]
        simp only [mg]
        cases h3 : newerB z e with
        | true => exact ⟨z, rfl, h2⟩
        | false => exact ⟨e, rfl, nw_neg x z e h2 h3⟩
      · rw [if_neg hk]; exact ⟨z, rfl, h2⟩
theorem mp_bs {l : List En} (k : ByteArray) : ∀ n, n ≤ l.length → (lookG k (mpK l n)).bind (fun j => l[j.toNat]?) = bs (l.take n) k
  | 0, _ => by simp [mpK, lookG, bs]
  | n + 1, hn => by
    have hnl : n < l.length := by omega
    have ih := fun k => mp_bs (l := l) k n (by omega)
    have ht : l.take (n + 1) = l.take n ++ [l[n]] := by rw [List.take_add_one, List.getElem?_eq_getElem hnl]; rfl
    have h1 : bs [l[n]] k = if l[n].key = k then some l[n] else none := by rw [bs, bs, mg_none]
    rw [mp_succ hnl, ht, bs_app, h1, ← ih k]
    have hl : ∀ j, lookG l[n].key (mpK l n) = some j → ∃ x, l[j.toNat]? = some x := fun j hj => by
      obtain ⟨q, hq, e1, -, -⟩ := mp_at n (by omega) _ (look_mem hj)
      simp only at e1
      exact ⟨l[q], by rw [e1, show ((q : Int)).toNat = q by omega, List.getElem?_eq_getElem hq]⟩
    have hself : ((n : Int)).toNat = n := by omega
    by_cases hk : l[n].key = k
    · subst hk
      rw [if_pos rfl]
      cases hlk : lookG l[n].key (mpK l n) with
      | none =>
        have e1 : mpN l (mpK l n) l[n] = true := by unfold mpN; rw [hlk]
        rw [if_pos e1, look_upd, if_pos rfl, Option.bind_some, hself, List.getElem?_eq_getElem hnl]
        rfl
      | some j =>
        obtain ⟨x, hx⟩ := hl j hlk
        have e1 : mpN l (mpK l n) l[n] = newerB l[n] x := by unfold mpN; rw [hlk]; simp only [hx]
        rw [e1, Option.bind_some, hx]
        simp only [mg]
        cases hb : newerB l[n] x with
        | true => rw [if_pos rfl, look_upd, if_pos rfl, Option.bind_some, hself, List.getElem?_eq_getElem hnl]; rfl
        | false => rw [if_neg (by decide), hlk, Option.bind_some, hx]; rfl
    · rw [if_neg hk, mg_none]
      split
      · rw [look_upd, if_neg fun e => hk e.symm]
      · rfl
theorem look_has {k : ByteArray} {v : Int} : ∀ {M : List (ByteArray × Int)}, (M.map (·.1)).Nodup → (k, v) ∈ M → lookG k M = some v
  | [], _, h => by cases h
  | p :: M, hn, h => by
    simp only [List.map_cons, List.nodup_cons] at hn
    unfold lookG
    rcases List.mem_cons.1 h with h | h
    · rw [← h, if_pos rfl]
    · rw [if_neg fun e => hn.1 (by rw [← e]; exact List.mem_map_of_mem (f := Prod.fst) h), look_has hn.2 h]
theorem ok_mp (l : List En) : okM l (mpK l l.length) := fun p hp => by
  obtain ⟨j, a, b, -, c⟩ := mp_at l.length (Nat.le_refl _) p hp
  exact ⟨j, a, b, c⟩
theorem map_rise (l : List En) : RiseE (mapE l) := by
  rw [← map_same]; exact (map_inv l.length (Nat.le_refl _)).1
theorem mem_map (l : List En) (x : En) : x ∈ mapE l ↔ bs l x.key = some x := by
  have h2 := (map_inv (l := l) l.length (Nat.le_refl _)).2
  rw [map_same] at h2
  rw [h2.mem_iff]
  have hb := mp_bs (l := l) x.key l.length (Nat.le_refl _)
  rw [List.take_length] at hb
  rw [← hb]
  unfold vM
  rw [List.mem_filterMap]
  constructor
  · rintro ⟨p, hp, hx⟩
    obtain ⟨j, hj, e1, e2⟩ := ok_mp l p hp
    have : l[p.2.toNat]? = some l[j] := by rw [e1, show ((j : Int)).toNat = j by omega, List.getElem?_eq_getElem hj]
    rw [this] at hx
    cases hx
    rw [e2, look_has (v := p.2) (mp_keys l.length (Nat.le_refl _)) hp, Option.bind_some, this]
  · intro h
    cases hl : lookG x.key (mpK l l.length) with
    | none => rw [hl] at h; cases h
    | some j =>
      rw [hl, Option.bind_some] at h
      exact ⟨_, look_mem hl, h⟩
theorem rise_nd {l : List En} (h : RiseE l) : (l.map (·.key)).Nodup := by
  refine List.Pairwise.map _ (fun a b hab => ?_) h
  intro e
  rw [e, ltK_irr] at hab
  cases hab
theorem rise_ext {l m : List En} (hl : RiseE l) (hm : RiseE m) (h : ∀ x, x ∈ l ↔ x ∈ m) : l = m := by
  have nd : ∀ {l : List En}, RiseE l → l.Nodup := fun h => h.imp fun {a b} hab e => by rw [e, ltK_irr] at hab; cases hab
  refine List.Perm.eq_of_pairwise (le := fun x y : En => ltK x.key y.key = true) (fun a b _ _ h1 h2 => ?_) hl hm ((List.perm_ext_iff_of_nodup (nd hl) (nd hm)).2 h)
  rw [ltK_asym h1] at h2
  cases h2
theorem bs_map (l : List En) (k : ByteArray) : bs (mapE l) k = bs l k := by
  cases h : bs l k with
  | some x =>
    obtain ⟨-, rfl⟩ := bs_mem h
    exact bs_nd (rise_nd (map_rise l)) ((mem_map l x).2 h)
  | none =>
    cases h2 : bs (mapE l) k with
    | none => rfl
    | some x =>
      obtain ⟨h3, rfl⟩ := bs_mem h2
      rw [(mem_map l x).1 h3] at h
      cases h
theorem map_ext {l m : List En} (h : ∀ k, bs l k = bs m k) : mapE l = mapE m :=
  rise_ext (map_rise l) (map_rise m) fun x => by rw [mem_map, mem_map, h]
theorem map_map (l : List En) : mapE (mapE l) = mapE l := map_ext fun k => bs_map l k
theorem map_both (l m : List En) : mapE (mapE l ++ mapE m) = mapE (l ++ m) := map_ext fun k => by rw [bs_app, bs_app, bs_map, bs_map]
theorem map_turn {l m : List En} (h : ∀ x ∈ l, ∀ y ∈ m, x.key = y.key → x.st = y.st → x.act = y.act → x = y) : mapE (mapE m ++ mapE l) = mapE (mapE l ++ mapE m) := map_ext fun k => by
  rw [bs_app, bs_app, bs_map, bs_map]
  refine (mg_comm fun a b ha hb h1 h2 => ?_).symm
  obtain ⟨a1, a2⟩ := bs_mem ha
  obtain ⟨b1, b2⟩ := bs_mem hb
  exact h a a1 b b1 (a2.trans b2.symm) h1 h2
theorem first_has {l : List En} {z : En} (hn : (l.map (·.key)).Nodup) (hz : z ∈ l) : ∃ j, ∃ h : j < l.length, firstK l z.key = (j : Int) ∧ l[j] = z := by
  rcases idxI_cases l (fun e => decide (e.key = z.key)) with ⟨-, h⟩ | ⟨j, hj, h1, h2⟩
  · have := h z hz
    simp at this
  · exact ⟨j, hj, h1, key_inj hn (List.getElem_mem hj) hz (of_decide_eq_true h2)⟩
theorem fellP_no {is : List En} {x z : En} (hn : (is.map (·.key)).Nodup) (hz : z ∈ is) (hk : z.key = x.key) (h : newerB x z = false) : fellP is x = false := by
  obtain ⟨j, hj, h1, h2⟩ := first_has hn hz
  rw [hk] at h1
  unfold fellP
  rw [if_neg (by rw [h1]; omega), h1, show ((j : Int)).toNat = j by omega, List.getElem?_eq_getElem hj, h2]
  exact h
theorem idxI_none {α : Type} {l : List α} {p : α → Bool} (h : ∀ x ∈ l, p x = false) : idxI l p = -1 := idxI_no fun q hq => h _ (List.getElem_mem hq)
theorem fell_both (l m : List En) : fellR (mapE l) (mapE (mapE l ++ mapE m)) = .tup [Str ⟨#[]⟩, Bo false] := by
  refine fellR_no (idxI_none fun x hx => ?_)
  obtain ⟨z, h1, h2⟩ := bs_has (l := mapE l ++ mapE m) (List.mem_append_left _ hx)
  obtain ⟨-, h3⟩ := bs_mem h1
  exact fellP_no (rise_nd (map_rise _)) ((mem_map _ z).2 (by rw [h3]; exact h1)) h3 h2
theorem fell_self (l : List En) : fellI (mapE l) (mapE l) = -1 := idxI_none fun x hx => fellP_no (rise_nd (map_rise l)) hx rfl (nw_irr x)
theorem alike_self (l : List En) : alikeB l l = true := decide_eq_true rfl
theorem map_len (l : List En) : (mapE l).length ≤ l.length := by rw [← map_same]; exact mapR_len l.length (Nat.le_refl _)
theorem map_mem {l : List En} {x : En} (h : x ∈ mapE l) : x ∈ l := (bs_mem ((mem_map l x).1 h)).1
end Go.Proofs.Ytbblpmkdhdnkhaa
