/- Plain: in whatever order certificates are buried, the graves have the same Stamps, the latest Act, the least Age. -/
import Derived.Test.YtgjimlgofakbpaaGb7
namespace Go.Proofs.Ytgjimlgofakbpaa
set_option linter.unusedSimpArgs false
set_option linter.unusedVariables false
set_option maxHeartbeats 4000000
open Go Go.Am Go.RowKit
theorem rise_ext : ∀ {a b : List ByteArray}, a.Pairwise (fun x y => ltK x y = true) → b.Pairwise (fun x y => ltK x y = true) → (∀ x, x ∈ a ↔ x ∈ b) → a = b
  | [], [], _, _, _ => rfl
  | [], y :: b, _, _, h => by have := (h y).2 (by simp); cases this
  | x :: a, [], _, _, h => by have := (h x).1 (by simp); cases this
  | x :: a, y :: b, ha, hb, h => by
    rw [List.pairwise_cons] at ha hb
    have e : x = y := by
      rcases List.mem_cons.1 ((h x).1 (by simp)) with e | h1
      · exact e
      · rcases List.mem_cons.1 ((h y).2 (by simp)) with e | h2
        · exact e.symm
        · have := ltK_asym (ha.1 y h2); rw [hb.1 x h1] at this; cases this
    subst e
    have hn : ∀ {l : List ByteArray}, (∀ z ∈ l, ltK x z = true) → x ∉ l := fun hl hx => by have := hl x hx; rw [ltK_irr] at this; cases this
    rw [rise_ext ha.2 hb.2 fun z => ?_]
    constructor
    · intro hz
      rcases List.mem_cons.1 ((h z).1 (List.mem_cons_of_mem _ hz)) with rfl | h1
      · exact absurd hz (hn ha.1)
      · exact h1
    · intro hz
      rcases List.mem_cons.1 ((h z).2 (List.mem_cons_of_mem _ hz)) with rfl | h1
      · exact absurd hz (hn hb.1)
      · exact h1
theorem st_eq {a b : St} (h1 : laterB a b = false) (h2 : laterB b a = false) : a = b := by
  obtain ⟨ac, az⟩ := a
  obtain ⟨bc, bs⟩ := b
  simp only [laterB] at h1 h2
  by_cases hc : ac = bc
  · subst hc
    simp at h1 h2
    have : az = bs := by omega
    subst this; rfl
  · have hc' : ¬ bc = ac := fun h => hc h.symm
    simp [hc, hc'] at h1 h2
    omega
theorem st_up {a b c : St} (h1 : laterB a b = false) (h2 : laterB c b = true) : laterB a c = false := by
  unfold laterB at *
  grind
theorem eqSt_iff {a b : St} : eqSt a b = true ↔ a = b := by
  obtain ⟨ac, az⟩ := a
  obtain ⟨bc, bs⟩ := b
  simp [eqSt]
theorem bury_put {l : List PE} (h : Ue.Rise l) (k : ByteArray) (v : En) : (∀ p ∈ Ue.putP l k v, p = ⟨k, v⟩ ∨ (p ∈ l ∧ p.key ≠ k)) ∧ Ue.hasP' (Ue.putP l k v) k = true ∧ (∀ key, Ue.hasP' l key = true → Ue.hasP' (Ue.putP l k v) key = true) := by
  refine ⟨fun p hp => ?_, (mem_has (Ue.rise_put h k v) (put_self l k v)).1, fun key hk => by rw [(put_get h k v key).2, hk, Bool.or_true]⟩
  by_cases hk : p.key = k
  · have h1 := (mem_has (Ue.rise_put h k v) hp).2
    rw [hk, (put_get h k v k).1, if_pos rfl] at h1
    rw [h1]
    exact .inl (pe_of p hk).symm
  · rcases put_of hp with h1 | h1
    · exact .inl h1
    · exact .inr ⟨h1, hk⟩
theorem bury_cases {l : List PE} (h : Ue.Rise l) {k : Nat} {t2 : Int} {e : En} (hrf : refused k t2 e = false) : ∃ v, ((∀ p ∈ buryL k t2 l e, p = ⟨e.key, v⟩ ∨ (p ∈ l ∧ p.key ≠ e.key)) ∧ Ue.hasP' (buryL k t2 l e) e.key = true ∧ (∀ key, Ue.hasP' l key = true → Ue.hasP' (buryL k t2 l e) key = true)) ∧
    ((Ue.hasP' l e.key = false ∧ v = e) ∨ (∃ was, (⟨e.key, was⟩ : PE) ∈ l ∧ ((laterB was.st e.st = true ∧ v = was) ∨ (e.st = was.st ∧ v = bothE was e) ∨ (laterB e.st was.st = true ∧ v = e)))) := by
  cases hh : Ue.hasP' l e.key with
  | false =>
    have hv : buryV l e = e := by simp [buryV, hh]
    have hb : buryL k t2 l e = Ue.putP l e.key e := by unfold buryL; rw [hv]; simp [buryB, hrf, hh]
    rw [hb]
    exact ⟨e, bury_put h _ _, .inl ⟨rfl, rfl⟩⟩
  | true =>
    have hm := has_mem hh
    have same : (∀ p ∈ l, p = ⟨e.key, Ue.getP l e.key⟩ ∨ (p ∈ l ∧ p.key ≠ e.key)) ∧ Ue.hasP' l e.key = true ∧ (∀ key, Ue.hasP' l key = true → Ue.hasP' l key = true) := by
      refine ⟨fun p hp => ?_, hh, fun _ h => h⟩
      by_cases hk : p.key = e.key
      · have h1 := (mem_has h hp).2
        rw [hk] at h1
        rw [h1]
        exact .inl (pe_of p hk).symm
      · exact .inr ⟨hp, hk⟩
    by_cases h1 : laterB (Ue.getP l e.key).st e.st = true
    · have hb : buryL k t2 l e = l := by unfold buryL; simp [buryB, hh, h1]
      rw [hb]
      exact ⟨_, same, .inr ⟨_, hm, .inl ⟨h1, rfl⟩⟩⟩
    · have h1' : laterB (Ue.getP l e.key).st e.st = false := by simpa using h1
      have hv : (e.st = (Ue.getP l e.key).st ∧ buryV l e = bothE (Ue.getP l e.key) e) ∨ (laterB e.st (Ue.getP l e.key).st = true ∧ buryV l e = e) := by
        by_cases hs : eqSt (Ue.getP l e.key).st e.st = true
        · exact .inl ⟨(eqSt_iff.1 hs).symm, by simp [buryV, hh, hs]⟩
        · refine .inr ⟨?_, by simp [buryV, hs]⟩
          cases h2 : laterB e.st (Ue.getP l e.key).st with
          | true => rfl
          | false => exact absurd (eqSt_iff.2 (st_eq h1' h2)) hs
      by_cases hw : Ue.getP l e.key = buryV l e
      · have hb : buryL k t2 l e = l := by
          unfold buryL
          rw [if_neg]
          unfold buryB
          rw [if_pos hh, decide_eq_true hw]
          simp
        rw [hb]
        rw [← hw] at hv
        exact ⟨_, same, .inr ⟨_, hm, .inr hv⟩⟩
      · have hb : buryL k t2 l e = Ue.putP l e.key (buryV l e) := by
          unfold buryL
          rw [if_pos]
          unfold buryB
          rw [if_pos hh, decide_eq_false hw, hrf, h1']
          rfl
        rw [hb]
        exact ⟨_, bury_put h _ _, .inr ⟨_, hm, .inr hv⟩⟩
/-- What graves hold of what was buried. -/
structure AnyI (k : Nat) (t2 : Int) (done : List En) (l : List PE) : Prop where
  has : ∀ e ∈ done, refused k t2 e = false → Ue.hasP' l e.key = true
  top : ∀ p ∈ l, ∀ e ∈ done, refused k t2 e = false → e.key = p.key → laterB e.st p.v.st = false ∧ (e.st = p.v.st → laterB e.act p.v.act = false ∧ p.v.age ≤ e.age)
  wita : ∀ p ∈ l, ∃ e ∈ done, refused k t2 e = false ∧ e.key = p.key ∧ e.st = p.v.st ∧ e.act = p.v.act
  witb : ∀ p ∈ l, ∃ e ∈ done, refused k t2 e = false ∧ e.key = p.key ∧ e.st = p.v.st ∧ e.age = p.v.age
theorem any_nil (k : Nat) (t2 : Int) : AnyI k t2 [] [] := by constructor <;> simp
theorem any_step {k : Nat} {t2 : Int} {done done' : List En} {l : List PE} {e : En} (hg : Ue.Rise l) (h : AnyI k t2 done l) (hd : ∀ x, x ∈ done' ↔ x ∈ done ∨ x = e) : AnyI k t2 done' (buryL k t2 l e) := by
  cases hrf : refused k t2 e with
  | true =>
    have hb : buryL k t2 l e = l := by unfold buryL; simp [buryB, hrf]
    rw [hb]
    have hin : ∀ x, x ∈ done' → refused k t2 x = false → x ∈ done := fun x hx hr => by
      rcases (hd x).1 hx with h1 | h1
      · exact h1
      · rw [h1, hrf] at hr; cases hr
    refine ⟨fun x hx hr => h.has x (hin x hx hr) hr, fun p hp x hx hr hk => h.top p hp x (hin x hx hr) hr hk, fun p hp => ?_, fun p hp => ?_⟩
    · obtain ⟨x, h1, h2⟩ := h.wita p hp
      exact ⟨x, (hd x).2 (.inl h1), h2⟩
    · obtain ⟨x, h1, h2⟩ := h.witb p hp
      exact ⟨x, (hd x).2 (.inl h1), h2⟩
  | false =>
    obtain ⟨v, ⟨c1, c2, c3⟩, hv⟩ := bury_cases hg hrf
    have hT : (∀ x ∈ done, refused k t2 x = false → x.key = e.key → laterB x.st v.st = false ∧ (x.st = v.st → laterB x.act v.act = false ∧ v.age ≤ x.age)) ∧ (laterB e.st v.st = false ∧ (e.st = v.st → laterB e.act v.act = false ∧ v.age ≤ e.age)) ∧
        (∃ x, (x ∈ done ∨ x = e) ∧ refused k t2 x = false ∧ x.key = e.key ∧ x.st = v.st ∧ x.act = v.act) ∧ (∃ x, (x ∈ done ∨ x = e) ∧ refused k t2 x = false ∧ x.key = e.key ∧ x.st = v.st ∧ x.age = v.age) := by
      rcases hv with ⟨h1, rfl⟩ | ⟨was, hm, hv⟩
      · refine ⟨fun x hx hr hk => ?_, ⟨laterS_irr _, fun _ => ⟨laterS_irr _, Int.le_refl _⟩⟩, ⟨v, .inr rfl, hrf, rfl, rfl, rfl⟩, ⟨v, .inr rfl, hrf, rfl, rfl, rfl⟩⟩
        have := h.has x hx hr
        rw [hk, h1] at this; cases this
      · have t := h.top _ hm
        obtain ⟨xa, a1, a2, a3, a4, a5⟩ := h.wita _ hm
        obtain ⟨xb, b1, b2, b3, b4, b5⟩ := h.witb _ hm
        simp only at t a3 a4 a5 b3 b4 b5
        rcases hv with ⟨h1, rfl⟩ | ⟨h1, rfl⟩ | ⟨h1, rfl⟩
        · have hne : laterB e.st v.st = false := st_up (laterS_irr _) h1
          refine ⟨t, ⟨hne, fun h2 => ?_⟩, ⟨xa, .inl a1, a2, a3, a4, a5⟩, ⟨xb, .inl b1, b2, b3, b4, b5⟩⟩
          rw [h2, laterS_irr] at h1; cases h1
        · have e1 : (bothE was e).st = was.st := rfl
          have e2 : (bothE was e).act = if laterB e.act was.act = true then e.act else was.act := rfl
          have e3 : (bothE was e).age = if e.age < was.age then e.age else was.age := rfl
          rw [e1, e2, e3]
          refine ⟨fun x hx hr hk => ⟨(t x hx hr hk).1, fun h2 => ?_⟩, ⟨by rw [h1]; exact laterS_irr _, fun _ => ?_⟩, ?_, ?_⟩
          · obtain ⟨h3, h4⟩ := (t x hx hr hk).2 h2
            refine ⟨?_, by split <;> omega⟩
            split
            · rename_i h5; exact st_up h3 h5
            · exact h3
          · refine ⟨?_, by split <;> omega⟩
            split
            · exact laterS_irr _
            · rename_i h5; simpa using h5
          · split
            · exact ⟨e, .inr rfl, hrf, rfl, h1, rfl⟩
            · exact ⟨xa, .inl a1, a2, a3, a4, a5⟩
          · split
            · exact ⟨e, .inr rfl, hrf, rfl, h1, rfl⟩
            · exact ⟨xb, .inl b1, b2, b3, b4, b5⟩
        · refine ⟨fun x hx hr hk => ?_, ⟨laterS_irr _, fun _ => ⟨laterS_irr _, Int.le_refl _⟩⟩, ⟨v, .inr rfl, hrf, rfl, rfl, rfl⟩, ⟨v, .inr rfl, hrf, rfl, rfl, rfl⟩⟩
          have h2 := (t x hx hr hk).1
          refine ⟨st_up h2 h1, fun h3 => ?_⟩
          rw [h3, h1] at h2; cases h2
    obtain ⟨T1, T2, T3, T4⟩ := hT
    refine ⟨fun x hx hr => ?_, fun p hp x hx hr hk => ?_, fun p hp => ?_, fun p hp => ?_⟩
    · rcases (hd x).1 hx with h1 | rfl
      · exact c3 _ (h.has x h1 hr)
      · exact c2
    · rcases c1 p hp with rfl | ⟨h1, h2⟩
      · rcases (hd x).1 hx with h1 | rfl
        · exact T1 x h1 hr hk
        · exact T2
      · rcases (hd x).1 hx with h3 | rfl
        · exact h.top p h1 x h3 hr hk
        · exact absurd hk.symm h2
    · rcases c1 p hp with rfl | ⟨h1, h2⟩
      · obtain ⟨x, h1, h2⟩ := T3
        exact ⟨x, (hd x).2 h1, h2⟩
      · obtain ⟨x, h3, h4⟩ := h.wita p h1
        exact ⟨x, (hd x).2 (.inl h3), h4⟩
    · rcases c1 p hp with rfl | ⟨h1, h2⟩
      · obtain ⟨x, h1, h2⟩ := T4
        exact ⟨x, (hd x).2 h1, h2⟩
      · obtain ⟨x, h3, h4⟩ := h.witb p h1
        exact ⟨x, (hd x).2 (.inl h3), h4⟩
theorem any_keys {k : Nat} {t2 : Int} {d d' : List En} {la lb : List PE} (ha : AnyI k t2 d la) (hb : AnyI k t2 d' lb) (hm : ∀ e, e ∈ d → e ∈ d') (x : ByteArray) (hx : x ∈ la.map (·.key)) : x ∈ lb.map (·.key) := by
  obtain ⟨p, hp, rfl⟩ := List.mem_map.1 hx
  obtain ⟨e, h1, h2, h3, -⟩ := ha.wita p hp
  have h4 := has_mem (hb.has e (hm e h1) h2)
  rw [← h3]
  exact List.mem_map.2 ⟨_, h4, rfl⟩
theorem any_below {k : Nat} {t2 : Int} {d d' : List En} {la lb : List PE} (ha : AnyI k t2 d la) (hb : AnyI k t2 d' lb) (hm : ∀ e, e ∈ d → e ∈ d') {p q : PE} (hp : p ∈ la) (hq : q ∈ lb) (hk : p.key = q.key) : laterB p.v.st q.v.st = false ∧ (p.v.st = q.v.st → laterB p.v.act q.v.act = false ∧ q.v.age ≤ p.v.age) := by
  obtain ⟨e, h1, h2, h3, h4, h5⟩ := ha.wita p hp
  obtain ⟨f, f1, f2, f3, f4, f5⟩ := ha.witb p hp
  have he := hb.top q hq e (hm e h1) h2 (h3.trans hk)
  have hf := hb.top q hq f (hm f f1) f2 (f3.trans hk)
  rw [h4, h5] at he
  rw [f4, f5] at hf
  exact ⟨he.1, fun h => ⟨(he.2 h).1, (hf.2 h).2⟩⟩
theorem any_same {k : Nat} {t2 : Int} {d d' : List En} {la lb : List PE} (ga : GI k t2 la) (gb : GI k t2 lb) (ha : AnyI k t2 d la) (hb : AnyI k t2 d' lb) (hm : ∀ e, e ∈ d ↔ e ∈ d') : lb.length = la.length ∧ ∀ i (h : i < la.length) (h' : i < lb.length), la[i].v.key = lb[i].v.key ∧ la[i].v.st = lb[i].v.st ∧ la[i].v.act = lb[i].v.act ∧ la[i].v.age = lb[i].v.age := by
  have hk := rise_ext (rise_keys.1 ga.rise) (rise_keys.1 gb.rise) fun x => ⟨any_keys ha hb (fun e => (hm e).1) x, any_keys hb ha (fun e => (hm e).2) x⟩
  have hl := congrArg List.length hk
  simp only [List.length_map] at hl
  refine ⟨hl.symm, fun i h h' => ?_⟩
  have hki : la[i].key = lb[i].key := by
    have := congrArg (fun x => x[i]?) hk
    simp only [List.getElem?_map, List.getElem?_eq_getElem h, List.getElem?_eq_getElem h', Option.map_some] at this
    exact Option.some.inj this
  have hp := List.getElem_mem h
  have hq := List.getElem_mem h'
  have b1 := any_below ha hb (fun e => (hm e).1) hp hq hki
  have b2 := any_below hb ha (fun e => (hm e).2) hq hp hki.symm
  have hst := st_eq b1.1 b2.1
  have c1 := b1.2 hst
  have c2 := b2.2 hst.symm
  exact ⟨by rw [ga.key _ hp, gb.key _ hq, hki], hst, st_eq c1.1 c2.1, by omega⟩
end Go.Proofs.Ytgjimlgofakbpaa
