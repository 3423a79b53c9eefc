/- Readers of bytes, and what they have in common: they stay where an error is, read what was put, and tell what is cut off. Plain laws. -/
import Derived.Test.YtopidfkmligljaaGreatAe7
import Derived.Test.YtopidfkmligljaaGreatAn1
namespace Go.Proofs.YtopidfkmligljaaGreat
set_option linter.unusedSimpArgs false
set_option linter.unusedVariables false
set_option maxHeartbeats 4000000
open Go Go.Am
set_option maxRecDepth 100000
/-- A reader: the cursor behind, and what is told. -/
structure Rd (α : Type) where
  cur : List Int → Cu → Cu
  val : List Int → Cu → α
/-- What a reader of some bytes keeps. -/
structure RdOk {α : Type} (R : Rd α) (enc : α → List Int) (ok : α → Prop) : Prop where
  le : ∀ {L : List Int} {c : Cu}, bytesB L → c.a ≤ L.length → (R.cur L c).a ≤ L.length
  stick : ∀ {L : List Int} {c : Cu}, c.e ≠ 0 → R.cur L c = c
  fwd : ∀ {L : List Int} {a : Nat} {v : α} {r : List Int}, ok v → L.drop a = enc v ++ r → R.cur L ⟨a, 0⟩ = ⟨a + (enc v).length, 0⟩ ∧ R.val L ⟨a, 0⟩ = v
  back : ∀ {L : List Int} {c : Cu}, bytesB L → (R.cur L c).e = 0 → c.e = 0 ∧ (R.cur L c).a = c.a + (enc (R.val L c)).length ∧ L.drop c.a = enc (R.val L c) ++ L.drop (R.cur L c).a
  cut : ∀ {L : List Int} {a n : Nat} {v : α} {r : List Int}, ok v → L.drop a = enc v ++ r → a ≤ n → n < a + (enc v).length → (R.cur (L.take n) ⟨a, 0⟩).e = 6
theorem failI_stick {e k : Int} (h : e ≠ 0) : failI e k = e := by simp [failI, h]
theorem rawE_stick {e n left : Int} (h : e ≠ 0) : rawE e n left = e := by
  unfold rawE hasE
  rw [failI_stick h, failI_stick h]
  cases decide (n < 0) <;> cases decide (left < n) <;> rfl
theorem rawOk_stick {e n left : Int} (h : e ≠ 0) : rawOk e n left = false := by simp [rawOk, h]
theorem rawA_stick {e n left : Int} {a : Nat} (h : e ≠ 0) : rawA e n left a = a := by unfold rawA; rw [rawOk_stick h]; rfl
theorem rawC_stick {L : List Int} {n : Int} {c : Cu} (h : c.e ≠ 0) : rawC L n c = c := by
  unfold rawC; rw [rawE_stick h, rawA_stick h]
theorem numC_stick {L : List Int} {w : Int} {c : Cu} (h : c.e ≠ 0) : numC L w c = c := by
  unfold numC; rw [rawC_stick h, failI_stick h]; cases wideB w <;> rfl
theorem numV_err {L : List Int} {w : Int} {c : Cu} (h : (numC L w c).e ≠ 0) : numV L w c = 0 := by
  unfold numC at h
  unfold numV
  cases hw : wideB w with
  | false => rfl
  | true =>
    rw [hw] at h
    simp only [cond_true] at h ⊢
    cases ho : rawOk c.e w (c.left L) with
    | true => exact absurd (rawOk_yes ho).2.2.2.1 h
    | false => unfold rawV; rw [(rawOk_no ho).2.2]; rfl
theorem flagC_stick {L : List Int} {c : Cu} (h : c.e ≠ 0) : flagC L c = c := by
  unfold flagC; rw [rawOk_stick h, rawE_stick h]; rfl
theorem textC_stick {L : List Int} {m : Int} {c : Cu} (h : c.e ≠ 0) : textC L m c = c := by
  unfold textC; rw [rawOk_stick h, rawE_stick h]; rfl
theorem rawE_short {n left : Int} (h : 0 ≤ n) (hl : left < n) : rawE 0 n left = 6 := by
  rw [rawE_has h]; unfold hasE; rw [decide_eq_true hl]; rfl
theorem rawOk_short {e n left : Int} (hl : left < n) : rawOk e n left = false := by
  unfold rawOk; rw [decide_eq_false (by omega)]; rfl
/-- Numbers. -/
def numR (w : Int) : Rd Int := ⟨fun L c => numC L w c, fun L c => numV L w c⟩
theorem numR_ok {w : Int} (hw : wideB w = true) : RdOk (numR w) (fun v => leI v w.toNat) (fun v => fitsI v w = true ∧ 0 ≤ v) where
  le := fun _ h => numC_le h
  stick := fun h => numC_stick h
  fwd := fun {L a v r} ⟨h1, h2⟩ h => by
    simp only [numR, leI_len]
    exact read_num h hw h1 h2
  back := fun {L c} hb h => by
    obtain ⟨h1, h2, h3⟩ := num_back hb hw h
    simp only [numR, leI_len]
    exact ⟨h1, h2, by rw [h2]; exact h3⟩
  cut := fun {L a n v r} _ h ha hn => by
    rw [leI_len] at hn
    have h8 := wideB_yes hw
    simp only [numR, numC, hw, cond_true, rawC, Cu.left]
    exact rawE_short (by omega) (by rw [List.length_take]; omega)
def flagR : Rd Bool := ⟨fun L c => flagC L c, fun L c => flagV L c⟩
theorem flagR_ok : RdOk flagR (fun b => [cond b 1 0]) (fun _ => True) where
  le := fun _ h => flagC_le h
  stick := fun h => flagC_stick h
  fwd := fun {L a v r} _ h => read_flag h
  back := fun {L c} hb h => by
    obtain ⟨h1, h2, h3⟩ := flag_back hb h
    exact ⟨h1, h2, by show _ = _ ++ L.drop (flagC L c).a; rw [h2]; exact h3⟩
  cut := fun {L a n v r} _ h ha hn => by
    simp only [List.length_singleton] at hn
    have : (((L.take n).length - a : Nat) : Int) < 1 := by rw [List.length_take]; omega
    simp only [flagR, flagC, Cu.left, rawOk_short this, cond_false]
    exact rawE_short (by decide) this
def textR (m : Int) : Rd ByteArray := ⟨fun L c => textC L m c, fun L c => textV L m c⟩
abbrev txB (s : ByteArray) : List Int := (s.size : Int) :: txI s
theorem textR_ok {m : Int} : RdOk (textR m) txB (fun s => (s.size : Int) ≤ m) where
  le := fun hb h => textC_le hb h
  stick := fun h => textC_stick h
  fwd := fun {L a v r} hm h => by
    obtain ⟨h1, h2⟩ := read_textm (B := txI v) (by rw [txI_len]; exact h) (by rw [txI_len]; exact hm)
    rw [baI_txI] at h2
    exact ⟨h1, h2⟩
  back := fun {L c} hb h => by
    obtain ⟨h1, B, h2, h3, h4, h5⟩ := text_back hb h
    have e : txB (textV L m c) = (B.length : Int) :: B := by rw [h3, txB, baI_size, txI_baI h2]
    refine ⟨h1, ?_, ?_⟩
    · show (textC L m c).a = c.a + (txB (textV L m c)).length
      rw [e, h4, List.length_cons]; omega
    · show L.drop c.a = txB (textV L m c) ++ L.drop (textC L m c).a
      rw [e, h4]; exact h5
  cut := fun {L a n v r} hm h ha hn => by
    simp only [txB, List.length_cons, txI_len] at hn
    obtain ⟨h1, h2, -⟩ := drop_get (x := (v.size : Int)) (r := txI v ++ r) h
    simp only [textR]
    by_cases hn1 : n = a
    · subst hn1
      have : (((L.take n).length - n : Nat) : Int) < 1 := by rw [List.length_take]; omega
      rw [textC_no (rawOk_short this)]
      exact rawE_short (by decide) this
    · have hl : (L.take n).length = min n L.length := List.length_take
      have ho : rawOk 0 1 (((L.take n).length - a : Nat) : Int) = true := by
        unfold rawOk; rw [decide_eq_true (by omega)]; rfl
      have hg : (L.take n).getD a 0 = (v.size : Int) := by
        rw [← h1, List.getD_eq_getElem?_getD, List.getD_eq_getElem?_getD, List.getElem?_take, if_pos (by omega)]
      rw [textC_short ho (by rw [hg]; omega) (by rw [hg]; omega)]
/-- One reader behind the other. -/
def pairR {α β : Type} (R : Rd α) (S : Rd β) : Rd (α × β) := ⟨fun L c => S.cur L (R.cur L c), fun L c => (R.val L c, S.val L (R.cur L c))⟩
theorem drop_take_app {L x r : List Int} {a n : Nat} (h : L.drop a = x ++ r) (hn : a + x.length ≤ n) : (L.take n).drop a = x ++ r.take (n - a - x.length) := by
  rw [List.drop_take, h, List.take_append]
  rw [List.take_of_length_le (by omega)]
theorem pairR_ok {α β : Type} {R : Rd α} {S : Rd β} {e1 : α → List Int} {e2 : β → List Int} {o1 : α → Prop} {o2 : β → Prop} (h1 : RdOk R e1 o1) (h2 : RdOk S e2 o2) : RdOk (pairR R S) (fun p => e1 p.1 ++ e2 p.2) (fun p => o1 p.1 ∧ o2 p.2) where
  le := fun hb h => h2.le hb (h1.le hb h)
  stick := fun {L c} h => by
    show S.cur L (R.cur L c) = c
    rw [h1.stick h, h2.stick h]
  fwd := fun {L a v r} ⟨k1, k2⟩ h => by
    rw [List.append_assoc] at h
    obtain ⟨g1, g2⟩ := h1.fwd k1 h
    obtain ⟨g3, g4⟩ := h2.fwd k2 (drop_next h rfl)
    simp only [pairR, g1, g2, g3, g4, List.length_append, Nat.add_assoc, and_self]
  back := fun {L c} hb h => by
    obtain ⟨g1, g2, g3⟩ := h2.back hb h
    obtain ⟨g4, g5, g6⟩ := h1.back hb g1
    refine ⟨g4, ?_, ?_⟩
    · show (S.cur L (R.cur L c)).a = c.a + (e1 (R.val L c) ++ e2 (S.val L (R.cur L c))).length
      rw [g2, g5, List.length_append]; omega
    · show L.drop c.a = (e1 (R.val L c) ++ e2 (S.val L (R.cur L c))) ++ L.drop (S.cur L (R.cur L c)).a
      rw [List.append_assoc, ← g3, ← g6]
  cut := fun {L a n v r} ⟨k1, k2⟩ h ha hn => by
    rw [List.append_assoc] at h
    rw [List.length_append] at hn
    show (S.cur (L.take n) (R.cur (L.take n) ⟨a, 0⟩)).e = 6
    by_cases hl : n < a + (e1 v.1).length
    · have g := h1.cut k1 h ha hl
      rw [h2.stick (by rw [g]; decide), g]
    · have g := (h1.fwd k1 (drop_take_app h (n := n) (by omega))).1
      rw [g]
      have hd := drop_next h (n := (e1 v.1).length) rfl
      exact h2.cut k2 hd (by omega) (by omega)
/-- What is read, said otherwise. -/
def mapR' {α β : Type} (R : Rd α) (f : α → β) : Rd β := ⟨R.cur, fun L c => f (R.val L c)⟩
theorem mapR_ok {α β : Type} {R : Rd α} {e1 : α → List Int} {o1 : α → Prop} (h1 : RdOk R e1 o1) (f : α → β) (g : β → α) (hg : ∀ x, g (f x) = x) (hf : ∀ y, f (g y) = y) : RdOk (mapR' R f) (fun y => e1 (g y)) (fun y => o1 (g y)) where
  le := h1.le
  stick := h1.stick
  fwd := fun {L a v r} k h => by
    obtain ⟨g1, g2⟩ := h1.fwd k h
    exact ⟨g1, by show f (R.val L ⟨a, 0⟩) = v; rw [g2, hf]⟩
  back := fun {L c} hb h => by
    obtain ⟨g1, g2, g3⟩ := h1.back hb h
    simp only [mapR', hg]
    exact ⟨g1, g2, g3⟩
  cut := fun k h ha hn => h1.cut k h ha hn
theorem RdOk.of {α : Type} {R R' : Rd α} {enc enc' : α → List Int} {ok ok' : α → Prop} (h : RdOk R enc ok) (h1 : ∀ L c, R'.cur L c = R.cur L c) (h2 : ∀ L c, R'.val L c = R.val L c) (he : ∀ v, enc' v = enc v) (ho : ∀ v, ok' v → ok v) : RdOk R' enc' ok' where
  le := fun hb hc => by rw [h1]; exact h.le hb hc
  stick := fun hc => by rw [h1]; exact h.stick hc
  fwd := fun {L a v r} k hd => by
    rw [he] at hd ⊢
    rw [h1, h2]
    exact h.fwd (ho v k) hd
  back := fun {L c} hb k => by
    rw [h1] at k
    rw [h1, h2, he]
    exact h.back hb k
  cut := fun {L a n v r} k hd ha hn => by
    rw [he] at hd hn
    rw [h1]
    exact h.cut (ho v k) hd ha hn
/-- Marks. -/
def mkB (m : Mk) : List Int := leI m.act.c 4 ++ leI m.act.s 1 ++ txB m.key
def mkR : Rd Mk := ⟨fun L c => textC L 16 (numC L 1 (numC L 4 c)), fun L c => ⟨⟨numV L 4 c, numV L 1 (numC L 4 c)⟩, textV L 16 (numC L 1 (numC L 4 c))⟩⟩
def mkF (m : Mk) : Prop := (fitsI m.act.c 4 = true ∧ 0 ≤ m.act.c) ∧ (fitsI m.act.s 1 = true ∧ 0 ≤ m.act.s) ∧ (m.key.size : Int) ≤ 16
theorem mkR_ok : RdOk mkR mkB mkF := by
  have h := mapR_ok (pairR_ok (pairR_ok (numR_ok (w := 4) (by decide)) (numR_ok (w := 1) (by decide))) (textR_ok (m := 16))) (fun p => (⟨⟨p.1.1, p.1.2⟩, p.2⟩ : Mk)) (fun m => ((m.act.c, m.act.s), m.key)) (fun _ => rfl) (fun _ => rfl)
  exact ⟨h.le, h.stick, fun {L a v r} k hd => h.fwd ⟨⟨k.1, k.2.1⟩, k.2.2⟩ hd, h.back, fun {L a n v r} k hd ha hn => h.cut ⟨⟨k.1, k.2.1⟩, k.2.2⟩ hd ha hn⟩
/-- Entries. -/
def enR : Rd En := ⟨fun L c => enC L c, fun L c => enV L c⟩
def enR9 : Rd En := mapR' (pairR (pairR (pairR (pairR (pairR (pairR (pairR (pairR (textR 16) flagR) (textR 32)) (numR 4)) (numR 1)) (numR 4)) (numR 1)) (numR 2)) (numR 4)) (fun p => ⟨p.1.1.1.1.1.1.1.1, p.1.1.1.1.1.1.2, p.1.1.1.1.1.1.1.2, ⟨p.1.1.1.1.1.2, p.1.1.1.1.2⟩, ⟨p.1.1.1.2, p.1.1.2⟩, p.1.2, p.2⟩)
theorem enR9_cur (L : List Int) (c : Cu) : enR9.cur L c = en9 L c := by
  unfold en9 en8 en7 en6 en5 en4 en3 en2 en1
  simp only [enR9, mapR', pairR, textR, flagR, numR]
theorem enR9_val (L : List Int) (c : Cu) : enR9.val L c = enE L c := by
  unfold enE en8 en7 en6 en5 en4 en3 en2 en1
  simp only [enR9, mapR', pairR, textR, flagR, numR]
theorem enR9_ok : RdOk enR9 enB (fun e => checkI e = 0) := by
  have w4 : wideB 4 = true := by decide
  have w1 : wideB 1 = true := by decide
  have w2 : wideB 2 = true := by decide
  have h := mapR_ok (pairR_ok (pairR_ok (pairR_ok (pairR_ok (pairR_ok (pairR_ok (pairR_ok (pairR_ok (textR_ok (m := 16)) flagR_ok) (textR_ok (m := 32))) (numR_ok w4)) (numR_ok w1)) (numR_ok w4)) (numR_ok w1)) (numR_ok w2)) (numR_ok w4)) (fun p => (⟨p.1.1.1.1.1.1.1.1, p.1.1.1.1.1.1.2, p.1.1.1.1.1.1.1.2, ⟨p.1.1.1.1.1.2, p.1.1.1.1.2⟩, ⟨p.1.1.1.2, p.1.1.2⟩, p.1.2, p.2⟩ : En)) (fun e => ((((((((e.key, e.dead), e.val), e.st.c), e.st.s), e.act.c), e.act.s), e.keep), e.age)) (fun _ => rfl) (fun _ => rfl)
  have hok : ∀ e : En, checkI e = 0 → (((((((((e.key.size : Int) ≤ 16 ∧ True) ∧ (e.val.size : Int) ≤ 32) ∧ (fitsI e.st.c 4 = true ∧ 0 ≤ e.st.c)) ∧ (fitsI e.st.s 1 = true ∧ 0 ≤ e.st.s)) ∧ (fitsI e.act.c 4 = true ∧ 0 ≤ e.act.c)) ∧ (fitsI e.act.s 1 = true ∧ 0 ≤ e.act.s)) ∧ (fitsI e.keep 2 = true ∧ 0 ≤ e.keep)) ∧ (fitsI e.age 4 = true ∧ 0 ≤ e.age)) := fun e he => by
    obtain ⟨k1, k2, k3, k4, k5, k6, k7, k8, k9⟩ := check_ok he
    have f4 : ∀ v : Int, 0 ≤ v → v ≤ 4294967295 → fitsI v 4 = true := fun v h0 h1 => fits_small (k := 4) h0 (by omega)
    have f1 : ∀ v : Int, 0 ≤ v → v < 12 → fitsI v 1 = true := fun v h0 h1 => fits_small (k := 1) h0 (by omega)
    have f2 : ∀ v : Int, 0 ≤ v → v ≤ 4095 → fitsI v 2 = true := fun v h0 h1 => fits_small (k := 2) h0 (by omega)
    exact ⟨⟨⟨⟨⟨⟨⟨⟨by omega, trivial⟩, by omega⟩, f4 _ (by omega) (by omega), by omega⟩, f1 _ (by omega) (by omega), by omega⟩, f4 _ (by omega) (by omega), by omega⟩, f1 _ (by omega) (by omega), by omega⟩, f2 _ (by omega) (by omega), by omega⟩, f4 _ (by omega) (by omega), by omega⟩
  refine h.of (fun _ _ => ?_) (fun _ _ => ?_) (fun v => ?_) hok
  · simp only [enR9, mapR', pairR, textR, flagR, numR]
  · simp only [enR9, mapR', pairR, textR, flagR, numR]
  · simp only [enB, txB, show (4 : Int).toNat = 4 from rfl, show (1 : Int).toNat = 1 from rfl, show (2 : Int).toNat = 2 from rfl]
theorem enR_ok : RdOk enR enB (fun e => checkI e = 0) where
  le := fun hb h => enC_le hb h
  stick := fun {L c} h => by
    have h9 : en9 L c = c := by rw [← enR9_cur]; exact enR9_ok.stick h
    show enC L c = c
    rcases en_cases L c with ⟨-, -, k, -⟩ | ⟨-, -, k, -⟩ | ⟨k, -⟩ | ⟨-, -, k, -⟩
    · rw [k, h9]
    · rw [k, h9]
    · rw [h9] at k; exact absurd k h
    · rw [k, h9]
  fwd := fun {L a v r} k h => by
    obtain ⟨g1, g2⟩ := enR9_ok.fwd k h
    rw [enR9_cur] at g1
    rw [enR9_val] at g2
    show enC L ⟨a, 0⟩ = _ ∧ enV L ⟨a, 0⟩ = v
    rcases en_cases L ⟨a, 0⟩ with ⟨-, -, k1, k2⟩ | ⟨k1, -⟩ | ⟨-, k1, -⟩ | ⟨k1, -⟩
    · rw [k1, k2]; exact ⟨g1, g2⟩
    · rw [g1] at k1; exact absurd rfl k1
    · rw [g2] at k1; exact absurd k k1
    · rw [g1] at k1; exact absurd rfl k1
  back := fun {L c} hb h => by
    obtain ⟨-, k2, -, -⟩ := en_back hb h
    show c.e = 0 ∧ (enC L c).a = c.a + (enB (enV L c)).length ∧ L.drop c.a = enB (enV L c) ++ L.drop (enC L c).a
    rw [k2, ← enR9_val]
    rcases en_cases L c with ⟨k3, -, k4, -⟩ | ⟨k1, -, k4, -⟩ | ⟨-, -, k4, -⟩ | ⟨k1, -, k4, -⟩
    · rw [k4, ← enR9_cur]
      exact enR9_ok.back hb (by rw [enR9_cur]; exact k3)
    · have h' : (enC L c).e = 0 := h
      rw [k4] at h'; exact absurd h' k1
    · have h' : (enC L c).e = 0 := h
      rw [k4] at h'; cases h'
    · have h' : (enC L c).e = 0 := h
      rw [k4] at h'; exact absurd h' k1
  cut := fun {L a n v r} k h ha hn => by
    have g := enR9_ok.cut k h ha hn
    rw [enR9_cur] at g
    show (enC (L.take n) ⟨a, 0⟩).e = 6
    rcases en_cases (L.take n) ⟨a, 0⟩ with ⟨k1, -⟩ | ⟨-, -, k1, -⟩ | ⟨k1, -⟩ | ⟨-, -, k1, -⟩
    · rw [g] at k1; cases k1
    · rw [k1, g]
    · rw [g] at k1; cases k1
    · rw [k1, g]
end Go.Proofs.YtopidfkmligljaaGreat
