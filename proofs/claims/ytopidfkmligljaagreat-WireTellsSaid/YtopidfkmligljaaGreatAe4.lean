/- What is read has just these bytes: plain laws. -/
import Derived.Test.YtopidfkmligljaaGreatAo12
import Derived.Test.YtopidfkmligljaaGreatAe3
/- What was put is read as it was put: numbers, flags, texts, bytes. Plain laws. -/
namespace Go.Proofs.YtopidfkmligljaaGreat
set_option linter.unusedSimpArgs false
set_option linter.unusedVariables false
set_option maxHeartbeats 4000000
open Go Go.Am
theorem drop_get {L : List Int} {a : Nat} {x : Int} {r : List Int} (h : L.drop a = x :: r) : L.getD a 0 = x ∧ a < L.length ∧ L.drop (a + 1) = r := by
  have h1 := congrArg List.length h
  simp only [List.length_drop, List.length_cons] at h1
  have ha : a < L.length := by omega
  rw [List.drop_eq_getElem_cons ha] at h
  injection h with h2 h3
  exact ⟨by rw [getD_get ha]; exact h2, ha, h3⟩
theorem rawOk_of {L : List Int} {a k : Nat} {x r : List Int} (h : L.drop a = x ++ r) (hk : x.length = k) : rawOk 0 (k : Int) (L.length - a : Nat) = true ∧ rawC L (k : Int) ⟨a, 0⟩ = ⟨a + k, 0⟩ ∧ rawV L (k : Int) ⟨a, 0⟩ = x := by
  have h1 := congrArg List.length h
  simp only [List.length_drop, List.length_append] at h1
  have ho : rawOk 0 (k : Int) (L.length - a : Nat) = true := by
    unfold rawOk
    rw [decide_eq_true (by omega)]
    rfl
  obtain ⟨-, -, -, h2, h3, h4⟩ := rawOk_yes ho
  refine ⟨ho, ?_, ?_⟩
  · simp only [rawC, Cu.left, h2, h3, Int.toNat_natCast]
  · simp only [rawV, Cu.left, h4, Int.toNat_natCast, h]
    rw [← hk, List.take_left]
theorem read_num {L : List Int} {a : Nat} {v w : Int} {r : List Int} (h : L.drop a = leI v w.toNat ++ r) (hw : wideB w = true) (hf : fitsI v w = true) (h0 : 0 ≤ v) : numC L w ⟨a, 0⟩ = ⟨a + w.toNat, 0⟩ ∧ numV L w ⟨a, 0⟩ = v := by
  have h8 := wideB_yes hw
  obtain ⟨k, rfl⟩ : ∃ k : Nat, w = (k : Int) := ⟨w.toNat, by omega⟩
  simp only [Int.toNat_natCast] at h
  obtain ⟨-, h1, h2⟩ := rawOk_of h (leI_len v k)
  simp only [numC, numV, hw, cond_true, h1, h2, Int.toNat_natCast]
  exact ⟨trivial, fits_val v h0 k (by omega) hf⟩
theorem read_flag {L : List Int} {a : Nat} {b : Bool} {r : List Int} (h : L.drop a = [cond b 1 0] ++ r) : flagC L ⟨a, 0⟩ = ⟨a + 1, 0⟩ ∧ flagV L ⟨a, 0⟩ = b := by
  obtain ⟨h1, h2, h3⟩ := drop_get (x := cond b 1 0) (r := r) h
  obtain ⟨ho, -, -⟩ := rawOk_of (k := 1) h rfl
  simp only [Int.natCast_one, Int.cast_ofNat_Int] at ho
  simp only [flagC, flagV, Cu.left]
  rw [ho, h1]
  cases b <;> exact ⟨rfl, rfl⟩
theorem toB_int {l : List Int} (h : bytesB l) : (toB l).map (fun b => (b.toNat : Int)) = l := by
  induction l with
  | nil => rfl
  | cons c l ih =>
    have hc := h c (by simp)
    have h1 := ih fun d hd => h d (by simp [hd])
    simp only [toB, List.map_cons, List.cons.injEq] at h1 ⊢
    refine ⟨?_, h1⟩
    have : c.toNat % 256 = c.toNat := Nat.mod_eq_of_lt (by omega)
    simp [UInt8.toNat_ofNat', this]
    omega
theorem txI_baI {l : List Int} (h : bytesB l) : txI (baI l) = l := by
  simpa [txI, baI] using toB_int h
theorem baI_size (l : List Int) : (baI l).size = l.length := by
  simp [baI, toB, ByteArray.size]
end Go.Proofs.YtopidfkmligljaaGreat
namespace Go.Proofs.YtopidfkmligljaaGreat
set_option linter.unusedSimpArgs false
set_option linter.unusedVariables false
set_option maxHeartbeats 4000000
open Go Go.Am
theorem valI_inj : ∀ {l m : List Int}, bytesB l → bytesB m → l.length = m.length → valI l = valI m → l = m
  | [], [], _, _, _, _ => rfl
  | [], _ :: _, _, _, h, _ => by cases h
  | _ :: _, [], _, _, h, _ => by cases h
  | c :: l, d :: m, hl, hm, h, hv => by
    have h1 := hl c (by simp)
    have h2 := hm d (by simp)
    simp only [valI] at hv
    have e : c = d := by omega
    subst e
    have := valI_inj (l := l) (m := m) (fun x hx => hl x (by simp [hx])) (fun x hx => hm x (by simp [hx])) (by simpa using h) (by omega)
    rw [this]
theorem leI_valI {l : List Int} (hb : bytesB l) (h8 : l.length ≤ 8) : leI (valI l) l.length = l := by
  have h1 := valI_lt hb
  refine valI_inj (leI_bytes _ _) hb (leI_len _ _) ?_
  rw [valI_leI _ h1.1 _ h8, Int.emod_eq_of_lt h1.1 h1.2]
theorem rawC_back {L : List Int} {w : Int} {c : Cu} (h : (rawC L w c).e = 0) : rawOk c.e w (c.left L) = true := by
  cases ho : rawOk c.e w (c.left L) with
  | true => rfl
  | false => exact absurd h (rawOk_no ho).1
theorem num_back {L : List Int} {w : Int} {c : Cu} (hb : bytesB L) (hw : wideB w = true) (h : (numC L w c).e = 0) : c.e = 0 ∧ (numC L w c).a = c.a + w.toNat ∧ L.drop c.a = leI (numV L w c) w.toNat ++ L.drop (c.a + w.toNat) := by
  unfold numC at h ⊢
  unfold numV
  rw [hw] at h ⊢
  simp only [cond_true] at h ⊢
  have ho := rawC_back h
  obtain ⟨h1, h2, h3, -, h5, h6⟩ := rawOk_yes ho
  have h8 := wideB_yes hw
  refine ⟨h1, ?_, ?_⟩
  · simp only [rawC]; exact h5 _
  · have hr : rawV L w c = (L.drop c.a).take w.toNat := by simp only [rawV]; exact h6 _ _
    have hl : (rawV L w c).length = w.toNat := by
      rw [hr, List.length_take, List.length_drop]
      simp only [Cu.left] at h3
      omega
    have hbr : bytesB (rawV L w c) := by rw [hr]; exact bytesB_take (bytesB_drop hb _) _
    have := leI_valI hbr (by omega)
    rw [hl] at this
    rw [this, hr, ← List.drop_drop, List.take_append_drop]
theorem ok1_back {L : List Int} {c : Cu} (hb : bytesB L) (ho : rawOk c.e 1 (c.left L) = true) : c.e = 0 ∧ c.a < L.length ∧ 0 ≤ L.getD c.a 0 ∧ L.getD c.a 0 ≤ 255 ∧ L.drop c.a = L.getD c.a 0 :: L.drop (c.a + 1) := by
  obtain ⟨h1, h2, h3, -, -, -⟩ := rawOk_yes ho
  simp only [Cu.left] at h3
  have ha : c.a < L.length := by omega
  have hr := hb (L.getD c.a 0) (by rw [getD_get ha]; exact List.getElem_mem _)
  exact ⟨h1, ha, hr.1, hr.2, by rw [getD_get ha, List.drop_eq_getElem_cons ha]⟩
theorem flag_back {L : List Int} {c : Cu} (hb : bytesB L) (h : (flagC L c).e = 0) : c.e = 0 ∧ (flagC L c).a = c.a + 1 ∧ L.drop c.a = [cond (flagV L c) 1 0] ++ L.drop (c.a + 1) := by
  unfold flagC at h ⊢
  unfold flagV
  cases ho : rawOk c.e 1 (c.left L) with
  | false =>
    rw [ho] at h
    simp only [cond_false] at h
    exact absurd h (rawOk_no ho).1
  | true =>
    rw [ho] at h
    simp only [cond_true] at h ⊢
    obtain ⟨h1, h2, h3, h4, h5⟩ := ok1_back hb ho
    cases hx : decide (1 < L.getD c.a 0) with
    | true => rw [hx] at h; simp at h
    | false =>
      rw [decide_eq_false_iff_not] at hx
      refine ⟨h1, rfl, ?_⟩
      rw [h5]
      have : L.getD c.a 0 = 0 ∨ L.getD c.a 0 = 1 := by omega
      rcases this with e | e <;> rw [e] <;> rfl
theorem text_back {L : List Int} {m : Int} {c : Cu} (hb : bytesB L) (h : (textC L m c).e = 0) : c.e = 0 ∧ ∃ B, bytesB B ∧ textV L m c = baI B ∧ (textC L m c).a = c.a + (1 + B.length) ∧ L.drop c.a = ((B.length : Int) :: B) ++ L.drop (c.a + (1 + B.length)) := by
  obtain ⟨a, e⟩ := c
  cases ho : rawOk e 1 (L.length - a : Nat) with
  | false =>
    rw [textC_no ho] at h
    exact absurd h (rawOk_no ho).1
  | true =>
    obtain ⟨h1, h2, h3, h4, h5⟩ := ok1_back (c := ⟨a, e⟩) hb ho
    simp only at h1 h2 h3 h4 h5
    subst h1
    by_cases k1 : m < L.getD a 0
    · rw [textC_most ho k1] at h; cases h
    · by_cases k2 : 1 + L.getD a 0 ≤ ((L.length - a : Nat) : Int)
      · rw [textC_yes ho k1 k2, textV_yes ho k1 k2]
        have hl : ((L.drop (a + 1)).take (L.getD a 0).toNat).length = (L.getD a 0).toNat := by rw [List.length_take, List.length_drop]; omega
        refine ⟨rfl, _, bytesB_take (bytesB_drop hb _) _, rfl, by rw [hl], ?_⟩
        rw [hl, show ((L.getD a 0).toNat : Int) = L.getD a 0 by omega, h5, List.cons_append, show a + (1 + (L.getD a 0).toNat) = a + 1 + (L.getD a 0).toNat by omega]
        have htd := List.take_append_drop (L.getD a 0).toNat (L.drop (a + 1))
        rw [List.drop_drop] at htd
        rw [htd]
      · rw [textC_short ho k1 k2] at h; cases h
theorem en_back {L : List Int} {c : Cu} (hb : bytesB L) (h : (enC L c).e = 0) : checkI (enE L c) = 0 ∧ enV L c = enE L c ∧ c.e = 0 ∧ L.drop c.a = enB (enE L c) ++ L.drop (enC L c).a := by
  rcases en_cases L c with ⟨k1, k2, k3, k4⟩ | ⟨k1, k2, k3, k4⟩ | ⟨k1, k2, k3, k4⟩ | ⟨k1, k2, k3, k4⟩
  · have h9 := k1
    have u9 : numC L 4 (en8 L c) = en9 L c := by unfold en9; rfl
    have u8 : numC L 2 (en7 L c) = en8 L c := by unfold en8; rfl
    have u7 : numC L 1 (en6 L c) = en7 L c := by unfold en7; rfl
    have u6 : numC L 4 (en5 L c) = en6 L c := by unfold en6; rfl
    have u5 : numC L 1 (en4 L c) = en5 L c := by unfold en5; rfl
    have u4 : numC L 4 (en3 L c) = en4 L c := by unfold en4; rfl
    have u3 : textC L 32 (en2 L c) = en3 L c := by unfold en3; rfl
    have u2 : flagC L (en1 L c) = en2 L c := by unfold en2; rfl
    have u1 : textC L 16 c = en1 L c := by unfold en1; rfl
    rw [← u9] at h9
    obtain ⟨e8, a9, d9⟩ := num_back hb (by decide) h9
    rw [← u8] at e8
    obtain ⟨e7, a8, d8⟩ := num_back hb (by decide) e8
    rw [← u7] at e7
    obtain ⟨e6, a7, d7⟩ := num_back hb (by decide) e7
    rw [← u6] at e6
    obtain ⟨e5, a6, d6⟩ := num_back hb (by decide) e6
    rw [← u5] at e5
    obtain ⟨e4, a5, d5⟩ := num_back hb (by decide) e5
    rw [← u4] at e4
    obtain ⟨e3, a4, d4⟩ := num_back hb (by decide) e4
    rw [← u3] at e3
    obtain ⟨e2, B2, bb2, v2, a3, d3⟩ := text_back hb e3
    rw [← u2] at e2
    obtain ⟨e1, a2, d2⟩ := flag_back hb e2
    rw [← u1] at e1
    obtain ⟨e0, B1, bb1, v1, a1, d1⟩ := text_back hb e1
    rw [u1] at a1
    rw [u2] at a2
    rw [u3] at a3
    rw [u4] at a4
    rw [u5] at a5
    rw [u6] at a6
    rw [u7] at a7
    rw [u8] at a8
    rw [u9] at a9
    refine ⟨k2, k4, e0, ?_⟩
    rw [k3]
    have hE : enB (enE L c) = ((B1.length : Int) :: B1) ++ [cond (flagV L (en1 L c)) 1 0] ++ ((B2.length : Int) :: B2) ++ leI (numV L 4 (en3 L c)) 4 ++ leI (numV L 1 (en4 L c)) 1 ++ leI (numV L 4 (en5 L c)) 4 ++ leI (numV L 1 (en6 L c)) 1 ++ leI (numV L 2 (en7 L c)) 2 ++ leI (numV L 4 (en8 L c)) 4 := by
      unfold enB enE
      simp only
      rw [v1, v2, baI_size, baI_size, txI_baI bb1, txI_baI bb2]
    rw [hE]
    simp only [show (4 : Int).toNat = 4 from rfl, show (1 : Int).toNat = 1 from rfl, show (2 : Int).toNat = 2 from rfl] at a4 a5 a6 a7 a8 a9 d4 d5 d6 d7 d8 d9
    rw [← a1] at d1
    rw [← a2] at d2
    rw [← a3] at d3
    rw [← a4] at d4
    rw [← a5] at d5
    rw [← a6] at d6
    rw [← a7] at d7
    rw [← a8] at d8
    rw [← a9] at d9
    rw [d1, d2, d3, d4, d5, d6, d7, d8, d9]
    simp only [List.append_assoc, List.cons_append]
  · rw [k3] at h; exact absurd h k1
  · rw [k3] at h; cases h
  · rw [k3] at h; exact absurd h k1
end Go.Proofs.YtopidfkmligljaaGreat
