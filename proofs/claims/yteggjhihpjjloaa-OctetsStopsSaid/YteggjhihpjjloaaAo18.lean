/- What was put is read as it was put: plain laws. -/
import Derived.Test.YteggjhihpjjloaaAo15
namespace Go.Proofs.Yteggjhihpjjloaa
set_option linter.unusedSimpArgs false
set_option linter.unusedVariables false
set_option maxHeartbeats 4000000
open Go Go.Am
theorem drop_get {L : List Int} {a : Nat} {x : Int} {r : List Int} (h : L.drop a = x :: r) : L.getD a 0 = x ∧ a < L.length ∧ L.drop (a + 1) = r := by
  have h1 := congrArg List.length h
  simp only [List.length_drop, List.length_cons] at h1
  have ha : a < L.length := by omega
  rw [List.drop_eq_getElem_cons ha] at h
  injection h with h2 h3
  exact ⟨by rw [getD_get ha]; exact h2, ha, h3⟩
theorem rawOk_of {L : List Int} {a k : Nat} {x r : List Int} (h : L.drop a = x ++ r) (hk : x.length = k) : rawOk 0 (k : Int) (L.length - a : Nat) = true ∧ rawC L (k : Int) ⟨a, 0⟩ = ⟨a + k, 0⟩ ∧ rawV L (k : Int) ⟨a, 0⟩ = x := by
  have h1 := congrArg List.length h
  simp only [List.length_drop, List.length_append] at h1
  have ho : rawOk 0 (k : Int) (L.length - a : Nat) = true := by
    unfold rawOk
    rw [decide_eq_true (by omega)]
    rfl
  obtain ⟨-, -, -, h2, h3, h4⟩ := rawOk_yes ho
  refine ⟨ho, ?_, ?_⟩
  · simp only [rawC, Cu.left, h2, h3, Int.toNat_natCast]
  · simp only [rawV, Cu.left, h4, Int.toNat_natCast, h]
    rw [← hk, List.take_left]
theorem read_num {L : List Int} {a : Nat} {v w : Int} {r : List Int} (h : L.drop a = leI v w.toNat ++ r) (hw : wideB w = true) (hf : fitsI v w = true) (h0 : 0 ≤ v) : numC L w ⟨a, 0⟩ = ⟨a + w.toNat, 0⟩ ∧ numV L w ⟨a, 0⟩ = v := by
  have h8 := wideB_yes hw
  obtain ⟨k, rfl⟩ : ∃ k : Nat, w = (k : Int) := ⟨w.toNat, by omega⟩
  simp only [Int.toNat_natCast] at h
  obtain ⟨-, h1, h2⟩ := rawOk_of h (leI_len v k)
  simp only [numC, numV, hw, cond_true, h1, h2, Int.toNat_natCast]
  exact ⟨trivial, fits_val v h0 k (by omega) hf⟩
theorem read_flag {L : List Int} {a : Nat} {b : Bool} {r : List Int} (h : L.drop a = [cond b 1 0] ++ r) : flagC L ⟨a, 0⟩ = ⟨a + 1, 0⟩ ∧ flagV L ⟨a, 0⟩ = b := by
  obtain ⟨h1, h2, h3⟩ := drop_get (x := cond b 1 0) (r := r) h
  obtain ⟨ho, -, -⟩ := rawOk_of (k := 1) h rfl
  simp only [Int.natCast_one, Int.cast_ofNat_Int] at ho
  simp only [flagC, flagV, Cu.left]
  rw [ho, h1]
  cases b <;> exact ⟨rfl, rfl⟩
theorem read_text {L : List Int} {a : Nat} {B r : List Int} (h : L.drop a = ((B.length : Int) :: B) ++ r) (h255 : B.length ≤ 255) : textC L 255 ⟨a, 0⟩ = ⟨a + (1 + B.length), 0⟩ ∧ textV L 255 ⟨a, 0⟩ = baI B := by
  obtain ⟨h1, h2, h3⟩ := drop_get (x := (B.length : Int)) (r := B ++ r) h
  have h4 := congrArg List.length h3
  simp only [List.length_drop, List.length_append] at h4
  obtain ⟨ho, -, -⟩ := rawOk_of (k := 1) (x := [(B.length : Int)]) (r := B ++ r) h rfl
  rw [show ((1 : Nat) : Int) = 1 from rfl] at ho
  have k1 : ¬ (255 : Int) < L.getD a 0 := by rw [h1]; omega
  have k2 : 1 + L.getD a 0 ≤ ((L.length - a : Nat) : Int) := by rw [h1]; omega
  rw [textC_yes ho k1 k2, textV_yes ho k1 k2, h1, Int.toNat_natCast, h3, List.take_left]
  exact ⟨rfl, rfl⟩
def ptK (p : Pt) : Int := if p.k = 0 then numK p.v p.w else if p.k = 1 then 0 else if p.k = 2 then textK p.b.l.length else 0
def ptX (p : Pt) : List Int := if p.k = 0 then leI p.v p.w.toNat else if p.k = 1 then [cond (decide (p.v > 0)) 1 0] else if p.k = 2 then (p.b.l.length : Int) :: p.b.l else p.b.l
theorem numK_zero {v w : Int} (h : numK v w = 0) : wideB w = true ∧ fitsI v w = true := by
  unfold numK at h
  cases h1 : wideB w
  · rw [h1] at h; cases h
  · cases h2 : fitsI v w
    · rw [h1, h2] at h; cases h
    · exact ⟨rfl, rfl⟩
theorem textK_zero {n : Nat} (h : textK n = 0) : n ≤ 255 := by
  unfold textK at h
  rcases Nat.lt_or_ge 255 n with h1 | h1
  · rw [decide_eq_true h1] at h; cases h
  · exact h1
theorem ptX_len {p : Pt} (h : ptK p = 0) (h3 : p.b.l.length ≤ 300) : (ptX p).length ≤ 301 := by
  unfold ptK at h
  unfold ptX
  split
  · rename_i hk
    rw [if_pos hk] at h
    have := wideB_yes (numK_zero h).1
    rw [leI_len]; omega
  · split
    · simp
    · split
      · simp; omega
      · omega
theorem ptX_bytes {p : Pt} (h : ptK p = 0) (hb : bytesB p.b.l) : bytesB (ptX p) := by
  unfold ptX
  split
  · exact leI_bytes _ _
  · split
    · intro c hc
      rw [List.mem_singleton.1 hc]
      cases decide (p.v > 0) <;> decide
    · split
      · rename_i h0 h1 h2
        simp only [ptK, if_neg h0, if_neg h1, if_pos h2] at h
        have := textK_zero h
        intro c hc
        rcases List.mem_cons.1 hc with rfl | hc
        · omega
        · exact hb c hc
      · exact hb
theorem failI_eq0 {e k : Int} (h : failI e k = 0) : e = 0 ∧ k = 0 := by
  unfold failI at h
  split at h
  · rename_i h1; exact ⟨by simpa using h1, h⟩
  · rename_i h1; exact absurd h (by simpa using h1)
/-- Where the puts of a writer stand, if there is no error. -/
def putInv (ts : List Pt) (i : Nat) (l : List Int) (e : Int) : Prop := l.length ≤ 301 * i ∧ (e = 0 → (∀ p ∈ ts.take i, ptK p = 0) ∧ l = (ts.take i).flatMap ptX)
theorem putInv_next {ts : List Pt} {i : Nat} {l : List Int} {e : Int} (hi : i < ts.length) (h : putInv ts i l e) (h3 : ts[i].b.l.length ≤ 300) : putInv ts (i + 1) (putL e (ptK ts[i]) l (ptX ts[i])) (failI e (ptK ts[i])) := by
  refine ⟨?_, fun h0 => ?_⟩
  · unfold putL
    have h1 := h.1
    cases he : (e == 0 && ptK ts[i] == 0) with
    | true =>
      simp only [Bool.and_eq_true, beq_iff_eq] at he
      have := ptX_len he.2 h3
      simp only [cond_true, List.length_append]
      omega
    | false => simp only [cond_false]; omega
  · obtain ⟨h1, h2⟩ := failI_eq0 h0
    obtain ⟨h4, h5⟩ := h.2 h1
    rw [List.take_succ_eq_append_getElem hi, List.flatMap_append, ← h5]
    refine ⟨fun p hp => ?_, ?_⟩
    · rcases List.mem_append.1 hp with hp | hp
      · exact h4 p hp
      · rw [List.mem_singleton.1 hp]; exact h2
    · rw [h1, h2]
      simp [putL]
theorem drop_flat {ts : List Pt} {i : Nat} (hi : i < ts.length) : (ts.flatMap ptX).drop ((ts.take i).flatMap ptX).length = ptX ts[i] ++ (ts.drop (i + 1)).flatMap ptX := by
  have h : ts.flatMap ptX = (ts.take i).flatMap ptX ++ (ts.drop i).flatMap ptX := by rw [← List.flatMap_append, List.take_append_drop]
  rw [h, List.drop_left, List.drop_eq_getElem_cons hi]
  rfl
theorem len_flat {ts : List Pt} {i : Nat} (hi : i < ts.length) : ((ts.take (i + 1)).flatMap ptX).length = ((ts.take i).flatMap ptX).length + (ptX ts[i]).length := by
  rw [List.take_succ_eq_append_getElem hi, List.flatMap_append, List.length_append]
  simp
theorem flat_bytes {ts : List Pt} (h : ∀ p ∈ ts, ptK p = 0 ∧ bytesB p.b.l) : bytesB (ts.flatMap ptX) := by
  intro c hc
  obtain ⟨p, hp, hc⟩ := List.mem_flatMap.1 hc
  exact ptX_bytes (h p hp).1 (h p hp).2 c hc
theorem flat_le (ts : List Pt) (i : Nat) : ((ts.take i).flatMap ptX).length ≤ (ts.flatMap ptX).length := by
  have h : ts.flatMap ptX = (ts.take i).flatMap ptX ++ (ts.drop i).flatMap ptX := by rw [← List.flatMap_append, List.take_append_drop]
  rw [h, List.length_append]
  omega
end Go.Proofs.Yteggjhihpjjloaa
