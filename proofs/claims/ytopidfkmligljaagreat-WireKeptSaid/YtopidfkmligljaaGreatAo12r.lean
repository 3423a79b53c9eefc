/- What was put is read as it was put: numbers, flags, texts, bytes. Plain laws. -/
import Derived.Test.YtopidfkmligljaaGreatAo12
namespace Go.Proofs.YtopidfkmligljaaGreat
set_option linter.unusedSimpArgs false
set_option linter.unusedVariables false
set_option maxHeartbeats 4000000
open Go Go.Am
theorem drop_get {L : List Int} {a : Nat} {x : Int} {r : List Int} (h : L.drop a = x :: r) : L.getD a 0 = x ∧ a < L.length ∧ L.drop (a + 1) = r := by
  have h1 := congrArg List.length h
  simp only [List.length_drop, List.length_cons] at h1
  have ha : a < L.length := by omega
  rw [List.drop_eq_getElem_cons ha] at h
  injection h with h2 h3
  exact ⟨by rw [getD_get ha]; exact h2, ha, h3⟩
theorem rawOk_of {L : List Int} {a k : Nat} {x r : List Int} (h : L.drop a = x ++ r) (hk : x.length = k) : rawOk 0 (k : Int) (L.length - a : Nat) = true ∧ rawC L (k : Int) ⟨a, 0⟩ = ⟨a + k, 0⟩ ∧ rawV L (k : Int) ⟨a, 0⟩ = x := by
  have h1 := congrArg List.length h
  simp only [List.length_drop, List.length_append] at h1
  have ho : rawOk 0 (k : Int) (L.length - a : Nat) = true := by
    unfold rawOk
    rw [decide_eq_true (by omega)]
    rfl
  obtain ⟨-, -, -, h2, h3, h4⟩ := rawOk_yes ho
  refine ⟨ho, ?_, ?_⟩
  · simp only [rawC, Cu.left, h2, h3, Int.toNat_natCast]
  · simp only [rawV, Cu.left, h4, Int.toNat_natCast, h]
    rw [← hk, List.take_left]
theorem read_num {L : List Int} {a : Nat} {v w : Int} {r : List Int} (h : L.drop a = leI v w.toNat ++ r) (hw : wideB w = true) (hf : fitsI v w = true) (h0 : 0 ≤ v) : numC L w ⟨a, 0⟩ = ⟨a + w.toNat, 0⟩ ∧ numV L w ⟨a, 0⟩ = v := by
  have h8 := wideB_yes hw
  obtain ⟨k, rfl⟩ : ∃ k : Nat, w = (k : Int) := ⟨w.toNat, by omega⟩
  simp only [Int.toNat_natCast] at h
  obtain ⟨-, h1, h2⟩ := rawOk_of h (leI_len v k)
  simp only [numC, numV, hw, cond_true, h1, h2, Int.toNat_natCast]
  exact ⟨trivial, fits_val v h0 k (by omega) hf⟩
theorem read_flag {L : List Int} {a : Nat} {b : Bool} {r : List Int} (h : L.drop a = [cond b 1 0] ++ r) : flagC L ⟨a, 0⟩ = ⟨a + 1, 0⟩ ∧ flagV L ⟨a, 0⟩ = b := by
  obtain ⟨h1, h2, h3⟩ := drop_get (x := cond b 1 0) (r := r) h
  obtain ⟨ho, -, -⟩ := rawOk_of (k := 1) h rfl
  simp only [Int.natCast_one, Int.cast_ofNat_Int] at ho
  simp only [flagC, flagV, Cu.left]
  rw [ho, h1]
  cases b <;> exact ⟨rfl, rfl⟩
theorem toB_int {l : List Int} (h : bytesB l) : (toB l).map (fun b => (b.toNat : Int)) = l := by
  induction l with
  | nil => rfl
  | cons c l ih =>
    have hc := h c (by simp)
    have h1 := ih fun d hd => h d (by simp [hd])
    simp only [toB, List.map_cons, List.cons.injEq] at h1 ⊢
    refine ⟨?_, h1⟩
    have : c.toNat % 256 = c.toNat := Nat.mod_eq_of_lt (by omega)
    simp [UInt8.toNat_ofNat', this]
    omega
theorem txI_baI {l : List Int} (h : bytesB l) : txI (baI l) = l := by
  simpa [txI, baI] using toB_int h
theorem baI_size (l : List Int) : (baI l).size = l.length := by
  simp [baI, toB, ByteArray.size]
end Go.Proofs.YtopidfkmligljaaGreat
