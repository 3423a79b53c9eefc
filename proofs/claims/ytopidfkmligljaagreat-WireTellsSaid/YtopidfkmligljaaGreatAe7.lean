/- The bytes of an entry that may be are read as it: plain laws. -/
import Derived.Test.YtopidfkmligljaaGreatAe4
namespace Go.Proofs.YtopidfkmligljaaGreat
set_option linter.unusedSimpArgs false
set_option linter.unusedVariables false
set_option maxHeartbeats 4000000
open Go Go.Am
theorem read_textm {L : List Int} {a : Nat} {B r : List Int} {m : Int} (h : L.drop a = ((B.length : Int) :: B) ++ r) (hm : (B.length : Int) ≤ m) : textC L m ⟨a, 0⟩ = ⟨a + (B.length + 1), 0⟩ ∧ textV L m ⟨a, 0⟩ = baI B := by
  obtain ⟨h1, h2, h3⟩ := drop_get (x := (B.length : Int)) (r := B ++ r) h
  have h4 := congrArg List.length h3
  simp only [List.length_drop, List.length_append] at h4
  obtain ⟨ho, -, -⟩ := rawOk_of (k := 1) (x := [(B.length : Int)]) (r := B ++ r) h rfl
  rw [show ((1 : Nat) : Int) = 1 from rfl] at ho
  have k1 : ¬ m < L.getD a 0 := by rw [h1]; omega
  have k2 : 1 + L.getD a 0 ≤ ((L.length - a : Nat) : Int) := by rw [h1]; omega
  rw [textC_yes ho k1 k2, textV_yes ho k1 k2, h1, Int.toNat_natCast, h3, List.take_left, Nat.add_comm 1 B.length]
  exact ⟨rfl, rfl⟩
theorem drop_next {L x r : List Int} {a n : Nat} (h : L.drop a = x ++ r) (hn : x.length = n) : L.drop (a + n) = r := by
  rw [← List.drop_drop, h, ← hn, List.drop_left]
theorem baI_txI (s : ByteArray) : baI (txI s) = s := by
  cases s with
  | mk d =>
    unfold baI txI toB
    congr 1
    apply Array.ext'
    simp [Function.comp_def]
theorem txI_bytes (s : ByteArray) : bytesB (txI s) := by
  intro c hc
  obtain ⟨b, -, rfl⟩ := List.mem_map.1 hc
  have := b.toNat_lt
  omega
theorem bytesB_app {l m : List Int} (h : bytesB l) (k : bytesB m) : bytesB (l ++ m) := fun c hc => by
  rcases List.mem_append.1 hc with hc | hc
  · exact h c hc
  · exact k c hc
theorem bytesB_cons {c : Int} {l : List Int} (h : 0 ≤ c ∧ c ≤ 255) (k : bytesB l) : bytesB (c :: l) := fun d hd => by
  rcases List.mem_cons.1 hd with rfl | hd
  · exact h
  · exact k d hd
theorem enB_bytes {e : En} (h : checkI e = 0) : bytesB (enB e) := by
  obtain ⟨k1, k2, k3, -⟩ := check_ok h
  unfold enB
  refine bytesB_app (bytesB_app (bytesB_app (bytesB_app (bytesB_app (bytesB_app (bytesB_app (bytesB_app ?_ ?_) ?_) (leI_bytes _ _)) (leI_bytes _ _)) (leI_bytes _ _)) (leI_bytes _ _)) (leI_bytes _ _)) (leI_bytes _ _)
  · exact bytesB_cons (by omega) (txI_bytes _)
  · intro c hc
    rw [List.mem_singleton.1 hc]
    cases e.dead <;> decide
  · exact bytesB_cons (by omega) (txI_bytes _)
theorem fits_small {v : Int} {k : Nat} (h0 : 0 ≤ v) (h1 : v < 256 ^ k) : fitsI v (k : Int) = true := by
  rw [fitsI_eq, Int.ediv_eq_zero_of_lt h0 h1]; rfl
end Go.Proofs.YtopidfkmligljaaGreat
