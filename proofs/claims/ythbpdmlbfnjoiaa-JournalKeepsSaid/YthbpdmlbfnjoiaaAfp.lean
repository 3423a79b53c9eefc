/- Numbers of a few bytes, put and taken. -/
import Derived.Test.YthbpdmlbfnjoiaaCo6
import Derived.Test.YthbpdmlbfnjoiaaAo14
namespace Go.Proofs.Ythbpdmlbfnjoiaa
set_option linter.unusedSimpArgs false
set_option linter.unusedVariables false
set_option maxHeartbeats 4000000
open Go Go.Am Go.RowKit Go.Crc
set_option maxRecDepth 100000
theorem numL_ok {v : Int} {k : Nat} (hk : 1 ≤ k) (hk' : k ≤ 8) (h0 : 0 ≤ v) (h1 : v < 256 ^ k) (l : List Int) : numL v (k : Int) 0 l = l ++ leI v k ∧ numE v (k : Int) 0 = 0 := by
  have hw : wideB (k : Int) = true := by unfold wideB; exact decide_eq_true (by omega)
  have hf : fitsI v (k : Int) = true := by rw [fitsI_eq, Int.ediv_eq_zero_of_lt h0 h1]; rfl
  unfold numL numE
  rw [hw, hf]
  exact ⟨by simp [wput], rfl⟩
theorem leI1 {v : Int} (h0 : 0 ≤ v) (h1 : v < 256) : leI v 1 = [v] := by
  simp only [leI, List.nil_append]
  rw [byteI_eq v 0 (by decide)]
  simp
  omega
theorem leI2 {n : Nat} (h : n < 65536) : leI (n : Int) 2 = [((n % 256 : Nat) : Int), ((n / 256 : Nat) : Int)] := by
  simp only [leI, List.nil_append]
  rw [byteI_eq _ 0 (by decide), byteI_eq _ 1 (by decide)]
  simp
  omega
theorem num_at {B : List Int} {a k : Nat} (h : a + k ≤ B.length) (hk : 1 ≤ k) (hk8 : k ≤ 8) : numC B (k : Int) ⟨a, 0⟩ = ⟨a + k, 0⟩ ∧ numV B (k : Int) ⟨a, 0⟩ = valI ((B.drop a).take k) := by
  have hr : rawOk 0 (k : Int) ((B.length - a : Nat) : Int) = true := by
    unfold rawOk
    simp
    omega
  obtain ⟨_, _, _, h4, h5, h6⟩ := rawOk_yes hr
  have hw : wideB (k : Int) = true := by unfold wideB; exact decide_eq_true (by omega)
  unfold numC numV rawC rawV
  rw [hw]
  simp only [cond_true, Cu.left, h4, h5, h6, Int.toNat_natCast]
  exact ⟨trivial, trivial⟩
theorem take1 {B : List Int} {a : Nat} (h : a < B.length) : (B.drop a).take 1 = [B.getD a 0] := by
  rw [List.drop_eq_getElem_cons h, List.getD_eq_getElem?_getD, List.getElem?_eq_getElem h]; rfl
theorem take2 {B : List Int} {a : Nat} (h : a + 1 < B.length) : (B.drop a).take 2 = [B.getD a 0, B.getD (a + 1) 0] := by
  rw [List.drop_eq_getElem_cons (by omega), List.drop_eq_getElem_cons (by omega), List.getD_eq_getElem?_getD, List.getElem?_eq_getElem (by omega), List.getD_eq_getElem?_getD, List.getElem?_eq_getElem h]; rfl
theorem num1_at {B : List Int} {a : Nat} (h : a < B.length) : numC B 1 ⟨a, 0⟩ = ⟨a + 1, 0⟩ ∧ numV B 1 ⟨a, 0⟩ = B.getD a 0 := by
  have := num_at (B := B) (a := a) (k := 1) (by omega) (by decide) (by decide)
  rw [take1 h] at this
  simpa [valI] using this
theorem num2_at {B : List Int} {a : Nat} (h : a + 1 < B.length) : numC B 2 ⟨a, 0⟩ = ⟨a + 2, 0⟩ ∧ numV B 2 ⟨a, 0⟩ = B.getD a 0 + 256 * B.getD (a + 1) 0 := by
  have := num_at (B := B) (a := a) (k := 2) (by omega) (by decide) (by decide)
  rw [take2 h] at this
  simpa [valI] using this
end Go.Proofs.Ythbpdmlbfnjoiaa
