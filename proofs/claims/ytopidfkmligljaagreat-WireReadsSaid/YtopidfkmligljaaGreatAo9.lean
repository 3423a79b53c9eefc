/- Numbers as bytes: plain laws. -/
import Derived.Test.YtopidfkmligljaaGreatAo6
import Derived.Lib.EndianBits
namespace Go.Proofs.YtopidfkmligljaaGreat
set_option linter.unusedSimpArgs false
set_option linter.unusedVariables false
set_option maxHeartbeats 4000000
open Go Go.Am
theorem pow_8 (k : Nat) : (2 : Int) ^ (8 * k) = 256 ^ k := by rw [Int.pow_mul]; rfl
theorem byteI_eq (v : Int) (k : Nat) (hk : k ≤ 8) : byteI v (8 * k) = v / 256 ^ k % 256 := by
  unfold byteI
  rw [Nat.min_eq_left (by omega), Int.fdiv_eq_ediv_of_nonneg _ (Int.pow_nonneg (by decide)), pow_8]
  simp [IntKind.wrap, IntKind.bits, IntKind.signed]
theorem fitsI_eq (v : Int) (k : Nat) : fitsI v (k : Int) = (v / 256 ^ k == 0) := by
  unfold fitsI
  rw [Int.fdiv_eq_ediv_of_nonneg _ (Int.pow_nonneg (by decide)), show (8 * (k : Int)).toNat = 8 * k by omega, pow_8]
/-- The number of bytes, the lowest first. -/
def valI : List Int → Int
  | [] => 0
  | c :: l => c + 256 * valI l
theorem valI_app (c : Int) : ∀ l : List Int, valI (l ++ [c]) = valI l + c * 256 ^ l.length
  | [] => by simp [valI]
  | d :: l => by
    simp only [List.cons_append, valI, valI_app c l, List.length_cons, Int.pow_succ]
    generalize (256 : Int) ^ l.length = q
    rw [Int.mul_add, Int.add_assoc, Int.mul_left_comm, Int.mul_comm 256 q]
def bytesB (l : List Int) : Prop := ∀ c ∈ l, 0 ≤ c ∧ c ≤ 255
theorem valI_lt : ∀ {l : List Int}, bytesB l → 0 ≤ valI l ∧ valI l < 256 ^ l.length
  | [], _ => by simp [valI]
  | c :: l, h => by
    have h1 := h c (by simp)
    have h2 := valI_lt (l := l) fun d hd => h d (by simp [hd])
    simp only [valI, List.length_cons, Int.pow_succ]
    omega
theorem mod_pow (v : Int) (h : 0 ≤ v) (k : Nat) : v % 256 ^ k + v / 256 ^ k % 256 * 256 ^ k = v % 256 ^ (k + 1) := by
  obtain ⟨n, rfl⟩ := Int.eq_ofNat_of_zero_le h
  have := Nat.mod_mul (a := 256 ^ k) (b := 256) (x := n)
  rw [← Nat.pow_succ] at this
  rw [Int.mul_comm]
  have h2 := congrArg (Nat.cast : Nat → Int) this
  rw [Int.natCast_add, Int.natCast_mul, Int.natCast_emod, Int.natCast_emod, Int.natCast_emod, Int.natCast_ediv, Int.natCast_pow, Int.natCast_pow] at h2
  exact h2.symm
theorem valI_leI (v : Int) (h : 0 ≤ v) : ∀ k, k ≤ 8 → valI (leI v k) = v % 256 ^ k
  | 0, _ => by simp [leI, valI]
  | k + 1, hk => by
    rw [leI, valI_app, valI_leI v h k (by omega), leI_len, byteI_eq v k (by omega), mod_pow v h k]
theorem leI_bytes (v : Int) : ∀ k, bytesB (leI v k)
  | 0 => by simp [leI, bytesB]
  | k + 1 => fun c hc => by
    rw [leI] at hc
    rcases List.mem_append.1 hc with hc | hc
    · exact leI_bytes v k c hc
    · rw [List.mem_singleton.1 hc]; unfold byteI; simp [IntKind.wrap, IntKind.bits, IntKind.signed]; omega
theorem fits_val (v : Int) (h : 0 ≤ v) (k : Nat) (hk : k ≤ 8) (hf : fitsI v (k : Int) = true) : valI (leI v k) = v := by
  rw [valI_leI v h k hk]
  rw [fitsI_eq] at hf
  have h0 : v / 256 ^ k = 0 := by simpa using hf
  have h1 := Int.emod_add_mul_ediv v (256 ^ k)
  rw [h0] at h1
  simpa using h1
theorem or_zero (c : Int) (hc : 0 ≤ c ∧ c ≤ 255) : bits .or .u64 0 c = c := by
  have h : ∀ n : Fin 256, bits .or .u64 0 (n.val : Int) = (n.val : Int) := by decide +kernel
  have := h ⟨c.toNat, by omega⟩
  rwa [show ((⟨c.toNat, by omega⟩ : Fin 256).val : Int) = c by simp; omega] at this
/-- One byte more, laid above. -/
theorem or_step (u c : Int) (i : Nat) (hi : i < 8) (hu : 0 ≤ u ∧ u < 256 ^ i) (hc : 0 ≤ c ∧ c ≤ 255) : bits .or .u64 u (IntKind.u64.wrap (c * 2 ^ (min (8 * i) 64))) = u + c * 256 ^ i := by
  rw [Nat.min_eq_left (by omega), pow_8]
  match i, hi with
  | 0, _ =>
    obtain rfl : u = 0 := by simp at hu; omega
    rw [show IntKind.u64.wrap (c * 256 ^ 0) = c by rw [wrap_u64] <;> simp <;> omega]
    rw [or_zero c hc]
    simp
  | 1, _ =>
    simp only [Int.reducePow, Nat.reduceAdd] at hu ⊢
    rw [wrap_u64 (by omega) (by omega)]
    exact u64_or8 _ _ hu.1 (by omega) (by omega) (by omega) (by omega)
  | 2, _ =>
    simp only [Int.reducePow, Nat.reduceAdd] at hu ⊢
    rw [wrap_u64 (by omega) (by omega)]
    exact u64_or16 _ _ hu.1 (by omega) (by omega) (by omega) (by omega)
  | 3, _ =>
    simp only [Int.reducePow, Nat.reduceAdd] at hu ⊢
    rw [wrap_u64 (by omega) (by omega)]
    exact u64_or24 _ _ hu.1 (by omega) (by omega) (by omega) (by omega)
  | 4, _ =>
    simp only [Int.reducePow, Nat.reduceAdd] at hu ⊢
    rw [wrap_u64 (by omega) (by omega)]
    exact u64_or32 _ _ hu.1 (by omega) (by omega) (by omega) (by omega)
  | 5, _ =>
    simp only [Int.reducePow, Nat.reduceAdd] at hu ⊢
    rw [wrap_u64 (by omega) (by omega)]
    exact u64_or40 _ _ hu.1 (by omega) (by omega) (by omega) (by omega)
  | 6, _ =>
    simp only [Int.reducePow, Nat.reduceAdd] at hu ⊢
    rw [wrap_u64 (by omega) (by omega)]
    exact u64_or48 _ _ hu.1 (by omega) (by omega) (by omega) (by omega)
  | 7, _ =>
    simp only [Int.reducePow, Nat.reduceAdd] at hu ⊢
    rw [wrap_u64 (by omega) (by omega)]
    exact u64_or56 _ _ hu.1 (by omega) (by omega) (by omega) (by omega)
end Go.Proofs.YtopidfkmligljaaGreat
